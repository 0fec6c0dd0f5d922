/- What agents' reports mean: plain data (no program in sight). -/
import Derived.Test.YtkalnfkokkjliaaGreatDoorPA
set_option linter.unusedVariables false
set_option linter.unusedSimpArgs false
namespace Dv

def silentL (lease now : Int) : List Bool → List Int → Int → Int
  | u :: us, h :: hs, i => if u = true ∧ h + lease ≤ now then i else silentL lease now us hs (i + 1)
  | _, _, _ => -1
end Dv
