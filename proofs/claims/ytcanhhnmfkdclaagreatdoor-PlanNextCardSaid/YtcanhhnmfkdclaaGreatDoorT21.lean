/- The document's plan: Run. -/
import Derived.Test.YtcanhhnmfkdclaaGreatDoorT20
import Derived.Test.YtcanhhnmfkdclaaGreatDoorD19
import Derived.Test.YtcanhhnmfkdclaaGreatDoorL1
import Derived.Test.YtcanhhnmfkdclaaGreatDoorQ7
set_option linter.unusedVariables false
set_option linter.unusedSimpArgs false
namespace Dv
open Go Go.Proofs
variable {G : Nat → Option (List DV)}
structure RunS where
  s : StateD
  l : List OpD
end Dv
