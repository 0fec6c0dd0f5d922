/- The document's Why: an op's error. -/
import Derived.Test.YtkalnfkokkjliaaGreatDoorD16
set_option linter.unusedVariables false
set_option linter.unusedSimpArgs false
namespace Dv
open Go Go.Proofs
variable {G : Nat → Option (List DV)}

section
variable {c : ConfD} {s : StateD} {o : OpD} (ho : opOkB o = true)
include ho
end
end Dv
