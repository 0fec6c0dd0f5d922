/- The document's Apply. -/
import Derived.Test.YtkalnfkokkjliaaGreatDoorD18
set_option linter.unusedVariables false
set_option linter.unusedSimpArgs false
namespace Dv
open Go Go.Proofs
variable {G : Nat → Option (List DV)}

section
variable {s : StateD} {o : OpD}
end
end Dv
