/- The document's book: Fits, Right, LetGo, Same. -/
import Derived.Test.YtkalnfkokkjliaaGreatDoorD15
set_option linter.unusedVariables false
set_option linter.unusedSimpArgs false
namespace Dv
open Go Go.Proofs
variable {G : Nat → Option (List DV)}

end Dv
