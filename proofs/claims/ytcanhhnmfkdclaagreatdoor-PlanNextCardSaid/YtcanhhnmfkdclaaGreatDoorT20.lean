/- The document's plan: the same ops. -/
import Derived.Test.YtcanhhnmfkdclaaGreatDoorT19
set_option linter.unusedVariables false
set_option linter.unusedSimpArgs false
namespace Dv
open Go Go.Proofs
variable {G : Nat → Option (List DV)}
end Dv
