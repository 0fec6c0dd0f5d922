/- Clone, Copy. -/
import Derived.Test.YtcanhhnmfkdclaaD4
set_option linter.unusedVariables false
set_option linter.unusedSimpArgs false
namespace Dv
open Go Go.Proofs
variable {G : Nat → Option (List DV)}



end Dv
