/- The book: Drains, fits, stands, sound, Right. -/
import Derived.Test.YtcfcigjkijkhdaaDoorDB
set_option linter.unusedVariables false
set_option linter.unusedSimpArgs false
namespace Dv
open Go Go.Proofs
variable {G : Nat → Option (List DV)}



end Dv
