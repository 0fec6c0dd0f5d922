/- facts.every: whether a test takes all of a set's nodes. -/
import Derived.Test.YtkalnfkokkjliaaGreatDoorR1
import Derived.Test.YtkalnfkokkjliaaGreatDoorVD
import Derived.RangeFuncWrites
set_option linter.unusedVariables false
set_option linter.unusedSimpArgs false
namespace Dv
open Go
section
variable {G : Nat → Option (List DV)} {J : Nat → Prop} {w : World} {ι : Nat → Nat → Option Nat} {obj : Nat → OSt}
end
end Dv
namespace Go.Proofs
open Go.RowKit Go.Shelf
attribute [local go_sem] Oper.semAt_some

end Go.Proofs
