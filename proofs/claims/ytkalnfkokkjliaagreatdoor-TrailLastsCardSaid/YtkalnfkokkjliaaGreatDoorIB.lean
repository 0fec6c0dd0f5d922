/- part -/
import Derived.Test.YtkalnfkokkjliaaGreatDoorI8
set_option linter.all false
set_option maxRecDepth 100000
namespace Dv
open Go Go.Proofs
variable {G:Nat→Option (List DV)}
attribute [local go_sem] u8
structure adx where
 i:Nat
 m:Int
 out:List Int
attribute [local go_sem] ak
end Dv
namespace Dv
open Go Go.Proofs
variable {G:Nat→Option (List DV)}
attribute [local go_sem] u8 ak gW
theorem Al {α:Type} (l:List α) (k:Nat) (z:α) (h:k<l.length):l.drop k=l.getD k z::l.drop (k+1):=by
 rw [List.drop_eq_getElem_cons h]; simp [List.getD,h]
end Dv
namespace Dv
open Go Go.Proofs
variable {G:Nat→Option (List DV)}
attribute [local go_sem] u8 ak fP
end Dv
