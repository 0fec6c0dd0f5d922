/- The document's lists as bytes; the same bytes. -/
import Derived.Test.YtcfcigjkijkhdaaDoorI10
set_option linter.unusedVariables false
set_option linter.unusedSimpArgs false
namespace Dv
open Go Go.Proofs
variable {G : Nat → Option (List DV)}


attribute [local go_sem] u8 bytesV numR

theorem dropD_cons {α : Type} (l : List α) (k : Nat) (z : α) (h : k < l.length) : l.drop k = l.getD k z :: l.drop (k + 1) := by
  rw [List.drop_eq_getElem_cons h]; simp [List.getD, h]
theorem dropD_dec {α : Type} [DecidableEq α] (l m : List α) (k : Nat) (z : α) (h1 : k < l.length) (h2 : k < m.length) : decide (l.drop k = m.drop k) = (decide (l.getD k z = m.getD k z) && decide (l.drop (k + 1) = m.drop (k + 1))) := by
  rw [dropD_cons l k z h1, dropD_cons m k z h2, Bool.eq_iff_iff]
  simp
def bytesS (a b : List Int) (k : Nat) : St := ⟨[(0, bytesV a), (1, bytesV b), (5, .int k)], []⟩
def li1S (l : List Int) (i : Nat) : St := ⟨[(0, .d (.lst 1 (numR l))), (3, .sl 0 (numB l.length ++ (l.take i).flatMap numB).length 1 0 (numB l.length ++ (l.take i).flatMap numB).length), (4, .int i)], [some (.dat 5 1 (byteR (numB l.length ++ (l.take i).flatMap numB)))]⟩
def li1T (l pre b : List Int) (i k : Nat) : St := ⟨[(0, .d (.lst 1 (numR l))), (3, .sl 0 (pre ++ b.take k).length 1 0 (pre ++ b.take k).length), (4, .int i), (5, bytesV b), (6, .int k)], [some (.dat 5 1 (byteR (pre ++ b.take k)))]⟩
end Dv
