/- code: a number as bytes, a list as bytes. -/
import Derived.Test.YtcfcigjkijkhdaaDoorI0
set_option linter.unusedVariables false
set_option linter.unusedSimpArgs false
namespace Dv
open Go Go.Proofs
variable {G : Nat → Option (List DV)}


attribute [local go_sem] u8

theorem digs_lt (f : Nat) {m : Int} (h : m < 128) : digs f m = [m] := by
  cases f with
  | zero => rfl
  | succ f => rw [digs, if_neg (by omega)]
theorem or_more (m : Int) (h0 : 0 ≤ m) (h1 : m < 128) : orI .u8 m 128 = m + 128 := by
  obtain ⟨d, rfl⟩ := Int.eq_ofNat_of_zero_le h0
  have : ∀ d : Fin 128, orI .u8 (d.val : Int) 128 = (d.val : Int) + 128 := by decide
  exact this ⟨d, by omega⟩
theorem u8_in (m : Int) (h0 : 0 ≤ m) (h1 : m < 256) : IntKind.u8.wrap m = m := by
  simp [IntKind.wrap, IntKind.bits, IntKind.signed]; omega

def numS (p : Int × List Int) : St := ⟨[(0, .int p.1), (3, .sl 0 p.2.length 1 0 p.2.length)], [some (.dat 5 1 (byteR p.2))]⟩

theorem digs_len : ∀ (f : Nat) (m : Int), 1 ≤ (digs f m).length ∧ (digs f m).length ≤ f + 1
  | 0, m => by simp [digs]
  | f + 1, m => by
    unfold digs
    split
    · have := digs_len f (m / 128); simp; omega
    · simp
theorem numB_pos {n : Int} (h : isNum n = true) : 1 ≤ (numB n).length := by unfold numB; rw [if_pos h]; exact (digs_len 8 n).1
theorem numB_le (n : Int) : (numB n).length ≤ 9 := by
  unfold numB
  split
  · exact (digs_len 8 n).2
  · simp
attribute [local go_sem] bytesV
def liS (l : List Int) (i : Nat) : St := ⟨[(3, .sl 0 (numB l.length ++ (l.take i).flatMap numB).length 1 0 (numB l.length ++ (l.take i).flatMap numB).length), (10, .d (.lst 1 (numR l))), (11, .int l.length), (12, .int i)], [some (.dat 5 1 (byteR (numB l.length ++ (l.take i).flatMap numB)))]⟩
attribute [local go_sem] numR
theorem flat_le (l : List Int) : (l.flatMap numB).length ≤ 9 * l.length := by
  induction l with
  | nil => simp
  | cons x l ih => rw [List.flatMap_cons, List.length_append, List.length_cons]; have := numB_le x; omega
end Dv
