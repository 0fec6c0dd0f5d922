/- The document's numbers and lists out of bytes. -/
import Derived.Test.YtcfcigjkijkhdaaDoorI11
set_option linter.unusedVariables false
set_option linter.unusedSimpArgs false
namespace Dv
open Go Go.Proofs
variable {G : Nat → Option (List DV)}


attribute [local go_sem] u8 bytesV numRes

theorem digs_up : ∀ (i f : Nat) (m : Int), m < 128 ^ (i + 1) → (digs f m).length ≤ i + 1
  | 0, f, m, h => by rw [digs_lt f (by simpa using h)]; simp
  | i + 1, 0, m, h => by simp [digs]
  | i + 1, f + 1, m, h => by
    unfold digs
    split
    · have h2 : m / 128 < 128 ^ (i + 1) := by
        rw [Int.pow_succ] at h
        exact Int.ediv_lt_of_lt_mul (by decide) h
      have := digs_up i f (m / 128) h2
      simp; omega
    · simp
theorem digs_dn : ∀ (i f : Nat) (m : Int), i ≤ f → 128 ^ i ≤ m → i + 1 ≤ (digs f m).length
  | 0, f, m, _, _ => by have := (digs_len f m).1; omega
  | i + 1, 0, m, h, _ => by omega
  | i + 1, f + 1, m, hi, h => by
    have hp : (1 : Int) ≤ 128 ^ i := Int.pow_pos (by decide)
    rw [Int.pow_succ] at h
    rw [digs, if_pos (by omega)]
    have h2 : 128 ^ i ≤ m / 128 := Int.le_ediv_of_mul_le (by decide) h
    have := digs_dn i f (m / 128) (by omega) h2
    simp; omega

def gn1S (b : List Int) (a0 : Nat) (p : Nat × Int) : St := ⟨[(0, bytesV b), (1, .int a0), (7, .int p.2), (8, .int (128 ^ p.1)), (9, .int p.1)], []⟩
def gl1S (b : List Int) (n : Int) (p : List Int × Nat) : St := ⟨[(0, bytesV b), (9, .int n), (10, .int p.2), (12, .sl 0 p.1.length 1 0 p.1.length), (13, .int p.1.length)], [some (LObj.dat 3 1 (numR p.1))]⟩
def gl1Res : Option (List Int × Nat) → LV
  | none => .tup [.d (.val (.slice none 0 0)), .int 0, .bool false]
  | some (xs, e) => .tup [.sl 0 xs.length 1 0 xs.length, .int e, .bool true]
def gl1Obj : Option (List Int × Nat) → List LObj
  | none => []
  | some (xs, e) => [.dat 3 1 (numR xs)]
end Dv
