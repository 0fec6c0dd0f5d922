/- Trails, plain: the states behind their ops. -/
import Derived.Test.YtkalnfkokkjliaaGreatDoorL3
set_option linter.unusedVariables false
set_option linter.unusedSimpArgs false
namespace Dv
open Go Go.Proofs
theorem new_rightT {c : ConfD} (h : mayB c = true) : RightP c (newD c) := by
  have hn := mayB_nodes h
  have hq := mayB_spec h
  have h4 : 0 ≤ c.quota := by
    have := h
    unfold mayB at this
    simp only [Bool.and_eq_true] at this
    exact (within_t this.1.1.1.1.1.1.2).1
  have e : newD c = ⟨List.replicate c.nodes.toNat node1, [], 1, 1, 0, 0⟩ := if_pos h
  have hg : ∀ i, i < c.nodes.toNat → (List.replicate c.nodes.toNat node1).getD i zeroNode = node1 := fun i hi => by simp [List.getD,hi]
  rw [e]
  refine ⟨h, by simp; omega, by simp, by dsimp only; omega, by dsimp only; omega, by dsimp only; omega, by dsimp only; omega, fun k hk => by simp at hk, fun k hk => by simp at hk, fun k hk => by simp at hk, fun i hi => ?_, fun i hi => ?_, fun i hi hm => ?_, fun i hi h0 => ?_, fun i k hi hk => by simp at hk, fun q hq => by simpa [drainsL] using h4⟩
  all_goals
    dsimp only [List.length_replicate] at hi
    simp only [List.length_replicate] at hi
  · unfold noA; rw [hg i hi]; decide
  · unfold noA; rw [hg i hi]; simp [node1]
  · unfold noA at hm; rw [hg i hi] at hm; cases hm
  · unfold noA at h0; rw [hg i hi] at h0; exact absurd rfl h0


def stN (c : ConfD) (s : StateD) (l : List OpD) : Nat → StateD
  | 0 => s
  | k + 1 => (applyD c (stN c s l k) (l.getD k zeroOp)).1
def OkT (c : ConfD) (s : StateD) (l : List OpD) : Prop := ∀ k, k < l.length → (applyD c (stN c s l k) (l.getD k zeroOp)).2 = 0
theorem stN_right {c : ConfD} {s : StateD} (h : RightP c s) (l : List OpD) : ∀ k, RightP c (stN c s l k)
  | 0 => h
  | k + 1 => apply_right (stN_right h l k) _
theorem stN_app (c : ConfD) (s : StateD) (l m : List OpD) : ∀ k, k ≤ l.length → stN c s (l ++ m) k = stN c s l k
  | 0, _ => rfl
  | k + 1, h => by
    have e : (l ++ m).getD k zeroOp = l.getD k zeroOp := by simp [List.getD,List.getElem?_append_left (show k < l.length by omega)]
    simp only [stN,stN_app c s l m k (by omega),e]
theorem stN_snoc (c : ConfD) (s : StateD) (l : List OpD) (o : OpD) : stN c s (l ++ [o]) (l.length + 1) = (applyD c (stN c s l l.length) o).1 := by
  have e : (l ++ [o]).getD l.length zeroOp = o := by simp [List.getD]
  simp only [stN,stN_app c s l [o] l.length (Nat.le_refl _), e]
theorem OkT.snoc {c : ConfD} {s : StateD} {l : List OpD} (h : OkT c s l) {o : OpD} (ho : (applyD c (stN c s l l.length) o).2 = 0) : OkT c s (l ++ [o]) := by
  intro k hk
  rw [List.length_append, List.length_singleton] at hk
  rw [stN_app c s l [o] k (by omega)]
  by_cases hkl : k < l.length
  · have e : (l ++ [o]).getD k zeroOp = l.getD k zeroOp := by simp [List.getD,List.getElem?_append_left hkl]
    rw [e]; exact h k hkl
  · obtain rfl : k = l.length := by omega
    have e : (l ++ [o]).getD l.length zeroOp = o := by simp [List.getD]
    rw [e]; exact ho
def isOfB (o : OpD) (job : Int) : Bool := (o.kind == 2 || o.kind == 9 || o.kind == 10 || o.kind == 11 || o.kind == 12 || o.kind == 13 || o.kind == 14 || o.kind == 15 || o.kind == 20) && o.a == job
def ofTo (age : Int) (l : List OpD) (job : Int) : Nat → List Int
  | 0 => []
  | k + 1 => ofTo age l job k ++ if isOfB (l.getD k zeroOp) job = true then [age + k] else []
theorem ofTo_len (age : Int) (l : List OpD) (job : Int) : ∀ k, (ofTo age l job k).length ≤ k
  | 0 => Nat.le_refl _
  | k + 1 => by
    have := ofTo_len age l job k
    unfold ofTo
    split <;> simp <;> omega
end Dv
