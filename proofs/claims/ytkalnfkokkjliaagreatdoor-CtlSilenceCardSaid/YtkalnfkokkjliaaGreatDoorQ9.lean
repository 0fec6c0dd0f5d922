/- Trails, plain: the states behind their ops. -/
import Derived.Test.YtkalnfkokkjliaaGreatDoorL3
set_option linter.unusedVariables false
set_option linter.unusedSimpArgs false
namespace Dv
open Go Go.Proofs
theorem new_rightT {c : ConfD} (h : mayB c = true) : RightP c (newD c) := by
  have hn := mayB_nodes h
  have hq := mayB_spec h
  have h4 : 0 ≤ c.quota := by
    have := h
    unfold mayB at this
    simp only [Bool.and_eq_true] at this
    exact (within_t this.1.1.1.1.1.1.2).1
  have e : newD c = ⟨List.replicate c.nodes.toNat node1, [], 1, 1, 0, 0⟩ := if_pos h
  have hg : ∀ i, i < c.nodes.toNat → (List.replicate c.nodes.toNat node1).getD i zeroNode = node1 := fun i hi => by simp [List.getD,hi]
  rw [e]
  refine ⟨h, by simp; omega, by simp, by dsimp only; omega, by dsimp only; omega, by dsimp only; omega, by dsimp only; omega, fun k hk => by simp at hk, fun k hk => by simp at hk, fun k hk => by simp at hk, fun i hi => ?_, fun i hi => ?_, fun i hi hm => ?_, fun i hi h0 => ?_, fun i k hi hk => by simp at hk, fun q hq => by simpa [drainsL] using h4⟩
  all_goals
    dsimp only [List.length_replicate] at hi
    simp only [List.length_replicate] at hi
  · unfold noA; rw [hg i hi]; decide
  · unfold noA; rw [hg i hi]; simp [node1]
  · unfold noA at hm; rw [hg i hi] at hm; cases hm
  · unfold noA at h0; rw [hg i hi] at h0; exact absurd rfl h0


end Dv
