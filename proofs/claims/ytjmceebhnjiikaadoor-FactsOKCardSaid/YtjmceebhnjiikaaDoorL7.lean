/- What reports tell is OK. -/
import Derived.Test.YtjmceebhnjiikaaDoorP4
import Derived.Test.YtjmceebhnjiikaaDoorP5
import Derived.Test.YtjmceebhnjiikaaDoorP9
set_option linter.unusedVariables false
set_option linter.unusedSimpArgs false
namespace Dv

theorem f_apply_at {c : ConfD} {s : StateD} (h : RightP c s) {o : OpD} (ho : opOkB o = true) (hj : jobK o.kind = true → 1 ≤ o.a ∧ o.a ≤ s.jobs.length) (hn : nodeK o.kind = true → o.a < s.nodes.length) : applyD c s o = deedD c s o := by
  unfold applyD appD
  rw [if_neg (by simp [(right_iff c s).2 h]), if_neg (by simp [ho]), if_neg (fun e => by have := hj e.1; omega), if_neg (fun e => by have := hn e.1; omega)]
theorem f_meant_rng {c : ConfD} {s : StateD} (h : RightP c s) : 1 ≤ meant s ∧ meant s ≤ 9 := by
  unfold meant; split
  · exact h.prior
  · exact h.goal
theorem op_fact {k a b : Int} (hk : k = 8 ∨ k = 10 ∨ k = 13 ∨ k = 19) (ha : 0 ≤ a ∧ a ≤ 1000000) (hb : 0 ≤ b ∧ b ≤ 1000000) : opOkB ⟨k, a, b, 0, 0, 0, 0⟩ = true := by
  rcases hk with rfl | rfl | rfl | rfl <;> simp [opOkB, numOk, manyK] <;> omega
theorem op_fact1 {k a : Int} (hk : k = 14 ∨ k = 15) (ha : 0 ≤ a ∧ a ≤ 1000000) : opOkB ⟨k, a, 0, 0, 0, 0, 0⟩ = true := by
  rcases hk with rfl | rfl <;> simp [opOkB, numOk, manyK] <;> omega

theorem facts_ok {c : ConfD} {s : StateD} (h : RightP c s) {now : Int} (hnow : 0 ≤ now ∧ now ≤ 1000000) {o : OpD} (q : TellP s now o) : (applyD c s o).2 = 0 := by
  have hln := h.len
  have hlj := h.jobs
  have N : ∀ i : Nat, i < s.nodes.length → nodeA s (i : Int) = noA s i := fun i hi => rfl
  have J : ∀ k : Nat, jobA s ((k : Int) + 1) = joA s k := fun k => by unfold jobA joA; rw [show ((k : Int) + 1 - 1).toNat = k by omega]
  have hmt := f_meant_rng h
  cases q with
  | up i v hi h1 hv =>
    rw [f_apply_at h (op_fact (by omega) (by omega) (by omega)) (fun e => by cases e) (fun _ => by dsimp only; omega), show ∀ a b, deedD c s ⟨8, a, b, 0, 0, 0, 0⟩ = upD s ⟨8, a, b, 0, 0, 0, 0⟩ from fun _ _ => rfl]
    unfold upD
    dsimp only
    rw [N i hi, if_neg (by unfold withinB; simp; omega), if_neg (by rw [h1]; decide)]
  | moved i hi h1 =>
    rw [f_apply_at h (op_fact (by omega) (by omega) (by omega)) (fun e => by cases e) (fun _ => by dsimp only; omega), show ∀ a b, deedD c s ⟨19, a, b, 0, 0, 0, 0⟩ = movedD s ⟨19, a, b, 0, 0, 0, 0⟩ from fun _ _ => rfl]
    unfold movedD
    dsimp only
    rw [N i hi, if_neg (by unfold withinB; simp; omega), if_neg (by rw [h1]; decide)]
  | start k hk h1 =>
    rw [f_apply_at h (op_fact (by omega) (by omega) (by omega)) (fun e => by dsimp only; omega) (fun e => by cases e), show ∀ a b, deedD c s ⟨10, a, b, 0, 0, 0, 0⟩ = startD s ⟨10, a, b, 0, 0, 0, 0⟩ from fun _ _ => rfl]
    unfold startD
    dsimp only
    rw [J, if_neg (fun e => e h1)]
  | done k hk h1 =>
    rw [f_apply_at h (op_fact1 (by omega) (by omega)) (fun e => by dsimp only; omega) (fun e => by cases e), show ∀ a, deedD c s ⟨15, a, 0, 0, 0, 0, 0⟩ = doneD s ⟨15, a, 0, 0, 0, 0, 0⟩ from fun _ => rfl]
    unfold doneD runsB
    dsimp only
    rw [J, if_neg (by rw [h1]; decide)]
  | saved k hk h1 h2 =>
    have hn := h.num k hk
    have hinc := hn.inc
    rw [f_apply_at h (op_fact (by omega) (by omega) (by omega)) (fun e => by dsimp only; omega) (fun e => by cases e), show ∀ a b, deedD c s ⟨13, a, b, 0, 0, 0, 0⟩ = savedD s ⟨13, a, b, 0, 0, 0, 0⟩ from fun _ _ => rfl]
    unfold savedD runsB
    dsimp only
    rw [J, if_neg (by rw [h1]; decide), if_neg (by omega)]
  | evict k hk h1 =>
    rw [f_apply_at h (op_fact1 (by omega) (by omega)) (fun e => by dsimp only; omega) (fun e => by cases e), show ∀ a, deedD c s ⟨14, a, 0, 0, 0, 0, 0⟩ = evictD s ⟨14, a, 0, 0, 0, 0, 0⟩ from fun _ => rfl]
    unfold evictD
    dsimp only
    rw [J, if_neg (fun e => e h1)]
end Dv
