/- Plain: runs of the plan: they split; what they keep. -/
import Derived.Test.YtcanhhnmfkdclaaGreatDoorQ6
import Derived.Test.YtcanhhnmfkdclaaGreatDoorL3
set_option linter.unusedVariables false
set_option linter.unusedSimpArgs false
namespace Dv
open Go

theorem runTo_acc (c : ConfD) (now : Int) : ∀ (n : Nat) (s : StateD) (l : List OpD), runTo c now n s l = ((runTo c now n s []).1, l ++ (runTo c now n s []).2)
  | 0, s, l => by simp [runTo]
  | n + 1, s, l => by
    unfold runTo
    cases planO c s now with
    | none => simp
    | some o =>
      simp only
      by_cases h : (applyD c s o).2 = 0
      · rw [if_pos h, if_pos h, runTo_acc c now n _ (l ++ [o]), runTo_acc c now n _ ([] ++ [o])]
        simp
      · rw [if_neg h, if_neg h]; simp
theorem runTo_stop {c : ConfD} {now : Int} {s : StateD} (h : planO c s now = none ∨ ∃ o, planO c s now = some o ∧ (applyD c s o).2 ≠ 0) (n : Nat) (l : List OpD) : runTo c now n s l = (s, l) := by
  cases n with
  | zero => rfl
  | succ n =>
    unfold runTo
    rcases h with h | ⟨o, h, h2⟩
    · rw [h]
    · rw [h]
      simp only
      rw [if_neg h2]
theorem runTo_right {c : ConfD} {now : Int} : ∀ (n : Nat) (s : StateD) (l : List OpD), RightP c s → RightP c (runTo c now n s l).1
  | 0, s, l, h => h
  | n + 1, s, l, h => by
    unfold runTo
    cases planO c s now with
    | none => exact h
    | some o =>
      simp only
      split
      · exact runTo_right n _ _ (apply_right h o)
      · exact h
theorem runTo_len {c : ConfD} {now : Int} : ∀ (n : Nat) (s : StateD), (runTo c now n s []).2.length ≤ n
  | 0, s => by simp [runTo]
  | n + 1, s => by
    unfold runTo
    cases planO c s now with
    | none => simp
    | some o =>
      simp only
      split
      · rw [runTo_acc]
        have := runTo_len (c := c) (now := now) n (applyD c s o).1
        simp; omega
      · simp
/-- what a plan's op does not turn. -/
structure KeepP (s t : StateD) : Prop where
  len : t.jobs.length = s.jobs.length
  goal : t.goal = s.goal
  mode : t.mode = s.mode
  term : t.term = s.term
  job : ∀ k, k < s.jobs.length → ((joA t k).phase = 4 ↔ (joA s k).phase = 4) ∧ (joA t k).epoch = (joA s k).epoch
theorem KeepP.refl (s : StateD) : KeepP s s := ⟨rfl, rfl, rfl, rfl, fun _ _ => ⟨Iff.rfl, rfl⟩⟩
theorem KeepP.trans {s t u : StateD} (h : KeepP s t) (h2 : KeepP t u) : KeepP s u :=
  ⟨h2.len.trans h.len, h2.goal.trans h.goal, h2.mode.trans h.mode, h2.term.trans h.term, fun k hk => ⟨(h2.job k (by rw [h.len]; exact hk)).1.trans (h.job k hk).1, (h2.job k (by rw [h.len]; exact hk)).2.trans (h.job k hk).2⟩⟩
theorem keep_nodes (s : StateD) (ns : List NodeD) : KeepP s { s with nodes := ns } := ⟨rfl, rfl, rfl, rfl, fun _ _ => ⟨Iff.rfl, rfl⟩⟩
theorem keep_job (s : StateD) (ns : List NodeD) (i : Nat) (j : JobD) (h : j.phase ≠ 4) (h2 : (s.jobs.getD i zeroJob).phase ≠ 4) (h3 : j.epoch = (s.jobs.getD i zeroJob).epoch) : KeepP s { s with nodes := ns, jobs := s.jobs.set i j } := by
  refine ⟨by simp, rfl, rfl, rfl, fun k hk => ?_⟩
  simp only [joA,List.getD_eq_getElem?_getD,List.getElem?_set]
  by_cases e : i = k
  · subst e
    simp only [List.getD_eq_getElem?_getD] at h2 h3
    simp only [if_pos trivial,if_pos hk,Option.getD_some]
    exact ⟨⟨fun q => absurd q h, fun q => absurd q h2⟩, h3⟩
  · simp only [if_neg e]
    exact ⟨trivial, trivial⟩
def planK (k : Int) : Bool := decide (k = 9 ∨ k = 11 ∨ k = 12 ∨ k = 14 ∨ k = 16 ∨ k = 17 ∨ k = 18 ∨ k = 20)
theorem plan_kind {c : ConfD} {s : StateD} {now : Int} {o : OpD} (h : planO c s now = some o) : planK o.kind = true := by
  unfold planO at h
  split at h
  · rename_i p hp
    unfold evictO at hp
    split at hp
    · cases hp
    · cases hp; cases h; rfl
  · split at h
    · rename_i p hp
      cases h
      have := next_asked c s now _ hp
      cases this <;> rfl
    · unfold holdO at h
      split at h
      · cases h; rfl
      · cases h
theorem keep_release (s : StateD) (a : Int) (h : (jobA s a).phase ≠ 4) : KeepP s (releaseD s a 0) := keep_job s _ _ _ (by simp) h rfl
theorem keep_apply {c : ConfD} {s : StateD} {o : OpD} (hk : planK o.kind = true) (h : (applyD c s o).2 = 0) : KeepP s (applyD c s o).1 := by
  unfold applyD at h ⊢
  split at h
  · cases h
  rename_i hr
  rw [if_neg hr]
  unfold appD at h ⊢
  split at h
  · cases h
  rename_i h1
  rw [if_neg h1]
  split at h
  · cases h
  rename_i h2
  rw [if_neg h2]
  split at h
  · cases h
  rename_i h3
  rw [if_neg h3]
  unfold planK at hk
  have hk := of_decide_eq_true hk
  rcases hk with hk | hk | hk | hk | hk | hk | hk | hk <;> unfold deedD at h ⊢ <;> simp only [hk,if_true,if_false,reduceIte,Int.reduceEq] at h ⊢
  · unfold holdD at h ⊢
    split at h
    · cases h
    rename_i g1
    rw [if_neg g1]
    split at h
    · cases h
    rename_i g2
    rw [if_neg g2]
    have e : (jobA s o.a).phase = 0 := by simpa using g1
    refine keep_job s _ _ _ (by simp) ?_ rfl
    unfold jobA at e; rw [e]; decide
  · unfold unholdD at h ⊢
    split at h
    · cases h
    rename_i g1
    rw [if_neg g1]
    exact keep_release s o.a (by have : (jobA s o.a).phase = 1 := by simpa using g1
                                 rw [this]; decide)
  · unfold drainD at h ⊢
    split at h
    · cases h
    rename_i g1
    rw [if_neg g1]
    split at h
    · cases h
    rename_i g2
    rw [if_neg g2]
    have e : (jobA s o.a).phase = 2 := by simpa using g1
    refine keep_job s _ _ _ (by simp) ?_ rfl
    unfold jobA at e; rw [e]; decide
  · unfold evictD at h ⊢
    split at h
    · cases h
    rename_i g1
    rw [if_neg g1]
    exact keep_release s o.a (by have : (jobA s o.a).phase = 3 := by simpa using g1
                                 rw [this]; decide)
  · unfold cordonD at h ⊢
    split at h
    · cases h
    rename_i g1
    rw [if_neg g1]
    exact keep_nodes s _
  · unfold uncordonD at h ⊢
    split at h
    · cases h
    rename_i g1
    rw [if_neg g1]
    exact keep_nodes s _
  · unfold moveD at h ⊢
    split at h
    · cases h
    rename_i g1
    rw [if_neg g1]
    exact keep_nodes s _
  · unfold shrinkD at h ⊢
    split at h
    · cases h
    rename_i g1
    rw [if_neg g1]
    split at h
    · cases h
    rename_i g2
    rw [if_neg g2]
    split at h
    · cases h
    rename_i g3
    rw [if_neg g3]
    have e : (jobA s o.a).phase = 2 := by simpa using g2
    refine keep_job s _ _ _ ?_ ?_ rfl
    · simp [e]
    · unfold jobA at e; rw [e]; decide
theorem runTo_keep {c : ConfD} {now : Int} : ∀ (n : Nat) (s : StateD), KeepP s (runTo c now n s []).1 ∧ ∀ o ∈ (runTo c now n s []).2, planK o.kind = true
  | 0, s => ⟨KeepP.refl s, fun o h => by simp [runTo] at h⟩
  | n + 1, s => by
    cases hp : planO c s now with
    | none =>
      rw [runTo_stop (.inl hp)]
      exact ⟨KeepP.refl s, fun o h => by simp at h⟩
    | some o =>
      by_cases h : (applyD c s o).2 = 0
      · have e : runTo c now (n + 1) s [] = ((runTo c now n (applyD c s o).1 []).1, o :: (runTo c now n (applyD c s o).1 []).2) := by
          rw [runTo, hp]
          simp only
          rw [if_pos h, runTo_acc]
          simp
        obtain ⟨i1, i2⟩ := runTo_keep (c := c) (now := now) n (applyD c s o).1
        rw [e]
        refine ⟨(keep_apply (plan_kind hp) h).trans i1, fun p hp2 => ?_⟩
        rcases List.mem_cons.1 hp2 with rfl | hp2
        · exact plan_kind hp
        · exact i2 p hp2
      · rw [runTo_stop (.inr ⟨o, hp, h⟩)]
        exact ⟨KeepP.refl s, fun o h => by simp at h⟩
end Dv
