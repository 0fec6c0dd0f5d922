/- Plain: runs of the plan: they split; what they keep. -/
import Derived.Test.YtcanhhnmfkdclaaGreatDoorQ6
import Derived.Test.YtcanhhnmfkdclaaGreatDoorL3
set_option linter.unusedVariables false
set_option linter.unusedSimpArgs false
namespace Dv
open Go

theorem runTo_acc (c : ConfD) (now : Int) : ∀ (n : Nat) (s : StateD) (l : List OpD), runTo c now n s l = ((runTo c now n s []).1, l ++ (runTo c now n s []).2)
  | 0, s, l => by simp [runTo]
  | n + 1, s, l => by
    unfold runTo
    cases planO c s now with
    | none => simp
    | some o =>
      simp only
      by_cases h : (applyD c s o).2 = 0
      · rw [if_pos h, if_pos h, runTo_acc c now n _ (l ++ [o]), runTo_acc c now n _ ([] ++ [o])]
        simp
      · rw [if_neg h, if_neg h]; simp
theorem runTo_stop {c : ConfD} {now : Int} {s : StateD} (h : planO c s now = none ∨ ∃ o, planO c s now = some o ∧ (applyD c s o).2 ≠ 0) (n : Nat) (l : List OpD) : runTo c now n s l = (s, l) := by
  cases n with
  | zero => rfl
  | succ n =>
    unfold runTo
    rcases h with h | ⟨o, h, h2⟩
    · rw [h]
    · rw [h]
      simp only
      rw [if_neg h2]
theorem runTo_right {c : ConfD} {now : Int} : ∀ (n : Nat) (s : StateD) (l : List OpD), RightP c s → RightP c (runTo c now n s l).1
  | 0, s, l, h => h
  | n + 1, s, l, h => by
    unfold runTo
    cases planO c s now with
    | none => exact h
    | some o =>
      simp only
      split
      · exact runTo_right n _ _ (apply_right h o)
      · exact h
theorem runTo_len {c : ConfD} {now : Int} : ∀ (n : Nat) (s : StateD), (runTo c now n s []).2.length ≤ n
  | 0, s => by simp [runTo]
  | n + 1, s => by
    unfold runTo
    cases planO c s now with
    | none => simp
    | some o =>
      simp only
      split
      · rw [runTo_acc]
        have := runTo_len (c := c) (now := now) n (applyD c s o).1
        simp; omega
      · simp
structure KeepP (s t : StateD) : Prop where
  len : t.jobs.length = s.jobs.length
  goal : t.goal = s.goal
  mode : t.mode = s.mode
  term : t.term = s.term
  job : ∀ k, k < s.jobs.length → ((joA t k).phase = 4 ↔ (joA s k).phase = 4) ∧ (joA t k).epoch = (joA s k).epoch
theorem KeepP.refl (s : StateD) : KeepP s s := ⟨rfl, rfl, rfl, rfl, fun _ _ => ⟨Iff.rfl, rfl⟩⟩
theorem KeepP.trans {s t u : StateD} (h : KeepP s t) (h2 : KeepP t u) : KeepP s u :=
  ⟨h2.len.trans h.len, h2.goal.trans h.goal, h2.mode.trans h.mode, h2.term.trans h.term, fun k hk => ⟨(h2.job k (by rw [h.len]; exact hk)).1.trans (h.job k hk).1, (h2.job k (by rw [h.len]; exact hk)).2.trans (h.job k hk).2⟩⟩
end Dv
