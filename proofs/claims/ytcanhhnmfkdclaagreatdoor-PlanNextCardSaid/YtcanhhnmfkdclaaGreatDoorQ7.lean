/- Plain: runs of the plan: they split; what they keep. -/
import Derived.Test.YtcanhhnmfkdclaaGreatDoorQ6
import Derived.Test.YtcanhhnmfkdclaaGreatDoorL3
set_option linter.unusedVariables false
set_option linter.unusedSimpArgs false
namespace Dv
open Go

theorem runTo_stop {c : ConfD} {now : Int} {s : StateD} (h : planO c s now = none ∨ ∃ o, planO c s now = some o ∧ (applyD c s o).2 ≠ 0) (n : Nat) (l : List OpD) : runTo c now n s l = (s, l) := by
  cases n with
  | zero => rfl
  | succ n =>
    unfold runTo
    rcases h with h | ⟨o, h, h2⟩
    · rw [h]
    · rw [h]
      simp only
      rw [if_neg h2]
structure KeepP (s t : StateD) : Prop where
  len : t.jobs.length = s.jobs.length
  goal : t.goal = s.goal
  mode : t.mode = s.mode
  term : t.term = s.term
  job : ∀ k, k < s.jobs.length → ((joA t k).phase = 4 ↔ (joA s k).phase = 4) ∧ (joA t k).epoch = (joA s k).epoch
theorem KeepP.refl (s : StateD) : KeepP s s := ⟨rfl, rfl, rfl, rfl, fun _ _ => ⟨Iff.rfl, rfl⟩⟩
theorem KeepP.trans {s t u : StateD} (h : KeepP s t) (h2 : KeepP t u) : KeepP s u :=
  ⟨h2.len.trans h.len, h2.goal.trans h.goal, h2.mode.trans h.mode, h2.term.trans h.term, fun k hk => ⟨(h2.job k (by rw [h.len]; exact hk)).1.trans (h.job k hk).1, (h2.job k (by rw [h.len]; exact hk)).2.trans (h.job k hk).2⟩⟩
end Dv
