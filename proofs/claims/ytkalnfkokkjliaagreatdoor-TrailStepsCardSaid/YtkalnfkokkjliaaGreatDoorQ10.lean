/- What trail.Diff tells of: nothing of a state and itself; something behind an op that is OK, but Target and Up. -/
import Derived.Test.YtkalnfkokkjliaaGreatDoorT25
import Derived.Test.YtkalnfkokkjliaaGreatDoorQ9
set_option linter.unusedVariables false
set_option linter.unusedSimpArgs false
namespace Dv
open Go Go.Proofs
theorem telB_nil {b : Bool} {w : ByteArray} {o : List ByteArray} : telB b w o = [] ↔ b = false ∧ o = [] := by
  unfold telB
  cases b <;> simp
theorem numT_nil {h : ByteArray} {a b : Int} {o : List ByteArray} : numT h a b o = [] ↔ a = b ∧ o = [] := by
  unfold numT
  rw [telB_nil]
  simp
theorem nodeT_nil {k : Nat} {a b : NodeD} {o : List ByteArray} : nodeT k a b o = [] ↔ a = b ∧ o = [] := by
  unfold nodeT
  simp only [telB_nil,numT_nil,Bool.not_eq_false',beq_iff_eq]
  constructor
  · rintro ⟨h1, h2, h3, h4, h5, h6⟩
    cases a; cases b
    simp_all
  · rintro ⟨rfl, h⟩
    simp [h]
def sameJ (a b : JobD) : Prop := a.phase = b.phase ∧ a.inc = b.inc ∧ a.nodes = b.nodes ∧ a.epoch = b.epoch
theorem jobT_nil {k : Nat} {a b : JobD} {o : List ByteArray} : jobT k a b o = [] ↔ sameJ a b ∧ o = [] := by
  unfold jobT sameJ
  simp only [numT_nil]
  constructor
  · rintro ⟨h1, h2, h3, h4, h5⟩; exact ⟨⟨h4, h3, h2, h1⟩, h5⟩
  · rintro ⟨⟨h4, h3, h2, h1⟩, h5⟩; exact ⟨h1, h2, h3, h4, h5⟩
theorem nodesT_nil {s t : StateD} : ∀ n, nodesT s t n = [] ↔ ∀ k, k < n → noA s k = noA t k
  | 0 => by simp [nodesT]
  | n + 1 => by
    unfold nodesT
    rw [nodeT_nil, nodesT_nil n]
    constructor
    · rintro ⟨h1, h2⟩ k hk
      rcases Nat.lt_succ_iff_lt_or_eq.1 hk with h | rfl
      · exact h2 k h
      · exact h1
    · intro h
      exact ⟨h n (Nat.lt_succ_self n), fun k hk => h k (Nat.lt_succ_of_lt hk)⟩
theorem jobsT_nil {s t : StateD} {o : List ByteArray} : ∀ n, jobsT s t o n = [] ↔ o = [] ∧ ∀ k, k < n → k < s.jobs.length ∧ sameJ (joA s k) (joA t k)
  | 0 => by simp [jobsT]
  | n + 1 => by
    unfold jobsT
    by_cases hl : s.jobs.length ≤ n
    · rw [if_pos hl, telB_nil]
      constructor
      · rintro ⟨h, _⟩; cases h
      · rintro ⟨_, h⟩; have := (h n (Nat.lt_succ_self n)).1; omega
    · rw [if_neg hl, jobT_nil, jobsT_nil n]
      constructor
      · rintro ⟨h1, h2, h3⟩
        refine ⟨h2, fun k hk => ?_⟩
        rcases Nat.lt_succ_iff_lt_or_eq.1 hk with h | rfl
        · exact h3 k h
        · exact ⟨by omega, h1⟩
      · rintro ⟨h, h2⟩
        exact ⟨(h2 n (Nat.lt_succ_self n)).2, h, fun k hk => h2 k (Nat.lt_succ_of_lt hk)⟩
structure Alike (s t : StateD) : Prop where
  node : ∀ k, k < min s.nodes.length t.nodes.length → noA s k = noA t k
  job : ∀ k, k < t.jobs.length → k < s.jobs.length ∧ sameJ (joA s k) (joA t k)
  goal : s.goal = t.goal
  prior : s.prior = t.prior
  mode : s.mode = t.mode
  term : s.term = t.term
theorem diffT_nil {s t : StateD} : diffT s t = [] ↔ Alike s t := by
  unfold diffT
  simp only [numT_nil,jobsT_nil,nodesT_nil]
  constructor
  · rintro ⟨h1, h2, h3, h4, h5, h6⟩; exact ⟨h5, h6, h4, h3, h2, h1⟩
  · rintro ⟨h5, h6, h4, h3, h2, h1⟩; exact ⟨h1, h2, h3, h4, h5, h6⟩
theorem diffT_self (s : StateD) : diffT s s = [] := diffT_nil.2 ⟨fun _ _ => rfl, fun k hk => ⟨hk, rfl, rfl, rfl, rfl⟩, rfl, rfl, rfl, rfl⟩
theorem Alike.setJ {s t : StateD} (h : Alike s t) {a : Int} {j : JobD} (ha : 1 ≤ a ∧ a ≤ s.jobs.length) (hj : t.jobs = s.jobs.set (a - 1).toNat j) : sameJ (jobA s a) j := by
  have hk : (a - 1).toNat < s.jobs.length := by omega
  have := (h.job (a - 1).toNat (by rw [hj, List.length_set]; exact hk)).2
  unfold joA at this
  rw [hj, getD_set _ _ _ _ _ hk, if_pos rfl] at this
  exact this
theorem Alike.setN {s t : StateD} (h : Alike s t) {a : Int} {n : NodeD} {l : List NodeD} (ha : 0 ≤ a ∧ a < s.nodes.length) (hl : l.length = s.nodes.length) (hj : t.nodes = l.set a.toNat n) : nodeA s a = n := by
  have hk : a.toNat < s.nodes.length := by omega
  have := h.node a.toNat (by rw [hj, List.length_set, hl]; omega)
  unfold noA at this
  rw [hj, getD_set _ _ _ _ _ (by omega), if_pos rfl] at this
  exact this
theorem opOk_num {o : OpD} (h : opOkB o = true) : 0 ≤ o.a ∧ 0 ≤ o.b := by
  simp only [opOkB,numOk,Bool.and_eq_true,decide_eq_true_eq] at h
  exact ⟨h.1.1.1.1.1.2.1.1, h.1.1.1.1.2.1.1⟩
section
variable {c : ConfD} {s : StateD} {o : OpD}
theorem submit_diff (ho : (submitD c s o).2 = 0) : ¬ Alike s (submitD c s o).1 := by
  intro h
  unfold submitD at ho h
  split at ho
  · exact absurd ho (by simp)
  rename_i h1
  rw [if_neg h1] at h
  split at ho
  · exact absurd ho (by simp)
  rename_i h2
  rw [if_neg h2] at h
  have := (h.job s.jobs.length (by simp)).1
  exact absurd this (Nat.lt_irrefl _)
theorem cancel_diff (ha : 1 ≤ o.a ∧ o.a ≤ s.jobs.length) (ho : (cancelD s o).2 = 0) : ¬ Alike s (cancelD s o).1 := by
  intro h
  unfold cancelD at ho h
  split at ho
  · exact absurd ho (by simp)
  rename_i h1
  rw [if_neg h1] at h
  exact h1 (h.setJ ha rfl).1
theorem hold_diff (ha : 1 ≤ o.a ∧ o.a ≤ s.jobs.length) (ho : (holdD s o).2 = 0) : ¬ Alike s (holdD s o).1 := by
  intro h
  unfold holdD at ho h
  split at ho
  · exact absurd ho (by simp)
  rename_i h1
  rw [if_neg h1] at h
  split at ho
  · exact absurd ho (by simp)
  rename_i h2
  rw [if_neg h2] at h
  have e := (h.setJ ha rfl).1
  have h1' : (jobA s o.a).phase = 0 := Decidable.not_not.1 h1
  rw [h1'] at e
  dsimp only at e
  omega
theorem start_diff (ha : 1 ≤ o.a ∧ o.a ≤ s.jobs.length) (ho : (startD s o).2 = 0) : ¬ Alike s (startD s o).1 := by
  intro h
  unfold startD at ho h
  split at ho
  · exact absurd ho (by simp)
  rename_i h1
  rw [if_neg h1] at h
  have e := (h.setJ ha rfl).1
  have h1' : (jobA s o.a).phase = 1 := Decidable.not_not.1 h1
  rw [h1'] at e
  dsimp only at e
  omega
theorem unhold_diff (ha : 1 ≤ o.a ∧ o.a ≤ s.jobs.length) (ho : (unholdD s o).2 = 0) : ¬ Alike s (unholdD s o).1 := by
  intro h
  unfold unholdD at ho h
  split at ho
  · exact absurd ho (by simp)
  rename_i h1
  rw [if_neg h1] at h
  have e := (h.setJ ha rfl).1
  have h1' : (jobA s o.a).phase = 1 := Decidable.not_not.1 h1
  rw [h1'] at e
  dsimp only at e
  omega
theorem drain_diff (ha : 1 ≤ o.a ∧ o.a ≤ s.jobs.length) (ho : (drainD c s o).2 = 0) : ¬ Alike s (drainD c s o).1 := by
  intro h
  unfold drainD at ho h
  split at ho
  · exact absurd ho (by simp)
  rename_i h1
  rw [if_neg h1] at h
  split at ho
  · exact absurd ho (by simp)
  rename_i h2
  rw [if_neg h2] at h
  have e := (h.setJ ha rfl).1
  have h1' : (jobA s o.a).phase = 2 := Decidable.not_not.1 h1
  rw [h1'] at e
  dsimp only at e
  omega
theorem saved_diff (ha : 1 ≤ o.a ∧ o.a ≤ s.jobs.length) (ho : (savedD s o).2 = 0) : ¬ Alike s (savedD s o).1 := by
  intro h
  unfold savedD at ho h
  split at ho
  · exact absurd ho (by simp)
  rename_i h1
  rw [if_neg h1] at h
  split at ho
  · exact absurd ho (by simp)
  rename_i h2
  rw [if_neg h2] at h
  have e : (jobA s o.a).epoch = o.b := (h.setJ ha rfl).2.2.2
  exact h2 (.inr (by omega))
theorem evict_diff (ha : 1 ≤ o.a ∧ o.a ≤ s.jobs.length) (ho : (evictD s o).2 = 0) : ¬ Alike s (evictD s o).1 := by
  intro h
  unfold evictD at ho h
  split at ho
  · exact absurd ho (by simp)
  rename_i h1
  rw [if_neg h1] at h
  have e := (h.setJ ha rfl).1
  have h1' : (jobA s o.a).phase = 3 := Decidable.not_not.1 h1
  rw [h1'] at e
  dsimp only at e
  omega
theorem done_diff (ha : 1 ≤ o.a ∧ o.a ≤ s.jobs.length) (ho : (doneD s o).2 = 0) : ¬ Alike s (doneD s o).1 := by
  intro h
  unfold doneD at ho h
  split at ho
  · exact absurd ho (by simp)
  rename_i h1
  rw [if_neg h1] at h
  have e := (h.setJ ha rfl).1
  apply h1
  unfold runsB
  rw [e]
  rfl
theorem cordon_diff (ha : 0 ≤ o.a ∧ o.a < s.nodes.length) (ho : (cordonD s o).2 = 0) : ¬ Alike s (cordonD s o).1 := by
  intro h
  unfold cordonD at ho h
  split at ho
  · exact absurd ho (by simp)
  rename_i h1
  rw [if_neg h1] at h
  have e := congrArg NodeD.cordon (h.setN ha rfl rfl)
  exact h1 (.inr e)
theorem uncordon_diff (ha : 0 ≤ o.a ∧ o.a < s.nodes.length) (ho : (uncordonD s o).2 = 0) : ¬ Alike s (uncordonD s o).1 := by
  intro h
  unfold uncordonD at ho h
  split at ho
  · exact absurd ho (by simp)
  rename_i h1
  rw [if_neg h1] at h
  have e := congrArg NodeD.cordon (h.setN ha rfl rfl)
  exact h1 (.inl e)
theorem move_diff (ha : 0 ≤ o.a ∧ o.a < s.nodes.length) (ho : (moveD s o).2 = 0) : ¬ Alike s (moveD s o).1 := by
  intro h
  unfold moveD at ho h
  split at ho
  · exact absurd ho (by simp)
  rename_i h1
  rw [if_neg h1] at h
  have e := congrArg NodeD.moving (h.setN ha rfl rfl)
  exact h1 (.inr (.inr (.inl e)))
theorem moved_diff (ha : 0 ≤ o.a ∧ o.a < s.nodes.length) (ho : (movedD s o).2 = 0) : ¬ Alike s (movedD s o).1 := by
  intro h
  unfold movedD at ho h
  split at ho
  · exact absurd ho (by simp)
  rename_i h1
  rw [if_neg h1] at h
  split at ho
  · exact absurd ho (by simp)
  rename_i h2
  rw [if_neg h2] at h
  have e := congrArg NodeD.moving (h.setN ha rfl rfl)
  exact h2 e
theorem down_diff (ha : 0 ≤ o.a ∧ o.a < s.nodes.length) (ho : (downD s o).2 = 0) : ¬ Alike s (downD s o).1 := by
  intro h
  unfold downD at ho h
  split at ho
  · exact absurd ho (by simp)
  rename_i h1
  rw [if_neg h1] at h
  have e : nodeA s o.a = { nodeA (if (nodeA s o.a).job ≠ 0 then releaseD s (nodeA s o.a).job 0 else s) o.a with up := false, moving := false } := by
    refine h.setN (l := (if (nodeA s o.a).job ≠ 0 then releaseD s (nodeA s o.a).job 0 else s).nodes) ha ?_ rfl
    split
    · unfold releaseD; exact List.length_mapIdx
    · rfl
  exact h1 (congrArg NodeD.up e)
theorem shrink_diff (ha : 1 ≤ o.a ∧ o.a ≤ s.jobs.length) (hb : 0 ≤ o.b) (ho : (shrinkD s o).2 = 0) : ¬ Alike s (shrinkD s o).1 := by
  intro h
  unfold shrinkD at ho h
  split at ho
  · exact absurd ho (by simp)
  rename_i h1
  rw [if_neg h1] at h
  split at ho
  · exact absurd ho (by simp)
  rename_i h2
  rw [if_neg h2] at h
  split at ho
  · exact absurd ho (by simp)
  rename_i h3
  rw [if_neg h3] at h
  have e : nodeA s o.b = { nodeA s o.b with job := 0 } := h.setN (l := s.nodes) ⟨hb, by omega⟩ rfl rfl
  have e2 : (nodeA s o.b).job = 0 := congrArg NodeD.job e
  exact h3 (.inl (by omega))
theorem turn_diff {ok : Bool} {to : Int} (hk : ok = true → s.mode ≠ to) (ho : (turnD s ok to).2 = 0) : ¬ Alike s (turnD s ok to).1 := by
  intro h
  unfold turnD at ho h
  split at ho
  · rename_i h1
    rw [if_pos h1] at h
    exact hk h1 h.mode
  · exact absurd ho (by simp)
theorem newterm_diff (ho : (newtermD s).2 = 0) : ¬ Alike s (newtermD s).1 := by
  intro h
  unfold newtermD at ho h
  split at ho
  · exact absurd ho (by simp)
  rename_i h1
  rw [if_neg h1] at h
  have := h.term
  dsimp only at this
  omega
theorem deed_diff (hn : 0 ≤ o.a ∧ 0 ≤ o.b) (hJ : jobK o.kind = true → 1 ≤ o.a ∧ o.a ≤ s.jobs.length) (hN : nodeK o.kind = true → o.a < s.nodes.length) (hq : o.kind ≠ 3 ∧ o.kind ≠ 8) (ho : (deedD c s o).2 = 0) : ¬ Alike s (deedD c s o).1 := by
  unfold deedD at ho ⊢
  by_cases k1 : o.kind = 1
  · rw [if_pos k1] at ho ⊢
    exact submit_diff ho
  rw [if_neg k1] at ho ⊢
  by_cases k2 : o.kind = 2
  · rw [if_pos k2] at ho ⊢
    exact cancel_diff (hJ (by simp [jobK,k2])) ho
  rw [if_neg k2] at ho ⊢
  by_cases k3 : o.kind = 3
  · exact absurd k3 hq.1
  rw [if_neg k3] at ho ⊢
  by_cases k4 : o.kind = 4
  · rw [if_pos k4] at ho ⊢
    exact turn_diff (fun h => by rw [beq_iff_eq] at h; omega) ho
  rw [if_neg k4] at ho ⊢
  by_cases k5 : o.kind = 5
  · rw [if_pos k5] at ho ⊢
    exact turn_diff (fun h => by rw [beq_iff_eq] at h; omega) ho
  rw [if_neg k5] at ho ⊢
  by_cases k6 : o.kind = 6
  · rw [if_pos k6] at ho ⊢
    exact turn_diff (fun h => by rw [bne_iff_ne] at h; exact h) ho
  rw [if_neg k6] at ho ⊢
  by_cases k7 : o.kind = 7
  · rw [if_pos k7] at ho ⊢
    exact down_diff ⟨hn.1, hN (by simp [nodeK,k7])⟩ ho
  rw [if_neg k7] at ho ⊢
  by_cases k8 : o.kind = 8
  · exact absurd k8 hq.2
  rw [if_neg k8] at ho ⊢
  by_cases k9 : o.kind = 9
  · rw [if_pos k9] at ho ⊢
    exact hold_diff (hJ (by simp [jobK,k9])) ho
  rw [if_neg k9] at ho ⊢
  by_cases k10 : o.kind = 10
  · rw [if_pos k10] at ho ⊢
    exact start_diff (hJ (by simp [jobK,k10])) ho
  rw [if_neg k10] at ho ⊢
  by_cases k11 : o.kind = 11
  · rw [if_pos k11] at ho ⊢
    exact unhold_diff (hJ (by simp [jobK,k11])) ho
  rw [if_neg k11] at ho ⊢
  by_cases k12 : o.kind = 12
  · rw [if_pos k12] at ho ⊢
    exact drain_diff (hJ (by simp [jobK,k12])) ho
  rw [if_neg k12] at ho ⊢
  by_cases k13 : o.kind = 13
  · rw [if_pos k13] at ho ⊢
    exact saved_diff (hJ (by simp [jobK,k13])) ho
  rw [if_neg k13] at ho ⊢
  by_cases k14 : o.kind = 14
  · rw [if_pos k14] at ho ⊢
    exact evict_diff (hJ (by simp [jobK,k14])) ho
  rw [if_neg k14] at ho ⊢
  by_cases k15 : o.kind = 15
  · rw [if_pos k15] at ho ⊢
    exact done_diff (hJ (by simp [jobK,k15])) ho
  rw [if_neg k15] at ho ⊢
  by_cases k16 : o.kind = 16
  · rw [if_pos k16] at ho ⊢
    exact cordon_diff ⟨hn.1, hN (by simp [nodeK,k16])⟩ ho
  rw [if_neg k16] at ho ⊢
  by_cases k17 : o.kind = 17
  · rw [if_pos k17] at ho ⊢
    exact uncordon_diff ⟨hn.1, hN (by simp [nodeK,k17])⟩ ho
  rw [if_neg k17] at ho ⊢
  by_cases k18 : o.kind = 18
  · rw [if_pos k18] at ho ⊢
    exact move_diff ⟨hn.1, hN (by simp [nodeK,k18])⟩ ho
  rw [if_neg k18] at ho ⊢
  by_cases k19 : o.kind = 19
  · rw [if_pos k19] at ho ⊢
    exact moved_diff ⟨hn.1, hN (by simp [nodeK,k19])⟩ ho
  rw [if_neg k19] at ho ⊢
  by_cases k20 : o.kind = 20
  · rw [if_pos k20] at ho ⊢
    exact shrink_diff (hJ (by simp [jobK,k20])) hn.2 ho
  rw [if_neg k20] at ho ⊢
  exact newterm_diff ho
theorem apply_diff (hk : o.kind ≠ 3 ∧ o.kind ≠ 8) (ho : (applyD c s o).2 = 0) : diffT s (applyD c s o).1 ≠ [] := by
  rw [Ne, diffT_nil]
  unfold applyD at ho ⊢
  split at ho
  · exact absurd ho (by simp)
  rename_i h0
  rw [if_neg h0]
  unfold appD at ho ⊢
  split at ho
  · exact absurd ho (by simp)
  rename_i h1
  rw [if_neg h1]
  split at ho
  · exact absurd ho (by simp)
  rename_i h2
  rw [if_neg h2]
  split at ho
  · exact absurd ho (by simp)
  rename_i h3
  rw [if_neg h3]
  refine deed_diff (opOk_num (by simpa using h1)) (fun h => ?_) (fun h => ?_) hk ho
  · have : ¬ (o.a < 1 ∨ (s.jobs.length : Int) < o.a) := fun q => h2 ⟨h, q⟩
    omega
  · have : ¬ (s.nodes.length : Int) ≤ o.a := fun q => h3 ⟨h, q⟩
    omega
end
end Dv
