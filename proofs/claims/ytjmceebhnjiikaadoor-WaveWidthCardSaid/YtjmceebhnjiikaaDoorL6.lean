/- What is next is OK; no more nodes are cordoned by it than the fleet's wave. -/
import Derived.Test.YtjmceebhnjiikaaDoorL3
set_option linter.unusedVariables false
set_option linter.unusedSimpArgs false
namespace Dv

theorem apply_at {c : ConfD} {s : StateD} (h : RightP c s) {o : OpD} (ho : opOkB o = true) (hj : jobK o.kind = true → 1 ≤ o.a ∧ o.a ≤ s.jobs.length) (hn : nodeK o.kind = true → o.a < s.nodes.length) : applyD c s o = deedD c s o := by
  unfold applyD appD
  rw [if_neg (by simp [(right_iff c s).2 h]), if_neg (by simp [ho]), if_neg (fun e => by have := hj e.1; omega), if_neg (fun e => by have := hn e.1; omega)]
theorem op_one {k a : Int} (hk : k = 11 ∨ k = 16 ∨ k = 17 ∨ k = 18) (ha : 0 ≤ a ∧ a ≤ 1000000) : opOkB ⟨k, a, 0, 0, 0, 0, 0⟩ = true := by
  rcases hk with rfl | rfl | rfl | rfl <;> simp [opOkB, numOk, manyK] <;> omega
theorem op_two {k a b : Int} (hk : k = 12 ∨ k = 20) (ha : 0 ≤ a ∧ a ≤ 1000000) (hb : 0 ≤ b ∧ b ≤ 1000000) : opOkB ⟨k, a, b, 0, 0, 0, 0⟩ = true := by
  rcases hk with rfl | rfl <;> simp [opOkB, numOk, manyK] <;> omega

/-- the ops that can be next, and what they come to -/
inductive NextP (c : ConfD) (s : StateD) : OpD → Prop where
  | opened (i : Nat) (hi : i < s.nodes.length) (h1 : (noA s i).cordon = true) (h2 : (noA s i).moving = false) : NextP c s ⟨17, i, 0, 0, 0, 0, 0⟩
  | move (i : Nat) (hi : i < s.nodes.length) (h1 : (noA s i).cordon = true) (h2 : (noA s i).up = true) (h3 : (noA s i).moving = false) (h4 : (noA s i).job = 0) : NextP c s ⟨18, i, 0, 0, 0, 0, 0⟩
  | unhold (i : Nat) (hi : i < s.nodes.length) (h0 : (noA s i).job ≠ 0) (h1 : (jobA s (noA s i).job).phase = 1) : NextP c s ⟨11, (noA s i).job, 0, 0, 0, 0, 0⟩
  | shrink (i : Nat) (hi : i < s.nodes.length) (h0 : (noA s i).job ≠ 0) (h1 : (jobA s (noA s i).job).phase = 2) (h2 : (jobA s (noA s i).job).min < many ((jobA s (noA s i).job).nodes % 64)) : NextP c s ⟨20, (noA s i).job, i, 0, 0, 0, 0⟩
  | drain (i : Nat) (t : Int) (hi : i < s.nodes.length) (h0 : (noA s i).job ≠ 0) (h1 : (jobA s (noA s i).job).phase = 2) (h2 : drainsL s.jobs (jobA s (noA s i).job).queue < c.quota) (ht : 0 ≤ t ∧ t ≤ 1000000) : NextP c s ⟨12, (noA s i).job, t, 0, 0, 0, 0⟩
  | shut (i : Nat) (hi : i < s.nodes.length) (h1 : (noA s i).cordon = false) (h2 : (noA s i).up = true) (h3 : waveL s.nodes < c.wave) : NextP c s ⟨16, i, 0, 0, 0, 0, 0⟩

theorem next_is {c : ConfD} {s : StateD} (hd : 0 ≤ c.deadline) {now : Int} (hnow : 0 ≤ now) {o : OpD} (h : nextW c s now = some o) : s.mode ≠ 1 ∧ NextP c s o := by
  unfold nextW at h
  split at h
  · cases h
  rename_i hm
  refine ⟨hm, ?_⟩
  cases h1 : firstO (openO s) s.nodes 0 with
  | some p =>
    rw [h1] at h
    obtain ⟨i, hi, h2⟩ := firstO_some _ _ _ _ h1
    cases h
    unfold openO at h2
    split at h2
    · rename_i hop
      cases h2
      rw [Nat.zero_add]
      unfold openB at hop
      simp only [Bool.and_eq_true, Bool.not_eq_true'] at hop
      exact .opened i hi hop.1.1.1 hop.1.2
    · cases h2
  | none =>
    rw [h1] at h
    cases h3 : firstO (clearO c s now) s.nodes 0 with
    | some p =>
      rw [h3] at h
      cases h
      obtain ⟨i, hi, h2⟩ := firstO_some _ _ _ _ h3
      rw [Nat.zero_add] at h2
      unfold clearO at h2
      split at h2
      · cases h2
      rename_i hn
      simp only [not_or, Bool.not_eq_false, Bool.not_eq_true] at hn
      obtain ⟨n1, n2, n3⟩ := hn
      unfold behindB at n2
      simp only [Bool.and_eq_true, Bool.not_eq_true'] at n2
      split at h2
      · rename_i h0
        cases h2
        exact .move i hi n1 n2.1.1 n2.1.2 h0
      rename_i h0
      dsimp only at h2
      split at h2
      · rename_i hph
        cases h2
        exact .unhold i hi h0 hph
      split at h2
      · rename_i hph
        cases h2
        exact .shrink i hi h0 hph.1 hph.2
      split at h2
      · rename_i hph
        cases h2
        refine .drain i _ hi h0 hph.1 hph.2 ?_
        split <;> omega
      · cases h2
    | none =>
      rw [h3] at h
      obtain ⟨i, hi, h2⟩ := firstO_some _ _ _ _ h
      rw [Nat.zero_add] at h2
      unfold shutO at h2
      split at h2
      · rename_i hs
        cases h2
        unfold shutB behindB at hs
        simp only [Bool.and_eq_true, Bool.not_eq_true', decide_eq_true_eq] at hs
        exact .shut i hi hs.1.1.1 hs.1.1.2.1.1 hs.2
      · cases h2

/-! how many nodes are cordoned, behind a step -/
theorem waveL_cons (n : NodeD) (l : List NodeD) : waveL (n :: l) = (if n.cordon = true then 1 else 0) + waveL l := by
  unfold waveL
  cases h : n.cordon <;> simp [List.filter_cons, h]; omega
theorem waveL_set (n' : NodeD) : ∀ (l : List NodeD) (k : Nat), k < l.length → waveL (l.set k n') + (if (l.getD k zeroNode).cordon = true then 1 else 0) = waveL l + (if n'.cordon = true then 1 else 0)
  | [], k, h => by simp at h
  | j :: l, 0, _ => by
    simp only [List.set_cons_zero, waveL_cons, List.getD_cons_zero]
    omega
  | j :: l, k + 1, h => by
    have := waveL_set n' l k (by simpa using h)
    simp only [List.set_cons_succ, waveL_cons, List.getD_cons_succ]
    omega
theorem waveL_same : ∀ (l m : List NodeD), m.length = l.length → (∀ i, i < l.length → (m.getD i zeroNode).cordon = (l.getD i zeroNode).cordon) → waveL m = waveL l
  | [], [], _, _ => rfl
  | [], _ :: _, h, _ => by simp at h
  | _ :: _, [], h, _ => by simp at h
  | a :: l, b :: m, h, hc => by
    have h0 := hc 0 (by simp)
    simp only [List.getD_cons_zero] at h0
    rw [waveL_cons, waveL_cons, h0, waveL_same l m (by simpa using h) (fun i hi => by simpa using hc (i + 1) (by simpa using hi))]

theorem next_ok {c : ConfD} {s : StateD} (h : RightP c s) {o : OpD} (q : NextP c s o) : (applyD c s o).2 = 0 ∧ (waveL (applyD c s o).1.nodes ≤ waveL s.nodes ∨ waveL (applyD c s o).1.nodes ≤ c.wave) := by
  have hln := h.len
  have hlj := h.jobs
  have J : ∀ i, i < s.nodes.length → (noA s i).job ≠ 0 → ∃ k : Nat, (noA s i).job = (k : Int) + 1 ∧ ((noA s i).job - 1).toNat = k ∧ k < s.jobs.length ∧ jobA s (noA s i).job = joA s k := fun i hi h0 => by
    have := h.job i hi
    exact job_of h (by omega)
  have N : ∀ i : Nat, i < s.nodes.length → nodeA s (i : Int) = noA s i := fun i hi => rfl
  have wj : ∀ {k0 : Nat} {j' : JobD} {ns' : List NodeD}, JobStep c s k0 j' ns' → waveL ns' = waveL s.nodes := fun {k0 j' ns'} q => waveL_same _ _ q.len (fun i hi => (q.same i hi).2.1)
  cases q with
  | opened i hi h1 h2 =>
    rw [apply_at h (op_one (by omega) (by omega)) (fun e => by cases e) (fun _ => by dsimp only; omega), show deedD c s ⟨17, (i : Int), 0, 0, 0, 0, 0⟩ = uncordonD s ⟨17, (i : Int), 0, 0, 0, 0, 0⟩ from rfl]
    unfold uncordonD
    dsimp only
    rw [N i hi, if_neg (by rw [h1, h2]; simp)]
    refine ⟨rfl, .inl ?_⟩
    have := waveL_set { noA s i with cordon := false } s.nodes i hi
    unfold setN
    dsimp only
    rw [Int.toNat_natCast]
    unfold noA at this h1 ⊢
    simp only [h1, if_true, Bool.false_eq_true, if_false] at this
    omega
  | move i hi h1 h2 h3 h4 =>
    rw [apply_at h (op_one (by omega) (by omega)) (fun e => by cases e) (fun _ => by dsimp only; omega), show deedD c s ⟨18, (i : Int), 0, 0, 0, 0, 0⟩ = moveD s ⟨18, (i : Int), 0, 0, 0, 0, 0⟩ from rfl]
    unfold moveD
    dsimp only
    rw [N i hi, if_neg (by rw [h1, h2, h3, h4]; simp)]
    refine ⟨rfl, .inl ?_⟩
    have := waveL_set { noA s i with moving := true } s.nodes i hi
    rw [if_pos (show (s.nodes.getD i zeroNode).cordon = true from h1), if_pos (show ({ noA s i with moving := true } : NodeD).cordon = true from h1)] at this
    dsimp only at this
    unfold setN
    dsimp only
    rw [Int.toNat_natCast]
    omega
  | unhold i hi h0 h1 =>
    obtain ⟨k, a1, a2, a3, a4⟩ := J i hi h0
    rw [apply_at h (op_one (by omega) (by omega)) (fun e => by dsimp only; omega) (fun e => by cases e), show ∀ a, deedD c s ⟨11, a, 0, 0, 0, 0, 0⟩ = unholdD s ⟨11, a, 0, 0, 0, 0, 0⟩ from fun _ => rfl]
    unfold unholdD
    dsimp only
    rw [if_neg (fun e => e h1)]
    refine ⟨rfl, .inl ?_⟩
    rw [a4] at h1
    have hst := release_step h a3 (p := 0) (.inl rfl) (by omega)
    rw [a1, release_eq]
    dsimp only
    rw [wj hst]
    omega
  | shrink i hi h0 h1 h2 =>
    obtain ⟨k, a1, a2, a3, a4⟩ := J i hi h0
    have hb := bits_of h a3
    rw [apply_at h (op_two (by omega) (by omega) (by omega)) (fun e => by dsimp only; omega) (fun e => by cases e), show ∀ a b, deedD c s ⟨20, a, b, 0, 0, 0, 0⟩ = shrinkD s ⟨20, a, b, 0, 0, 0, 0⟩ from fun _ _ => rfl]
    unfold shrinkD
    dsimp only
    rw [a4] at h1 h2 ⊢
    have hm : (joA s k).min < many (joA s k).nodes := by rw [Int.emod_eq_of_lt hb.1 hb.2] at h2; exact h2
    rw [if_neg (by omega), if_neg (fun e => e h1), N i hi, if_neg (by simp; omega)]
    refine ⟨rfl, .inl ?_⟩
    have hst := shrink_step h a3 hi h1 a1 hm
    unfold setN setJ
    dsimp only
    rw [Int.toNat_natCast, wj hst]
    omega
  | drain i t hi h0 h1 h2 ht =>
    obtain ⟨k, a1, a2, a3, a4⟩ := J i hi h0
    rw [apply_at h (op_two (by omega) (by omega) ht) (fun e => by dsimp only; omega) (fun e => by cases e), show ∀ a b, deedD c s ⟨12, a, b, 0, 0, 0, 0⟩ = drainD c s ⟨12, a, b, 0, 0, 0, 0⟩ from fun _ _ => rfl]
    unfold drainD
    dsimp only
    rw [if_neg (fun e => e h1), if_neg (by omega)]
    exact ⟨rfl, .inl (Int.le_refl _)⟩
  | shut i hi h1 h2 h3 =>
    rw [apply_at h (op_one (by omega) (by omega)) (fun e => by cases e) (fun _ => by dsimp only; omega), show deedD c s ⟨16, (i : Int), 0, 0, 0, 0, 0⟩ = cordonD s ⟨16, (i : Int), 0, 0, 0, 0, 0⟩ from rfl]
    unfold cordonD
    dsimp only
    rw [N i hi, if_neg (by rw [h1, h2]; simp)]
    refine ⟨rfl, .inr ?_⟩
    have := waveL_set { noA s i with cordon := true } s.nodes i hi
    unfold setN
    dsimp only
    rw [Int.toNat_natCast]
    unfold noA at this h1 ⊢
    simp only [h1, if_true, Bool.false_eq_true, if_false] at this
    omega
end Dv
