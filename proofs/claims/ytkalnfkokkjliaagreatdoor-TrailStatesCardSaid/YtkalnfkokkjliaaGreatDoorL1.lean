/- The book's Apply is the document's, of every state that may be. -/
import Derived.Test.YtkalnfkokkjliaaGreatDoorD19
set_option linter.unusedVariables false
set_option linter.unusedSimpArgs false
namespace Dv

theorem freeAll_iff (bits : Int) : ∀ (l : List NodeD) (i : Nat), freeAll bits l i = true ↔ ∀ k, k < l.length → hasB bits (i + k) = true → freeB (l.getD k zeroNode) = true
  | [], i => by simp [freeAll]
  | n :: l, i => by
    unfold freeAll
    rw [Bool.and_eq_true, freeAll_iff bits l (i + 1)]
    constructor
    · rintro ⟨h1, h2⟩ k hk hb
      cases k with
      | zero =>
        have hb : hasB bits i = true := hb
        simpa [hb] using h1
      | succ k => simpa using h2 k (by simpa using hk) (by rw [show i + 1 + k = i + (k + 1) by omega]; exact hb)
    · intro h
      refine ⟨?_, fun k hk hb => ?_⟩
      · cases hb : hasB bits i with
        | false => rfl
        | true => simpa using h 0 (by simp) hb
      · have := h (k + 1) (by simpa using hk) (by rw [show i + (k + 1) = i + 1 + k by omega]; exact hb)
        simpa using this
theorem hold_cond {c : ConfD} {s : StateD} (h : RightP c s) (j : JobD) (b : Int) : (fitsB s.nodes j b freeB = false ∨ 1000000 ≤ j.inc) ↔ ¬ (fitsRB s.nodes j b = true ∧ j.inc < 1000000 ∧ freeAll b s.nodes 0 = true) := by
  have hv : ∀ k, k < s.nodes.length → 1 ≤ (s.nodes.getD k zeroNode).version := fun k hk => (h.ver k hk).1
  have key : fitsB s.nodes j b freeB = true ↔ fitsRB s.nodes j b = true ∧ freeAll b s.nodes 0 = true := by
    rw [fitsB_iff _ _ _ _ hv, fitsRB_iff _ _ _ h.len.2 hv, freeAll_iff]
    simp only [Nat.zero_add]
    constructor
    · rintro ⟨h1, h2, u, h3, h4⟩
      exact ⟨⟨h1, h2, u, h3, fun k hk hb => (h4 k hk hb).2⟩, fun k hk hb => (h4 k hk hb).1⟩
    · rintro ⟨⟨h1, h2, u, h3, h4⟩, h5⟩
      exact ⟨h1, h2, u, h3, fun k hk hb => ⟨h5 k hk hb, h4 k hk hb⟩⟩
  cases hf : fitsB s.nodes j b freeB with
  | true =>
    have := key.1 hf
    simp only [this.1,this.2,Bool.true_eq_false,false_or,true_and,and_true]; omega
  | false =>
    refine ⟨fun _ hq => ?_, fun _ => .inl rfl⟩
    have := key.2 ⟨hq.1, hq.2.2⟩
    rw [hf] at this; cases this
theorem less_left (m b : Int) (h : 0 ≤ m ∧ m < 64) (h2 : 0 ≤ b ∧ b < 6) : lessD m b = leftTo m b 6 := by
  obtain ⟨m, rfl⟩ := Int.eq_ofNat_of_zero_le h.1
  obtain ⟨b, rfl⟩ := Int.eq_ofNat_of_zero_le h2.1
  have : ∀ m : Nat, m < 64 → ∀ b : Nat, b < 6 → lessD (m : Int) b = leftTo m b 6 := by decide +kernel
  exact this m (by omega) b (by omega)
theorem job_of {c : ConfD} {s : StateD} (h : RightP c s) {a : Int} (ha : 1 ≤ a ∧ a ≤ s.jobs.length) : ∃ k : Nat, a = k + 1 ∧ (a - 1).toNat = k ∧ k < s.jobs.length ∧ jobA s a = joA s k :=
  ⟨(a - 1).toNat, by omega, rfl, by omega, rfl⟩
theorem node_of {s : StateD} {a : Int} (ha : 0 ≤ a ∧ a < s.nodes.length) : ∃ i : Nat, a = i ∧ a.toNat = i ∧ i < s.nodes.length ∧ nodeA s a = noA s i :=
  ⟨a.toNat, by omega, rfl, by omega, rfl⟩
theorem letGo_eq (s : StateD) (job phase : Int) : letGoD s job phase = releaseD s job phase := rfl
theorem shrink_cond {c : ConfD} {s : StateD} (h : RightP c s) {a b : Int} (ha : 1 ≤ a ∧ a ≤ s.jobs.length) (hb : 0 ≤ b ∧ b < s.nodes.length) : ((nodeA s b).job ≠ a) ↔ hasB (jobA s a).nodes b.toNat = false := by
  obtain ⟨k, rfl, hk2, hk, hJ⟩ := job_of h ha
  obtain ⟨i, rfl, hi2, hi, hN⟩ := node_of hb
  rw [hJ, hN, hi2]
  have := h.link i k hi hk
  cases hq : hasB (joA s k).nodes i with
  | true => simp [this.1 hq]
  | false => simp; intro e; rw [this.2 e] at hq; cases hq
theorem bits_of {c : ConfD} {s : StateD} (h : RightP c s) {k : Nat} (hk : k < s.jobs.length) : 0 ≤ (joA s k).nodes ∧ (joA s k).nodes < 64 := (right_ok ((right_iff c s).2 h)).bits hk

theorem apply_ref {c : ConfD} {s : StateD} (h : RightP c s) (o : OpD) : applyD c s o = applyR c s o := by
  have hr := (right_iff c s).2 h
  cases ho : opOkB o with
  | false =>
    have h1 : applyD c s o = (s, 1) := by unfold applyD appD; rw [if_neg (by simp [hr]), if_pos ho]
    have h2 : whyR c s o = 1 := by unfold whyR; rw [if_pos ho]
    rw [h1]; unfold applyR; rw [h2, if_pos (by decide)]
  | true =>
  obtain ⟨hkk, hka, hkb⟩ := opOk_nums ho
  have hlj := h.jobs
  have hln := h.len
  unfold applyR
  have hk : o.kind = 1 ∨ o.kind = 2 ∨ o.kind = 3 ∨ o.kind = 4 ∨ o.kind = 5 ∨ o.kind = 6 ∨ o.kind = 7 ∨ o.kind = 8 ∨ o.kind = 9 ∨ o.kind = 10 ∨ o.kind = 11 ∨ o.kind = 12 ∨ o.kind = 13 ∨ o.kind = 14 ∨ o.kind = 15 ∨ o.kind = 16 ∨ o.kind = 17 ∨ o.kind = 18 ∨ o.kind = 19 ∨ o.kind = 20 ∨ o.kind = 21 := by omega
  rcases hk with hk | hk | hk | hk | hk | hk | hk | hk | hk | hk | hk | hk | hk | hk | hk | hk | hk | hk | hk | hk | hk
  · have hd : deedD c s o = submitD c s o := by simp only [deedD,hk,Int.reduceEq,if_true,if_false]
    rw [why_1 ho hk, do_1 hk, app_none hr ho (by rw [hk]; rfl) (by rw [hk]; rfl), hd]
    unfold submitD
    cases ha : askedB c (newJob o) with
    | false => simp
    | true =>
      by_cases h24 : s.jobs.length = 24
      · simp [h24]
      · have : ¬ 24 ≤ s.jobs.length := by omega
        simp [h24,this]
  · have hd : deedD c s o = cancelD s o := by simp only [deedD,hk,Int.reduceEq,if_true,if_false]
    rw [why_2 ho hk, do_2 hk, app_job hr ho (by rw [hk]; rfl) (by rw [hk]; rfl), hd]
    by_cases hq : o.a < 1 ∨ (s.jobs.length : Int) < o.a
    · rw [if_pos hq, if_pos hq, if_pos (by decide)]
    rw [if_neg hq, if_neg hq]
    unfold cancelD
    by_cases hp : (jobA s o.a).phase = 4 <;> simp [hp,letGo_eq]
  · have hd : deedD c s o = targetD s o := by simp only [deedD,hk,Int.reduceEq,if_true,if_false]
    rw [why_3 ho hk, do_3 hk, app_none hr ho (by rw [hk]; rfl) (by rw [hk]; rfl), hd]
    unfold targetD
    cases hp : withinB o.a 1 9 <;> simp [hp]
  · have hd : deedD c s o = turnD s (s.mode == 0) 1 := by simp only [deedD,hk,Int.reduceEq,if_true,if_false]
    rw [why_4 ho hk, do_4 hk, app_none hr ho (by rw [hk]; rfl) (by rw [hk]; rfl), hd]
    unfold turnD
    by_cases hp : s.mode = 0 <;> simp [hp]
  · have hd : deedD c s o = turnD s (s.mode == 1) 0 := by simp only [deedD,hk,Int.reduceEq,if_true,if_false]
    rw [why_5 ho hk, do_5 hk, app_none hr ho (by rw [hk]; rfl) (by rw [hk]; rfl), hd]
    unfold turnD
    by_cases hp : s.mode = 1 <;> simp [hp]
  · have hd : deedD c s o = turnD s (s.mode != 2) 2 := by simp only [deedD,hk,Int.reduceEq,if_true,if_false]
    rw [why_6 ho hk, do_6 hk, app_none hr ho (by rw [hk]; rfl) (by rw [hk]; rfl), hd]
    unfold turnD
    by_cases hp : s.mode = 2 <;> simp [hp]
  · have hd : deedD c s o = downD s o := by simp only [deedD,hk,Int.reduceEq,if_true,if_false]
    rw [why_7 ho hk, do_7 hk, app_node hr ho (by rw [hk]; rfl) (by rw [hk]; rfl), hd]
    by_cases hq : (s.nodes.length : Int) ≤ o.a
    · rw [if_pos hq, if_pos hq, if_pos (by decide)]
    rw [if_neg hq, if_neg hq]
    obtain ⟨i, hi1, hi2, hi, hN⟩ := node_of (s := s) (a := o.a) (by omega)
    have hj := h.job i hi
    unfold downD
    rw [hN]
    cases hu : (noA s i).up with
    | false => simp
    | true =>
      by_cases hz : (noA s i).job = 0
      · simp [hz]
      · have : 0 < (noA s i).job := by omega
        simp [hz,this,letGo_eq]
  · have hd : deedD c s o = upD s o := by simp only [deedD,hk,Int.reduceEq,if_true,if_false]
    rw [why_8 ho hk, do_8 hk, app_node hr ho (by rw [hk]; rfl) (by rw [hk]; rfl), hd]
    by_cases hq : (s.nodes.length : Int) ≤ o.a
    · rw [if_pos hq, if_pos hq, if_pos (by decide)]
    rw [if_neg hq, if_neg hq]
    unfold upD
    cases hp : withinB o.b 1 9 <;> cases hu : (nodeA s o.a).up <;> simp
  · have hd : deedD c s o = holdD s o := by simp only [deedD,hk,Int.reduceEq,if_true,if_false]
    rw [do_9 hk, app_job hr ho (by rw [hk]; rfl) (by rw [hk]; rfl), hd]
    by_cases hq : o.a < 1 ∨ (s.jobs.length : Int) < o.a
    · rw [if_pos hq]
      have hw : whyR c s o = 4 := by rw [why_9 ho hk, if_pos hq]
      rw [hw, if_pos (by decide)]
    rw [if_neg hq]
    unfold holdD
    by_cases hp : (jobA s o.a).phase = 0
    · have hc := hold_cond h (jobA s o.a) o.b
      by_cases hx : fitsB s.nodes (jobA s o.a) o.b freeB = false ∨ 1000000 ≤ (jobA s o.a).inc
      · have hw : whyR c s o = 8 := by rw [why_9 ho hk, if_neg hq, if_neg (fun h => h hp), if_pos (hc.1 hx)]
        rw [hw, if_neg (fun h => h hp), if_pos hx, if_pos (by decide)]
      · have hw : whyR c s o = 0 := by rw [why_9 ho hk, if_neg hq, if_neg (fun h => h hp), if_neg (fun hq => hx (hc.2 hq))]
        rw [hw, if_neg (fun h => h hp), if_neg hx, if_neg (fun h => h rfl)]
    · have hw : whyR c s o = 5 := by rw [why_9 ho hk, if_neg hq, if_pos hp]
      rw [hw, if_pos hp, if_pos (by decide)]
  · have hd : deedD c s o = startD s o := by simp only [deedD,hk,Int.reduceEq,if_true,if_false]
    rw [why_10 ho hk, do_10 hk, app_job hr ho (by rw [hk]; rfl) (by rw [hk]; rfl), hd]
    by_cases hq : o.a < 1 ∨ (s.jobs.length : Int) < o.a
    · rw [if_pos hq, if_pos hq, if_pos (by decide)]
    rw [if_neg hq, if_neg hq]
    unfold startD
    by_cases hp : (jobA s o.a).phase = 1 <;> simp [hp,letGo_eq]
  · have hd : deedD c s o = unholdD s o := by simp only [deedD,hk,Int.reduceEq,if_true,if_false]
    rw [why_11 ho hk, do_11 hk, app_job hr ho (by rw [hk]; rfl) (by rw [hk]; rfl), hd]
    by_cases hq : o.a < 1 ∨ (s.jobs.length : Int) < o.a
    · rw [if_pos hq, if_pos hq, if_pos (by decide)]
    rw [if_neg hq, if_neg hq]
    unfold unholdD
    by_cases hp : (jobA s o.a).phase = 1 <;> simp [hp,letGo_eq]
  · have hd : deedD c s o = drainD c s o := by simp only [deedD,hk,Int.reduceEq,if_true,if_false]
    rw [why_12 ho hk, do_12 hk, app_job hr ho (by rw [hk]; rfl) (by rw [hk]; rfl), hd]
    by_cases hq : o.a < 1 ∨ (s.jobs.length : Int) < o.a
    · rw [if_pos hq, if_pos hq, if_pos (by decide)]
    rw [if_neg hq, if_neg hq]
    unfold drainD
    by_cases hp : (jobA s o.a).phase = 2 <;> by_cases hx : c.quota ≤ drainsL s.jobs (jobA s o.a).queue <;> simp [hp,hx]
  · have hd : deedD c s o = savedD s o := by simp only [deedD,hk,Int.reduceEq,if_true,if_false]
    rw [why_13 ho hk, do_13 hk, app_job hr ho (by rw [hk]; rfl) (by rw [hk]; rfl), hd]
    by_cases hq : o.a < 1 ∨ (s.jobs.length : Int) < o.a
    · rw [if_pos hq, if_pos hq, if_pos (by decide)]
    rw [if_neg hq, if_neg hq]
    unfold savedD
    cases hp : runsB (jobA s o.a) <;> by_cases hx : o.b ≠ (jobA s o.a).inc ∨ o.b ≤ (jobA s o.a).epoch <;> simp only [hx,Bool.true_eq_false,if_true,if_false] <;> simp
  · have hd : deedD c s o = evictD s o := by simp only [deedD,hk,Int.reduceEq,if_true,if_false]
    rw [why_14 ho hk, do_14 hk, app_job hr ho (by rw [hk]; rfl) (by rw [hk]; rfl), hd]
    by_cases hq : o.a < 1 ∨ (s.jobs.length : Int) < o.a
    · rw [if_pos hq, if_pos hq, if_pos (by decide)]
    rw [if_neg hq, if_neg hq]
    unfold evictD
    by_cases hp : (jobA s o.a).phase = 3 <;> simp [hp,letGo_eq]
  · have hd : deedD c s o = doneD s o := by simp only [deedD,hk,Int.reduceEq,if_true,if_false]
    rw [why_15 ho hk, do_15 hk, app_job hr ho (by rw [hk]; rfl) (by rw [hk]; rfl), hd]
    by_cases hq : o.a < 1 ∨ (s.jobs.length : Int) < o.a
    · rw [if_pos hq, if_pos hq, if_pos (by decide)]
    rw [if_neg hq, if_neg hq]
    unfold doneD
    cases hp : runsB (jobA s o.a) <;> simp [letGo_eq]
  · have hd : deedD c s o = cordonD s o := by simp only [deedD,hk,Int.reduceEq,if_true,if_false]
    rw [why_16 ho hk, do_16 hk, app_node hr ho (by rw [hk]; rfl) (by rw [hk]; rfl), hd]
    by_cases hq : (s.nodes.length : Int) ≤ o.a
    · rw [if_pos hq, if_pos hq, if_pos (by decide)]
    rw [if_neg hq, if_neg hq]
    unfold cordonD
    cases hu : (nodeA s o.a).up <;> cases hc : (nodeA s o.a).cordon <;> simp
  · have hd : deedD c s o = uncordonD s o := by simp only [deedD,hk,Int.reduceEq,if_true,if_false]
    rw [why_17 ho hk, do_17 hk, app_node hr ho (by rw [hk]; rfl) (by rw [hk]; rfl), hd]
    by_cases hq : (s.nodes.length : Int) ≤ o.a
    · rw [if_pos hq, if_pos hq, if_pos (by decide)]
    rw [if_neg hq, if_neg hq]
    unfold uncordonD
    cases hu : (nodeA s o.a).moving <;> cases hc : (nodeA s o.a).cordon <;> simp
  · have hd : deedD c s o = moveD s o := by simp only [deedD,hk,Int.reduceEq,if_true,if_false]
    rw [why_18 ho hk, do_18 hk, app_node hr ho (by rw [hk]; rfl) (by rw [hk]; rfl), hd]
    by_cases hq : (s.nodes.length : Int) ≤ o.a
    · rw [if_pos hq, if_pos hq, if_pos (by decide)]
    rw [if_neg hq, if_neg hq]
    unfold moveD
    cases hu : (nodeA s o.a).up <;> cases hc : (nodeA s o.a).cordon <;> cases hm : (nodeA s o.a).moving <;> by_cases hz : (nodeA s o.a).job = 0 <;> simp [hz]
  · have hd : deedD c s o = movedD s o := by simp only [deedD,hk,Int.reduceEq,if_true,if_false]
    rw [why_19 ho hk, do_19 hk, app_node hr ho (by rw [hk]; rfl) (by rw [hk]; rfl), hd]
    by_cases hq : (s.nodes.length : Int) ≤ o.a
    · rw [if_pos hq, if_pos hq, if_pos (by decide)]
    rw [if_neg hq, if_neg hq]
    unfold movedD
    cases hp : withinB o.b 1 9 <;> cases hu : (nodeA s o.a).moving <;> simp
  · have hd : deedD c s o = shrinkD s o := by simp only [deedD,hk,Int.reduceEq,if_true,if_false]
    rw [do_20 hk, app_job hr ho (by rw [hk]; rfl) (by rw [hk]; rfl), hd]
    by_cases hq : o.a < 1 ∨ (s.jobs.length : Int) < o.a
    · rw [if_pos hq]
      have hw : whyR c s o = 4 := by rw [why_20 ho hk, if_pos hq]
      rw [hw, if_pos (by decide)]
    rw [if_neg hq]
    unfold shrinkD
    by_cases hb : (s.nodes.length : Int) ≤ o.b
    · have hw : whyR c s o = 4 := by rw [why_20 ho hk, if_neg hq, if_pos hb]
      rw [hw, if_pos hb, if_pos (by decide)]
    by_cases hp : (jobA s o.a).phase = 2
    · have hc := shrink_cond h (a := o.a) (b := o.b) (by omega) (by omega)
      obtain ⟨k, hk1, hk2, hkl, hJ⟩ := job_of h (a := o.a) (by omega)
      have hbits := bits_of h hkl
      rw [← hJ] at hbits
      have hl := less_left (jobA s o.a).nodes o.b hbits (by omega)
      by_cases hx : (nodeA s o.b).job ≠ o.a ∨ many (jobA s o.a).nodes ≤ (jobA s o.a).min
      · have hx2 : hasB (jobA s o.a).nodes o.b.toNat = false ∨ many (jobA s o.a).nodes ≤ (jobA s o.a).min := hx.imp hc.1 id
        have hw : whyR c s o = 8 := by rw [why_20 ho hk, if_neg hq, if_neg hb, if_neg (fun h => h hp), if_pos hx2]
        rw [hw, if_neg hb, if_neg (fun h => h hp), if_pos hx, if_pos (by decide)]
      · have hx2 : ¬ (hasB (jobA s o.a).nodes o.b.toNat = false ∨ many (jobA s o.a).nodes ≤ (jobA s o.a).min) := fun hq => hx (hq.imp hc.2 id)
        have hw : whyR c s o = 0 := by rw [why_20 ho hk, if_neg hq, if_neg hb, if_neg (fun h => h hp), if_neg hx2]
        rw [hw, if_neg hb, if_neg (fun h => h hp), if_neg hx, if_neg (fun h => h rfl), hl]
    · have hw : whyR c s o = 5 := by rw [why_20 ho hk, if_neg hq, if_neg hb, if_pos hp]
      rw [hw, if_neg hb, if_pos hp, if_pos (by decide)]
  · have hd : deedD c s o = newtermD s := by simp only [deedD,hk,Int.reduceEq,if_true,if_false]
    rw [why_21 ho hk, do_21 hk, app_none hr ho (by rw [hk]; rfl) (by rw [hk]; rfl), hd]
    unfold newtermD
    have := h.term
    by_cases hp : s.term = 1000000
    · have : 1000000 ≤ s.term := by omega
      simp [hp]
    · have : ¬ 1000000 ≤ s.term := by omega
      simp [hp,this]
end Dv
