/- Each op is a step, or an error that leaves all as it was; what steps keep. -/
import Derived.Test.YtkalnfkokkjliaaGreatDoorL2
set_option linter.unusedVariables false
set_option linter.unusedSimpArgs false
namespace Dv

theorem within_f {n lo hi : Int} (h : ¬ withinB n lo hi = false) : lo ≤ n ∧ n ≤ hi := within_t (by simpa using h)
theorem meant_rng {c : ConfD} {s : StateD} (h : RightP c s) : 1 ≤ meant s ∧ meant s ≤ 9 := by
  unfold meant; split
  · exact h.prior
  · exact h.goal
theorem node_facts {c : ConfD} {s : StateD} (h : RightP c s) {i : Nat} (hi : i < s.nodes.length) : (1 ≤ (noA s i).version ∧ (noA s i).version ≤ 9) ∧ (0 ≤ (noA s i).job ∧ (noA s i).job ≤ s.jobs.length) ∧ ((noA s i).moving = true → (noA s i).up = true ∧ (noA s i).cordon = true ∧ (noA s i).job = 0) ∧ ((noA s i).job ≠ 0 → (noA s i).up = true) :=
  ⟨h.ver i hi, h.job i hi, h.moving i hi, h.up i hi⟩

theorem deed_step {c : ConfD} {s : StateD} (h : RightP c s) {o : OpD} (ho : opOkB o = true) (hj : jobK o.kind = true → 1 ≤ o.a ∧ o.a ≤ s.jobs.length) (hn : nodeK o.kind = true → o.a < s.nodes.length) : (deedD c s o).2 = 0 → Step c s (deedD c s o).1 := by
  obtain ⟨hkk, hka, hkb⟩ := opOk_nums ho
  have hlj := h.jobs
  have hln := h.len
  have hk : o.kind = 1 ∨ o.kind = 2 ∨ o.kind = 3 ∨ o.kind = 4 ∨ o.kind = 5 ∨ o.kind = 6 ∨ o.kind = 7 ∨ o.kind = 8 ∨ o.kind = 9 ∨ o.kind = 10 ∨ o.kind = 11 ∨ o.kind = 12 ∨ o.kind = 13 ∨ o.kind = 14 ∨ o.kind = 15 ∨ o.kind = 16 ∨ o.kind = 17 ∨ o.kind = 18 ∨ o.kind = 19 ∨ o.kind = 20 ∨ o.kind = 21 := by omega
  have J : jobK o.kind = true → ∃ k : Nat, o.a = k + 1 ∧ (o.a - 1).toNat = k ∧ k < s.jobs.length ∧ jobA s o.a = joA s k ∧ JobNum c (joA s k) := fun hq => by
    obtain ⟨k, a1, a2, a3, a4⟩ := job_of h (hj hq)
    exact ⟨k, a1, a2, a3, a4, h.num k a3⟩
  have N : nodeK o.kind = true → ∃ i : Nat, o.a = i ∧ o.a.toNat = i ∧ i < s.nodes.length ∧ nodeA s o.a = noA s i := fun hq => node_of ⟨hka.1, hn hq⟩
  rcases hk with hk | hk | hk | hk | hk | hk | hk | hk | hk | hk | hk | hk | hk | hk | hk | hk | hk | hk | hk | hk | hk
  · rw [show deedD c s o = submitD c s o by simp only [deedD,hk,Int.reduceEq,if_true,if_false]]
    unfold submitD
    split
    · intro e; cases e
    split
    · intro e; cases e
    rename_i ha h24
    intro _
    exact .more ⟨by omega, ⟨by simpa using ha, by simp [newJob], by simp [newJob], by simp [newJob], by simp [newJob], by simp [newJob]⟩, rfl, rfl⟩
  · rw [show deedD c s o = cancelD s o by simp only [deedD,hk,Int.reduceEq,if_true,if_false]]
    obtain ⟨k, a1, a2, a3, a4, a5⟩ := J (by rw [hk]; rfl)
    unfold cancelD
    rw [a4]
    split
    · intro e; cases e
    rename_i hp
    intro _
    rw [a1]
    exact release_is h a3 (.inr rfl) hp
  · rw [show deedD c s o = targetD s o by simp only [deedD,hk,Int.reduceEq,if_true,if_false]]
    unfold targetD
    split
    · intro e; cases e
    rename_i hp
    intro _
    exact .num ⟨within_f hp, meant_rng h, by decide, by have := h.term; omega⟩
  · rw [show deedD c s o = turnD s (s.mode == 0) 1 by simp only [deedD,hk,Int.reduceEq,if_true,if_false]]
    unfold turnD
    split
    · intro _; exact .num ⟨h.goal, h.prior, by decide, by have := h.term; omega⟩
    · intro e; cases e
  · rw [show deedD c s o = turnD s (s.mode == 1) 0 by simp only [deedD,hk,Int.reduceEq,if_true,if_false]]
    unfold turnD
    split
    · intro _; exact .num ⟨h.goal, h.prior, by decide, by have := h.term; omega⟩
    · intro e; cases e
  · rw [show deedD c s o = turnD s (s.mode != 2) 2 by simp only [deedD,hk,Int.reduceEq,if_true,if_false]]
    unfold turnD
    split
    · intro _; exact .num ⟨h.goal, h.prior, by decide, by have := h.term; omega⟩
    · intro e; cases e
  · rw [show deedD c s o = downD s o by simp only [deedD,hk,Int.reduceEq,if_true,if_false]]
    obtain ⟨i, b1, b2, b3, b4⟩ := N (by rw [hk]; rfl)
    obtain ⟨n1, n2, n3, n4⟩ := node_facts h b3
    unfold downD
    rw [b4]
    split
    · intro e; cases e
    intro _
    dsimp only
    by_cases hz : (noA s i).job = 0
    · rw [if_neg (by simp [hz]), b4]
      refine setN_is b2 ⟨b3, n1, rfl, fun _ => rfl, fun e => (by cases e), fun e => absurd hz e⟩
    · rw [if_pos hz]
      obtain ⟨k, hkj⟩ : ∃ k : Nat, (noA s i).job = k + 1 := ⟨((noA s i).job - 1).toNat, by omega⟩
      have hkl : k < s.jobs.length := by omega
      have hbit := (h.link i k b3 hkl).2 hkj
      have hph : (joA s k).phase ≠ 4 := fun e => by
        have := h.idle k hkl (by rw [e]; rfl)
        rw [this, has_zero] at hbit; cases hbit
      have hst := release_step h hkl (p := 0) (.inl rfl) hph
      have hr := h.job_step hst
      rw [hkj, release_eq]
      have hna : nodeA { s with nodes := s.nodes.mapIdx (lets (k + 1)), jobs := s.jobs.set k { joA s k with phase := 0, nodes := 0, since := 0, til := 0 } } o.a = lets (k + 1) i (noA s i) := by
        unfold nodeA; rw [b2]; exact getD_mapIdx _ _ _ _ b3
      have hna2 : noA { s with nodes := s.nodes.mapIdx (lets (k + 1)), jobs := s.jobs.set k { joA s k with phase := 0, nodes := 0, since := 0, til := 0 } } i = lets (k + 1) i (noA s i) := getD_mapIdx _ _ _ _ b3
      have hlet : lets (k + 1) i (noA s i) = { noA s i with job := 0 } := by unfold lets; rw [if_pos hkj]
      rw [hna, hlet]
      unfold setN
      rw [b2]
      refine .both hst ⟨by simpa using b3, n1, by rw [hna2, hlet], fun _ => by rw [hna2, hlet], fun e => (by cases e), fun e => absurd rfl e⟩
  · rw [show deedD c s o = upD s o by simp only [deedD,hk,Int.reduceEq,if_true,if_false]]
    obtain ⟨i, b1, b2, b3, b4⟩ := N (by rw [hk]; rfl)
    obtain ⟨n1, n2, n3, n4⟩ := node_facts h b3
    unfold upD
    rw [b4]
    split
    · intro e; cases e
    split
    · intro e; cases e
    rename_i hv hu
    intro _
    refine setN_is b2 ⟨b3, within_f hv, rfl, fun e => absurd (n4 e) hu, fun e => absurd (n3 e).1 hu, fun e => rfl⟩
  · rw [show deedD c s o = holdD s o by simp only [deedD,hk,Int.reduceEq,if_true,if_false]]
    obtain ⟨k, a1, a2, a3, a4, a5⟩ := J (by rw [hk]; rfl)
    unfold holdD
    rw [a4]
    split
    · intro e; cases e
    split
    · intro e; cases e
    rename_i hp hf
    intro _
    have hp : (joA s k).phase = 0 := by simpa using hp
    have hst := hold_step h a3 hp (b := o.b) (by cases hq : fitsB s.nodes (joA s k) o.b freeB with | true => rfl | false => exact absurd (.inl hq) hf) (by omega)
    unfold setJ
    rw [a2, a1]
    exact .job hst
  · rw [show deedD c s o = startD s o by simp only [deedD,hk,Int.reduceEq,if_true,if_false]]
    obtain ⟨k, a1, a2, a3, a4, a5⟩ := J (by rw [hk]; rfl)
    unfold startD
    rw [a4]
    split
    · intro e; cases e
    rename_i hp
    have hp : (joA s k).phase = 1 := by simpa using hp
    intro _
    exact setJ_is a2 (field_step h a3 _ ⟨a5.asked, by dsimp only; omega, a5.inc, hkb, a5.til, a5.epoch⟩ ⟨rfl, rfl, rfl, rfl, rfl, rfl⟩ ⟨Int.le_refl _, Int.le_refl _⟩ (by omega) rfl (by rw [hp]; rfl) (fun e => by cases e))
  · rw [show deedD c s o = unholdD s o by simp only [deedD,hk,Int.reduceEq,if_true,if_false]]
    obtain ⟨k, a1, a2, a3, a4, a5⟩ := J (by rw [hk]; rfl)
    unfold unholdD
    rw [a4]
    split
    · intro e; cases e
    rename_i hp
    have hp : (joA s k).phase = 1 := by simpa using hp
    intro _
    rw [a1]
    exact release_is h a3 (.inl rfl) (by omega)
  · rw [show deedD c s o = drainD c s o by simp only [deedD,hk,Int.reduceEq,if_true,if_false]]
    obtain ⟨k, a1, a2, a3, a4, a5⟩ := J (by rw [hk]; rfl)
    unfold drainD
    rw [a4]
    split
    · intro e; cases e
    split
    · intro e; cases e
    rename_i hp hq
    have hp : (joA s k).phase = 2 := by simpa using hp
    intro _
    exact setJ_is a2 (field_step h a3 _ ⟨a5.asked, by dsimp only; omega, a5.inc, a5.since, hkb, a5.epoch⟩ ⟨rfl, rfl, rfl, rfl, rfl, rfl⟩ ⟨Int.le_refl _, Int.le_refl _⟩ (by omega) rfl (by rw [hp]; rfl) (fun e => .inr (by omega)))
  · rw [show deedD c s o = savedD s o by simp only [deedD,hk,Int.reduceEq,if_true,if_false]]
    obtain ⟨k, a1, a2, a3, a4, a5⟩ := J (by rw [hk]; rfl)
    unfold savedD
    rw [a4]
    split
    · intro e; cases e
    split
    · intro e; cases e
    rename_i hp hq
    have hp : (joA s k).phase ≠ 4 := fun e => by unfold runsB at hp; rw [e] at hp; exact hp rfl
    intro _
    exact setJ_is a2 (field_step h a3 _ ⟨a5.asked, a5.phase, a5.inc, a5.since, a5.til, by dsimp only; omega⟩ ⟨rfl, rfl, rfl, rfl, rfl, rfl⟩ ⟨Int.le_refl _, by dsimp only; omega⟩ hp rfl rfl (fun e => .inl e))
  · rw [show deedD c s o = evictD s o by simp only [deedD,hk,Int.reduceEq,if_true,if_false]]
    obtain ⟨k, a1, a2, a3, a4, a5⟩ := J (by rw [hk]; rfl)
    unfold evictD
    rw [a4]
    split
    · intro e; cases e
    rename_i hp
    have hp : (joA s k).phase = 3 := by simpa using hp
    intro _
    rw [a1]
    exact release_is h a3 (.inl rfl) (by omega)
  · rw [show deedD c s o = doneD s o by simp only [deedD,hk,Int.reduceEq,if_true,if_false]]
    obtain ⟨k, a1, a2, a3, a4, a5⟩ := J (by rw [hk]; rfl)
    unfold doneD
    rw [a4]
    split
    · intro e; cases e
    rename_i hp
    have hp : (joA s k).phase ≠ 4 := fun e => by unfold runsB at hp; rw [e] at hp; exact hp rfl
    intro _
    rw [a1]
    exact release_is h a3 (.inr rfl) hp
  · rw [show deedD c s o = cordonD s o by simp only [deedD,hk,Int.reduceEq,if_true,if_false]]
    obtain ⟨i, b1, b2, b3, b4⟩ := N (by rw [hk]; rfl)
    obtain ⟨n1, n2, n3, n4⟩ := node_facts h b3
    unfold cordonD
    rw [b4]
    split
    · intro e; cases e
    intro _
    refine setN_is b2 ⟨b3, n1, rfl, fun _ => rfl, fun e => ⟨(n3 e).1, rfl, (n3 e).2.2⟩, n4⟩
  · rw [show deedD c s o = uncordonD s o by simp only [deedD,hk,Int.reduceEq,if_true,if_false]]
    obtain ⟨i, b1, b2, b3, b4⟩ := N (by rw [hk]; rfl)
    obtain ⟨n1, n2, n3, n4⟩ := node_facts h b3
    unfold uncordonD
    rw [b4]
    split
    · intro e; cases e
    rename_i hq
    intro _
    refine setN_is b2 ⟨b3, n1, rfl, fun _ => rfl, fun e => absurd (.inr e) hq, n4⟩
  · rw [show deedD c s o = moveD s o by simp only [deedD,hk,Int.reduceEq,if_true,if_false]]
    obtain ⟨i, b1, b2, b3, b4⟩ := N (by rw [hk]; rfl)
    obtain ⟨n1, n2, n3, n4⟩ := node_facts h b3
    unfold moveD
    rw [b4]
    split
    · intro e; cases e
    rename_i hq
    intro _
    have hq2 : (noA s i).up = true ∧ (noA s i).cordon = true ∧ (noA s i).job = 0 := by
      simp only [not_or,Bool.not_eq_false,Bool.not_eq_true,Decidable.not_not] at hq
      exact ⟨hq.1, hq.2.1, hq.2.2.2⟩
    refine setN_is b2 ⟨b3, n1, rfl, fun _ => rfl, fun e => hq2, n4⟩
  · rw [show deedD c s o = movedD s o by simp only [deedD,hk,Int.reduceEq,if_true,if_false]]
    obtain ⟨i, b1, b2, b3, b4⟩ := N (by rw [hk]; rfl)
    obtain ⟨n1, n2, n3, n4⟩ := node_facts h b3
    unfold movedD
    rw [b4]
    split
    · intro e; cases e
    split
    · intro e; cases e
    rename_i hv hm
    intro _
    have hm : (noA s i).moving = true := by simpa using hm
    refine setN_is b2 ⟨b3, within_f hv, rfl, fun e => absurd (n3 hm).2.2 e, fun e => (by cases e), n4⟩
  · rw [show deedD c s o = shrinkD s o by simp only [deedD,hk,Int.reduceEq,if_true,if_false]]
    obtain ⟨k, a1, a2, a3, a4, a5⟩ := J (by rw [hk]; rfl)
    unfold shrinkD
    split
    · intro e; cases e
    rename_i hbl
    obtain ⟨b, b1, b2, b3, b4⟩ := node_of (s := s) (a := o.b) (by omega)
    rw [a4, b4]
    split
    · intro e; cases e
    split
    · intro e; cases e
    rename_i hp hq
    have hp : (joA s k).phase = 2 := by simpa using hp
    simp only [not_or,Decidable.not_not] at hq
    intro _
    have hst := shrink_step h a3 b3 hp (by omega) (by omega)
    unfold setN setJ
    rw [a2, b1]
    exact .job hst
  · rw [show deedD c s o = newtermD s by simp only [deedD,hk,Int.reduceEq,if_true,if_false]]
    unfold newtermD
    split
    · intro e; cases e
    intro _
    exact .num ⟨h.goal, h.prior, h.mode, by have := h.term; omega⟩

theorem apply_step {c : ConfD} {s : StateD} (h : RightP c s) (o : OpD) : ((applyD c s o).2 = 0 → Step c s (applyD c s o).1) ∧ ((applyD c s o).2 ≠ 0 → (applyD c s o).1 = s) := by
  have hr := (right_iff c s).2 h
  unfold applyD
  rw [if_neg (by simp [hr])]
  unfold appD
  split
  · exact ⟨fun e => by (cases e), fun _ => rfl⟩
  split
  · exact ⟨fun e => by (cases e), fun _ => rfl⟩
  split
  · exact ⟨fun e => by (cases e), fun _ => rfl⟩
  rename_i h1 h2 h3
  exact ⟨deed_step h (by simpa using h1) (fun e => by by_cases hq : o.a < 1 ∨ (s.jobs.length : Int) < o.a; exact absurd ⟨e, hq⟩ h2; omega) (fun e => by by_cases hq : (s.nodes.length : Int) ≤ o.a; exact absurd ⟨e, hq⟩ h3; omega), deed_err c s o⟩
theorem apply_right {c : ConfD} {s : StateD} (h : RightP c s) (o : OpD) : RightP c (applyD c s o).1 := by
  have := apply_step h o
  by_cases e : (applyD c s o).2 = 0
  · exact (this.1 e).right h
  · rw [this.2 e]; exact h
end Dv
