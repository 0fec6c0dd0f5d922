/- What ops may do to a state that may be: steps. -/
import Derived.Test.YtkalnfkokkjliaaGreatDoorL1
set_option linter.unusedVariables false
set_option linter.unusedSimpArgs false
namespace Dv

theorem release_eq {s : StateD} {k : Nat} (p : Int) : releaseD s ((k : Int) + 1) p = { s with nodes := s.nodes.mapIdx (lets (k + 1)), jobs := s.jobs.set k { joA s k with phase := p, nodes := 0, since := 0, til := 0 } } := by
  have : ((k : Int) + 1 - 1).toNat = k := by omega
  unfold releaseD jobA joA
  rw [this]
theorem setJ_is {c : ConfD} {s : StateD} {a : Int} {k : Nat} (ha : (a - 1).toNat = k) {j' : JobD} (q : JobStep c s k j' s.nodes) : Step c s (setJ s a j') := by
  unfold setJ
  rw [ha]
  exact .job q
theorem setN_is {c : ConfD} {s : StateD} {a : Int} {i : Nat} (ha : a.toNat = i) {n' : NodeD} (q : NodeStep s i n') : Step c s (setN s a n') := by
  unfold setN
  rw [ha]
  exact .node q

theorem less_facts (m b : Int) (hm : 0 ≤ m ∧ m < 64) (hb : 0 ≤ b ∧ b < 6) (hh : hasB m b.toNat = true) : 0 ≤ lessD m b ∧ many (lessD m b) = many m - 1 ∧ lessD m b ≤ m ∧ ∀ i : Nat, i < 6 → hasB (lessD m b) i = (hasB m i && decide (i ≠ b.toNat)) := by
  obtain ⟨m, rfl⟩ := Int.eq_ofNat_of_zero_le hm.1
  obtain ⟨b, rfl⟩ := Int.eq_ofNat_of_zero_le hb.1
  have : ∀ m : Nat, m < 64 → ∀ b : Nat, b < 6 → hasB (m : Int) b = true → 0 ≤ lessD (m : Int) b ∧ many (lessD (m : Int) b) = many m - 1 ∧ lessD (m : Int) b ≤ m ∧ ∀ i : Nat, i < 6 → hasB (lessD (m : Int) b) i = (hasB (m : Int) i && decide (i ≠ b)) := by decide +kernel
  exact this m (by omega) b (by omega) hh
section
variable {c : ConfD} {s : StateD} (h : RightP c s)
include h

theorem field_step {k : Nat} (hk : k < s.jobs.length) (j' : JobD) (num : JobNum c j') (fixed : j'.queue = (joA s k).queue ∧ j'.prio = (joA s k).prio ∧ j'.min = (joA s k).min ∧ j'.max = (joA s k).max ∧ j'.work = (joA s k).work ∧ j'.pin = (joA s k).pin)
    (grow : (joA s k).inc ≤ j'.inc ∧ (joA s k).epoch ≤ j'.epoch) (ended : (joA s k).phase ≠ 4) (hn : j'.nodes = (joA s k).nodes) (hp : placedB j'.phase = placedB (joA s k).phase)
    (hq : j'.phase = 3 → (joA s k).phase = 3 ∨ drainsL s.jobs (joA s k).queue < c.quota) : JobStep c s k j' s.nodes := by
  refine ⟨hk, num, fixed, grow, ended, rfl, fun i hi => ⟨rfl, rfl, rfl, rfl⟩, fun hpl => ?_, fun hpl => ?_, fun i hi => ?_, fun i q hi hq hne => Iff.rfl, h.job, fun i hi h0 => ⟨h.up i hi h0, ?_⟩, hq⟩
  · rw [hp] at hpl
    obtain ⟨a, b, d, u, e, f⟩ := h.placed k hk hpl
    obtain ⟨f1, f2, f3, f4, f5, f6⟩ := fixed
    refine ⟨by rw [hn]; exact a, by rw [hn]; exact b, by rw [hn, f3, f4]; exact d, u, by rw [f6]; exact e, by rw [hn]; exact f⟩
  · rw [hp] at hpl; rw [hn]; exact h.idle k hk hpl
  · rw [hn]; exact h.link i k hi hk
  · cases hm : (noA s i).moving with
    | false => rfl
    | true => exact absurd (h.moving i hi hm).2.2 h0

theorem release_step {k : Nat} (hk : k < s.jobs.length) {p : Int} (hp : p = 0 ∨ p = 4) (ended : (joA s k).phase ≠ 4) :
    JobStep c s k { joA s k with phase := p, nodes := 0, since := 0, til := 0 } (s.nodes.mapIdx (lets (k + 1))) := by
  have hj := h.num k hk
  have hg : ∀ i, i < s.nodes.length → (s.nodes.mapIdx (lets (k + 1))).getD i zeroNode = lets (k + 1) i (noA s i) := fun i hi => getD_mapIdx _ _ _ _ hi
  have hpl : placedB p = false := by rcases hp with rfl | rfl <;> rfl
  refine ⟨hk, ⟨hj.asked, by dsimp only; omega, hj.inc, by dsimp only; omega, by dsimp only; omega, hj.epoch⟩, ⟨rfl, rfl, rfl, rfl, rfl, rfl⟩, ⟨Int.le_refl _, Int.le_refl _⟩, ended, by simp, fun i hi => ?_, fun h' => ?_, fun _ => rfl, fun i hi => ?_, fun i q hi hq hne => ?_, fun i hi => ?_, fun i hi h0 => ?_, fun h' => ?_⟩
  · rw [hg i hi]; unfold lets; split <;> exact ⟨rfl, rfl, rfl, rfl⟩
  · dsimp only at h'; rw [hpl] at h'; cases h'
  · dsimp only
    rw [hg i hi, has_zero]
    unfold lets
    split
    · simp; omega
    · rename_i hne; simp [hne]
  · rw [hg i hi]
    unfold lets
    split
    · rename_i he
      dsimp only
      omega
    · rfl
  · rw [hg i hi]
    have := h.job i hi
    unfold lets
    split
    · dsimp only; omega
    · exact this
  · rw [hg i hi] at h0
    unfold lets at h0
    split at h0
    · exact absurd rfl h0
    · refine ⟨h.up i hi h0, ?_⟩
      cases hm : (noA s i).moving with
      | false => rfl
      | true => exact absurd (h.moving i hi hm).2.2 h0
  · dsimp only at h'; omega
theorem release_is {k : Nat} (hk : k < s.jobs.length) {p : Int} (hp : p = 0 ∨ p = 4) (ended : (joA s k).phase ≠ 4) : Step c s (releaseD s ((k : Int) + 1) p) := by
  rw [release_eq]
  exact .job (release_step h hk hp ended)
theorem hold_step {k : Nat} (hk : k < s.jobs.length) {b : Int} (h0 : (joA s k).phase = 0) (hf : fitsB s.nodes (joA s k) b freeB = true) (hi : (joA s k).inc < 1000000) :
    JobStep c s k { joA s k with phase := 1, inc := (joA s k).inc + 1, nodes := b } (s.nodes.mapIdx (takesA b (k + 1))) := by
  have hj := h.num k hk
  have hv : ∀ k, k < s.nodes.length → 1 ≤ (s.nodes.getD k zeroNode).version := fun k hk => (h.ver k hk).1
  obtain ⟨f1, f2, u, f3, f4⟩ := (fitsB_iff _ _ _ _ hv).1 hf
  have hg : ∀ i, i < s.nodes.length → (s.nodes.mapIdx (takesA b (k + 1))).getD i zeroNode = takesA b (k + 1) i (noA s i) := fun i hi => getD_mapIdx _ _ _ _ hi
  have hfree : ∀ i, i < s.nodes.length → hasB b i = true → (noA s i).up = true ∧ (noA s i).moving = false ∧ (noA s i).job = 0 := fun i hi hb => by
    have := (f4 i hi hb).1
    unfold freeB at this
    simp only [Bool.and_eq_true,decide_eq_true_eq,Bool.not_eq_true'] at this
    exact ⟨this.1.1.1, this.1.2, this.2⟩
  have hno : (joA s k).nodes = 0 := h.idle k hk (by rw [h0]; rfl)
  have hnk : ∀ i, i < s.nodes.length → (noA s i).job ≠ k + 1 := fun i hi he => by
    have := (h.link i k hi hk).2 he
    rw [hno, has_zero] at this; cases this
  refine ⟨hk, ⟨hj.asked, by dsimp only; omega, by have := hj.inc; dsimp only; omega, hj.since, hj.til, by have := hj.epoch; dsimp only; omega⟩, ⟨rfl, rfl, rfl, rfl, rfl, rfl⟩, ⟨by dsimp only; omega, Int.le_refl _⟩, by omega, by simp, fun i hi => ?_, fun _ => ⟨f1.1, f1.2, f2, u, f3, fun i hi hb => (f4 i hi hb).2⟩, fun h' => by simp [placedB] at h', fun i hi => ?_, fun i q hi hq hne => ?_, fun i hi => ?_, fun i hi h0 => ?_, fun h' => by dsimp only at h'; omega⟩
  · rw [hg i hi]; unfold takesA; split <;> exact ⟨rfl, rfl, rfl, rfl⟩
  · rw [hg i hi]
    have := hnk i hi
    unfold takesA
    dsimp only
    split
    · rename_i hb; simp [hb]
    · rename_i hb; simp [hb,this]
  · rw [hg i hi]
    unfold takesA
    split
    · rename_i hb
      have := (hfree i hi hb).2.2
      dsimp only
      omega
    · rfl
  · rw [hg i hi]
    have := h.job i hi
    unfold takesA
    split
    · dsimp only; omega
    · exact this
  · rw [hg i hi] at h0
    unfold takesA at h0
    split at h0
    · rename_i hb
      have := hfree i hi hb
      exact ⟨this.1, this.2.1⟩
    · refine ⟨h.up i hi h0, ?_⟩
      cases hm : (noA s i).moving with
      | false => rfl
      | true => exact absurd (h.moving i hi hm).2.2 h0

theorem shrink_step {k b : Nat} (hk : k < s.jobs.length) (hb : b < s.nodes.length) (h2 : (joA s k).phase = 2) (hj : (noA s b).job = k + 1) (hm : (joA s k).min < many (joA s k).nodes) :
    JobStep c s k { joA s k with nodes := lessD (joA s k).nodes b } (s.nodes.set b { noA s b with job := 0 }) := by
  have hnum := h.num k hk
  have hln := h.len
  have hbits := bits_of h hk
  have hh := (h.link b k hb hk).2 hj
  obtain ⟨l1, l2, l3, l4⟩ := less_facts (joA s k).nodes b hbits (by omega) hh
  have hg : ∀ i, (s.nodes.set b { noA s b with job := 0 }).getD i zeroNode = if i = b then { noA s b with job := 0 } else noA s i := fun i => getD_set _ _ _ _ _ hb
  have hpl := h.placed k hk (by rw [h2]; rfl)
  refine ⟨hk, ⟨hnum.asked, hnum.phase, hnum.inc, hnum.since, hnum.til, hnum.epoch⟩, ⟨rfl, rfl, rfl, rfl, rfl, rfl⟩, ⟨Int.le_refl _, Int.le_refl _⟩, by omega, by simp, fun i hi => ?_, fun _ => ?_, fun h' => ?_, fun i hi => ?_, fun i q hi hq hne => ?_, fun i hi => ?_, fun i hi h0 => ?_, fun h' => by dsimp only at h'; omega⟩
  · rw [hg i]; split
    · rename_i e; subst e; exact ⟨rfl, rfl, rfl, rfl⟩
    · exact ⟨rfl, rfl, rfl, rfl⟩
  · obtain ⟨a, b', d, u, e, f⟩ := hpl
    refine ⟨l1, by dsimp only; omega, by dsimp only; omega, u, e, fun i hi hb' => f i hi ?_⟩
    dsimp only at hb'
    rw [l4 i (by omega)] at hb'
    simp only [Bool.and_eq_true] at hb'
    exact hb'.1
  · dsimp only at h'; rw [h2] at h'; cases h'
  · rw [hg i]
    dsimp only
    rw [l4 i (by omega)]
    have := h.link i k hi hk
    split
    · rename_i e; subst e; simp; omega
    · rename_i e; simp [e,this]
  · rw [hg i]
    split
    · rename_i e; subst e; dsimp only; omega
    · rfl
  · rw [hg i]
    have := h.job i hi
    split
    · dsimp only; omega
    · exact this
  · rw [hg i] at h0
    split at h0
    · exact absurd rfl h0
    · refine ⟨h.up i hi h0, ?_⟩
      cases hm : (noA s i).moving with
      | false => rfl
      | true => exact absurd (h.moving i hi hm).2.2 h0
end
end Dv
