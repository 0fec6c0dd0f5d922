/- A job that is held and let go again, or started, drained and evicted: all is as it was, but how often it was held. -/
import Derived.Test.YtjmceebhnjiikaaDoorL4
set_option linter.unusedVariables false
set_option linter.unusedSimpArgs false
namespace Dv

theorem apply_job {c : ConfD} {s : StateD} (h : RightP c s) {o : OpD} (ho : opOkB o = true) (h1 : jobK o.kind = true) (h2 : nodeK o.kind = false) (ha : 1 ≤ o.a ∧ o.a ≤ s.jobs.length) : applyD c s o = deedD c s o := by
  rw [app_job ((right_iff c s).2 h) ho h1 h2, if_neg (by omega)]
theorem op_ok9 {a b : Int} (h : opOkB ⟨9, a, b, 0, 0, 0, 0⟩ = true) : (0 ≤ a ∧ a ≤ 1000000) ∧ (0 ≤ b ∧ b ≤ 1000000) := (opOk_nums h).2
theorem op_ok2 {k a b : Int} (hk : k = 10 ∨ k = 12) (ha : 0 ≤ a ∧ a ≤ 1000000) (hb : 0 ≤ b ∧ b ≤ 1000000) : opOkB ⟨k, a, b, 0, 0, 0, 0⟩ = true := by
  rcases hk with rfl | rfl <;> simp [opOkB, numOk, manyK] <;> omega
theorem op_ok1 {k a : Int} (hk : k = 11 ∨ k = 14) (ha : 0 ≤ a ∧ a ≤ 1000000) : opOkB ⟨k, a, 0, 0, 0, 0, 0⟩ = true := by
  rcases hk with rfl | rfl <;> simp [opOkB, numOk, manyK] <;> omega

def wantD (s : StateD) (job : Int) : StateD := setJ s job { jobA s job with inc := (jobA s job).inc + 1, since := 0, til := 0 }
theorem nodes_back {c : ConfD} {s : StateD} (h : RightP c s) {k : Nat} (hk : k < s.jobs.length) (hp : (joA s k).phase = 0) {b : Int} (hf : fitsB s.nodes (joA s k) b freeB = true) : (s.nodes.mapIdx (takesA b ((k : Int) + 1))).mapIdx (lets ((k : Int) + 1)) = s.nodes := by
  have hv : ∀ k, k < s.nodes.length → 1 ≤ (s.nodes.getD k zeroNode).version := fun k hk => (h.ver k hk).1
  obtain ⟨_, _, u, _, f4⟩ := (fitsB_iff _ _ _ _ hv).1 hf
  apply List.ext_getElem
  · simp
  · intro i h1 h2
    simp only [List.getElem_mapIdx]
    have hg : noA s i = s.nodes[i] := by unfold noA; simp [List.getD, h2]
    unfold takesA
    by_cases hb : hasB b i = true
    · rw [if_pos hb]
      have := (f4 i h2 hb).1
      have hj : (s.nodes[i]).job = 0 := by
        unfold freeB at this
        simp only [Bool.and_eq_true, decide_eq_true_eq] at this
        have := this.2
        unfold noA at hg
        rw [← hg]; exact this
      unfold lets
      rw [if_pos rfl]
      generalize s.nodes[i] = n at *
      obtain ⟨a1, a2, a3, a4, a5⟩ := n
      dsimp only at hj
      subst hj
      rfl
    · rw [if_neg hb]
      unfold lets
      rw [if_neg]
      intro he
      have := (h.link i k h2 hk).2 (by rw [hg]; exact he)
      rw [h.idle k hk (by rw [hp]; rfl), has_zero] at this
      cases this
theorem set_twice {α : Type} (l : List α) (k : Nat) (a b : α) : (l.set k a).set k b = l.set k b := by simp

theorem back {c : ConfD} {s : StateD} (h : RightP c s) {job nodes now : Int} (hnow : 0 ≤ now ∧ now ≤ 1000000) (ht : (applyD c s ⟨9, job, nodes, 0, 0, 0, 0⟩).2 = 0) :
    (1 ≤ job ∧ job ≤ s.jobs.length) ∧ applyD c (applyD c s ⟨9, job, nodes, 0, 0, 0, 0⟩).1 ⟨11, job, 0, 0, 0, 0, 0⟩ = (wantD s job, 0) ∧
    ((applyD c (applyD c (applyD c s ⟨9, job, nodes, 0, 0, 0, 0⟩).1 ⟨10, job, now, 0, 0, 0, 0⟩).1 ⟨12, job, now, 0, 0, 0, 0⟩).2 = 0 →
      (applyD c (applyD c (applyD c (applyD c s ⟨9, job, nodes, 0, 0, 0, 0⟩).1 ⟨10, job, now, 0, 0, 0, 0⟩).1 ⟨12, job, now, 0, 0, 0, 0⟩).1 ⟨14, job, 0, 0, 0, 0, 0⟩).1 = wantD s job) := by
  have hr := (right_iff c s).2 h
  have hT := apply_right h ⟨9, job, nodes, 0, 0, 0, 0⟩
  have ho : opOkB ⟨9, job, nodes, 0, 0, 0, 0⟩ = true := by
    cases ho : opOkB ⟨9, job, nodes, 0, 0, 0, 0⟩ with
    | true => rfl
    | false =>
      have : applyD c s ⟨9, job, nodes, 0, 0, 0, 0⟩ = (s, 1) := by unfold applyD appD; rw [if_neg (by simp [hr]), if_pos ho]
      rw [this] at ht; cases ht
  have hA := app_job hr ho rfl rfl
  by_cases hq : job < 1 ∨ (s.jobs.length : Int) < job
  · rw [hA, if_pos hq] at ht; cases ht
  have hja : 1 ≤ job ∧ job ≤ s.jobs.length := by omega
  refine ⟨hja, ?_⟩
  rw [if_neg hq, show deedD c s ⟨9, job, nodes, 0, 0, 0, 0⟩ = holdD s ⟨9, job, nodes, 0, 0, 0, 0⟩ from rfl] at hA
  obtain ⟨k, rfl, hk2, hk, hJ⟩ := job_of h hja
  rw [hA] at ht hT ⊢
  unfold holdD at ht hT ⊢
  dsimp only at ht hT ⊢
  rw [hJ] at ht hT ⊢
  by_cases hp : (joA s k).phase = 0
  · rw [if_neg (fun e => e hp)] at ht hT ⊢
    by_cases hf : fitsB s.nodes (joA s k) nodes freeB = false ∨ 1000000 ≤ (joA s k).inc
    · rw [if_pos hf] at ht; cases ht
    · rw [if_neg hf] at hT ⊢
      dsimp only at hT ⊢
      have hnum := op_ok9 ho
      have hf2 : fitsB s.nodes (joA s k) nodes freeB = true := by
        cases hq : fitsB s.nodes (joA s k) nodes freeB with
        | true => rfl
        | false => exact absurd (.inl hq) hf
      have hnb := nodes_back h hk hp hf2
      have hno : (joA s k).nodes = 0 := h.idle k hk (by rw [hp]; rfl)
      have hid : ∀ x : JobD, (s.jobs.set k x).getD k zeroJob = x := fun x => by rw [getD_set _ _ _ _ _ hk, if_pos rfl]
      have hwant : wantD s ((k : Int) + 1) = { s with jobs := s.jobs.set k { joA s k with inc := (joA s k).inc + 1, since := 0, til := 0 } } := by
        unfold wantD setJ; rw [hJ, hk2]
      have hrel : ∀ j2 : JobD, j2.queue = (joA s k).queue → j2.prio = (joA s k).prio → j2.min = (joA s k).min → j2.max = (joA s k).max → j2.work = (joA s k).work → j2.pin = (joA s k).pin → j2.inc = (joA s k).inc + 1 → j2.epoch = (joA s k).epoch →
          releaseD { s with nodes := s.nodes.mapIdx (takesA nodes ((k : Int) + 1)), jobs := s.jobs.set k j2 } ((k : Int) + 1) 0 = wantD s ((k : Int) + 1) := by
        intro j2 e1 e2 e3 e4 e5 e6 e7 e8
        rw [release_eq, hwant]
        unfold joA at e1 e2 e3 e4 e5 e6 e7 e8 hno hp ⊢
        dsimp only
        rw [hid, hnb, set_twice]
        generalize s.jobs.getD k zeroJob = j at *
        obtain ⟨a1, a2, a3, a4, a5, a6, a7, a8, a9, a10, a11, a12⟩ := j
        obtain ⟨b1, b2, b3, b4, b5, b6, b7, b8, b9, b10, b11, b12⟩ := j2
        dsimp only at *
        subst e1 e2 e3 e4 e5 e6 e7 e8 hno hp
        rfl
      have hset : ∀ j1 j2 : JobD, setJ { s with nodes := s.nodes.mapIdx (takesA nodes ((k : Int) + 1)), jobs := s.jobs.set k j1 } ((k : Int) + 1) j2 = { s with nodes := s.nodes.mapIdx (takesA nodes ((k : Int) + 1)), jobs := s.jobs.set k j2 } := fun j1 j2 => by
        unfold setJ; rw [hk2]; dsimp only; rw [set_twice]
      have hjat : ∀ j1 : JobD, jobA { s with nodes := s.nodes.mapIdx (takesA nodes ((k : Int) + 1)), jobs := s.jobs.set k j1 } ((k : Int) + 1) = j1 := fun j1 => by
        unfold jobA; rw [hk2]; exact hid j1
      have hform : ∀ j1 : JobD, ({ setJ s ((k : Int) + 1) j1 with nodes := s.nodes.mapIdx (takesA nodes ((k : Int) + 1)) } : StateD) = { s with nodes := s.nodes.mapIdx (takesA nodes ((k : Int) + 1)), jobs := s.jobs.set k j1 } := fun j1 => by
        unfold setJ; rw [hk2]
      have hlen : ∀ j1 : JobD, 1 ≤ (k : Int) + 1 ∧ (k : Int) + 1 ≤ (({ s with nodes := s.nodes.mapIdx (takesA nodes ((k : Int) + 1)), jobs := s.jobs.set k j1 } : StateD).jobs.length : Int) := fun j1 => by
        dsimp only; rw [List.length_set]; omega
      rw [hform] at hT ⊢
      constructor
      · rw [apply_job hT (op_ok1 (.inl rfl) hnum.1) rfl rfl (hlen _)]
        rw [show ∀ u : StateD, deedD c u ⟨11, (k : Int) + 1, 0, 0, 0, 0, 0⟩ = unholdD u ⟨11, (k : Int) + 1, 0, 0, 0, 0, 0⟩ from fun _ => rfl]
        unfold unholdD
        dsimp only
        rw [hjat, if_neg (fun e => e rfl)]
        refine Prod.ext ?_ rfl
        refine hrel _ ?_ ?_ ?_ ?_ ?_ ?_ ?_ ?_ <;> rfl
      · have e1 := apply_job hT (op_ok2 (.inl rfl) hnum.1 hnow) rfl rfl (hlen _)
        have hT2 := apply_right hT ⟨10, (k : Int) + 1, now, 0, 0, 0, 0⟩
        rw [e1] at hT2 ⊢
        rw [show ∀ u : StateD, deedD c u ⟨10, (k : Int) + 1, now, 0, 0, 0, 0⟩ = startD u ⟨10, (k : Int) + 1, now, 0, 0, 0, 0⟩ from fun _ => rfl] at hT2 ⊢
        unfold startD at hT2 ⊢
        dsimp only at hT2 ⊢
        rw [hjat, if_neg (fun e => e rfl), hset] at hT2 ⊢
        dsimp only at hT2 ⊢
        have e2 := apply_job hT2 (op_ok2 (.inr rfl) hnum.1 hnow) rfl rfl (hlen _)
        have hT3 := apply_right hT2 ⟨12, (k : Int) + 1, now, 0, 0, 0, 0⟩
        rw [e2] at hT3 ⊢
        rw [show ∀ u : StateD, deedD c u ⟨12, (k : Int) + 1, now, 0, 0, 0, 0⟩ = drainD c u ⟨12, (k : Int) + 1, now, 0, 0, 0, 0⟩ from fun _ => rfl] at hT3 ⊢
        unfold drainD at hT3 ⊢
        dsimp only at hT3 ⊢
        rw [hjat, if_neg (fun e => e rfl)] at hT3 ⊢
        by_cases hd : c.quota ≤ drainsL (s.jobs.set k { { joA s k with phase := 1, inc := (joA s k).inc + 1, nodes := nodes } with phase := 2, since := now }) (joA s k).queue
        · rw [if_pos hd]
          intro e; cases e
        · rw [if_neg hd, hset] at hT3 ⊢
          dsimp only at hT3 ⊢
          intro _
          rw [apply_job hT3 (op_ok1 (.inr rfl) hnum.1) rfl rfl (hlen _)]
          rw [show ∀ u : StateD, deedD c u ⟨14, (k : Int) + 1, 0, 0, 0, 0, 0⟩ = evictD u ⟨14, (k : Int) + 1, 0, 0, 0, 0, 0⟩ from fun _ => rfl]
          unfold evictD
          dsimp only
          rw [hjat, if_neg (fun e => e rfl)]
          refine hrel _ ?_ ?_ ?_ ?_ ?_ ?_ ?_ ?_ <;> rfl
  · rw [if_pos hp] at ht; cases ht
end Dv
