/- Steps: what an op may do to a state; a state that may be stays one. -/
import Derived.Test.YtjmceebhnjiikaaDoorP6
set_option linter.unusedVariables false
set_option linter.unusedSimpArgs false
namespace Dv

theorem getD_set {α : Type} (l : List α) (k i : Nat) (x z : α) (h : k < l.length) : (l.set k x).getD i z = if i = k then x else l.getD i z := by
  by_cases hi : i = k
  · subst hi; simp [List.getD, h]
  · rw [if_neg hi]; simp [List.getD, List.getElem?_set_ne (fun e => hi e.symm)]
theorem getD_mapIdx {α : Type} (l : List α) (g : Nat → α → α) (i : Nat) (z : α) (h : i < l.length) : (l.mapIdx g).getD i z = g i (l.getD i z) := by
  simp [List.getD, h]

def isDr (q : Int) (j : JobD) : Bool := decide (j.queue = q) && decide (j.phase = 3)
theorem drainsL_cons (j : JobD) (l : List JobD) (q : Int) : drainsL (j :: l) q = (if isDr q j then 1 else 0) + drainsL l q := by
  unfold drainsL
  have : (fun j : JobD => decide (j.queue = q) && decide (j.phase = 3)) = isDr q := rfl
  rw [this]
  cases h : isDr q j
  · simp [List.filter_cons, h]
  · simp [List.filter_cons, h]; omega
theorem drainsL_set (q : Int) (j' : JobD) : ∀ (l : List JobD) (k : Nat), k < l.length → drainsL (l.set k j') q + (if isDr q (l.getD k zeroJob) then 1 else 0) = drainsL l q + (if isDr q j' then 1 else 0)
  | [], k, h => by simp at h
  | j :: l, 0, _ => by
    simp only [List.set_cons_zero, drainsL_cons, List.getD_cons_zero]
    omega
  | j :: l, k + 1, h => by
    have := drainsL_set q j' l k (by simpa using h)
    simp only [List.set_cons_succ, drainsL_cons, List.getD_cons_succ]
    omega
theorem drainsL_append (q : Int) (j : JobD) (l : List JobD) : drainsL (l ++ [j]) q = drainsL l q + (if isDr q j then 1 else 0) := by
  rw [drainsL_snoc]
  unfold isDr
  by_cases h1 : j.queue = q <;> by_cases h2 : j.phase = 3 <;> simp [h1, h2]

/-- a job's step: it turns to j', the nodes to ns' -/
structure JobStep (c : ConfD) (s : StateD) (k0 : Nat) (j' : JobD) (ns' : List NodeD) : Prop where
  hk : k0 < s.jobs.length
  num : JobNum c j'
  fixed : j'.queue = (joA s k0).queue ∧ j'.prio = (joA s k0).prio ∧ j'.min = (joA s k0).min ∧ j'.max = (joA s k0).max ∧ j'.work = (joA s k0).work ∧ j'.pin = (joA s k0).pin
  grow : (joA s k0).inc ≤ j'.inc ∧ (joA s k0).epoch ≤ j'.epoch
  ended : (joA s k0).phase ≠ 4
  len : ns'.length = s.nodes.length
  same : ∀ i, i < s.nodes.length → (ns'.getD i zeroNode).up = (noA s i).up ∧ (ns'.getD i zeroNode).cordon = (noA s i).cordon ∧ (ns'.getD i zeroNode).moving = (noA s i).moving ∧ (ns'.getD i zeroNode).version = (noA s i).version
  placed : placedB j'.phase = true → Placed s.nodes j'
  idle : placedB j'.phase = false → j'.nodes = 0
  link : ∀ i, i < s.nodes.length → (hasB j'.nodes i = true ↔ (ns'.getD i zeroNode).job = k0 + 1)
  others : ∀ i k, i < s.nodes.length → k < s.jobs.length → k ≠ k0 → ((ns'.getD i zeroNode).job = k + 1 ↔ (noA s i).job = k + 1)
  range : ∀ i, i < s.nodes.length → 0 ≤ (ns'.getD i zeroNode).job ∧ (ns'.getD i zeroNode).job ≤ s.jobs.length
  use : ∀ i, i < s.nodes.length → (ns'.getD i zeroNode).job ≠ 0 → (noA s i).up = true ∧ (noA s i).moving = false
  quota : j'.phase = 3 → (joA s k0).phase = 3 ∨ drainsL s.jobs (joA s k0).queue < c.quota
structure NodeStep (s : StateD) (i0 : Nat) (n' : NodeD) : Prop where
  hi : i0 < s.nodes.length
  ver : 1 ≤ n'.version ∧ n'.version ≤ 9
  job : n'.job = (noA s i0).job
  keep : (noA s i0).job ≠ 0 → n'.version = (noA s i0).version
  moving : n'.moving = true → n'.up = true ∧ n'.cordon = true ∧ n'.job = 0
  up : n'.job ≠ 0 → n'.up = true
structure NumStep (s : StateD) (g p m t : Int) : Prop where
  goal : 1 ≤ g ∧ g ≤ 9
  prior : 1 ≤ p ∧ p ≤ 9
  mode : 0 ≤ m ∧ m ≤ 2
  term : s.term ≤ t ∧ t ≤ 1000000
structure MoreStep (c : ConfD) (s : StateD) (j : JobD) : Prop where
  len : s.jobs.length < 24
  num : JobNum c j
  phase : j.phase = 0
  nodes : j.nodes = 0

inductive Step (c : ConfD) (s : StateD) : StateD → Prop where
  | num {g p m t : Int} (h : NumStep s g p m t) : Step c s { s with goal := g, prior := p, mode := m, term := t }
  | job {k0 : Nat} {j' : JobD} {ns' : List NodeD} (h : JobStep c s k0 j' ns') : Step c s { s with nodes := ns', jobs := s.jobs.set k0 j' }
  | node {i0 : Nat} {n' : NodeD} (h : NodeStep s i0 n') : Step c s { s with nodes := s.nodes.set i0 n' }
  | both {k0 : Nat} {j' : JobD} {ns' : List NodeD} {i0 : Nat} {n' : NodeD} (h : JobStep c s k0 j' ns') (h2 : NodeStep { s with nodes := ns', jobs := s.jobs.set k0 j' } i0 n') : Step c s { s with nodes := ns'.set i0 n', jobs := s.jobs.set k0 j' }
  | more {j : JobD} (h : MoreStep c s j) : Step c s { s with jobs := s.jobs ++ [j] }

section
variable {c : ConfD} {s : StateD}
theorem Placed.of {ns ns' : List NodeD} {j : JobD} (h : Placed ns j) (hl : ns'.length = ns.length) (hv : ∀ i, i < ns.length → hasB j.nodes i = true → (ns'.getD i zeroNode).version = (ns.getD i zeroNode).version) : Placed ns' j := by
  obtain ⟨a, b, d, u, e, f⟩ := h
  refine ⟨a, by rw [hl]; exact b, d, u, e, fun i hi hb => ?_⟩
  rw [hl] at hi
  rw [hv i hi hb]; exact f i hi hb
theorem RightP.job_step (h : RightP c s) {k0 : Nat} {j' : JobD} {ns' : List NodeD} (q : JobStep c s k0 j' ns') : RightP c { s with nodes := ns', jobs := s.jobs.set k0 j' } := by
  have hlj : (s.jobs.set k0 j').length = s.jobs.length := by simp
  have hjo : ∀ k, joA { s with nodes := ns', jobs := s.jobs.set k0 j' } k = if k = k0 then j' else joA s k := fun k => getD_set _ _ _ _ _ q.hk
  have hno : ∀ i, noA { s with nodes := ns', jobs := s.jobs.set k0 j' } i = ns'.getD i zeroNode := fun i => rfl
  refine ⟨h.conf, by rw [← h.nodes]; exact congrArg _ q.len, by dsimp only; rw [hlj]; exact h.jobs, h.goal, h.prior, h.mode, h.term, fun k hk => ?_, fun k hk hp => ?_, fun k hk hp => ?_, fun i hi => ?_, fun i hi => ?_, fun i hi hm => ?_, fun i hi h0 => ?_, fun i k hi hk => ?_, fun p hp => ?_⟩
  · dsimp only at hk; rw [hlj] at hk; rw [hjo]; split
    · exact q.num
    · exact h.num k hk
  · dsimp only at hk; rw [hlj] at hk; rw [hjo] at hp ⊢; dsimp only
    split
    · rename_i e; rw [if_pos e] at hp
      exact (q.placed hp).of q.len fun i hi _ => (q.same i hi).2.2.2
    · rename_i e; rw [if_neg e] at hp
      exact (h.placed k hk hp).of q.len fun i hi _ => (q.same i hi).2.2.2
  · dsimp only at hk; rw [hlj] at hk; rw [hjo] at hp ⊢
    split
    · rename_i e; rw [if_pos e] at hp; exact q.idle hp
    · rename_i e; rw [if_neg e] at hp; exact h.idle k hk hp
  · dsimp only at hi; rw [q.len] at hi; rw [hno, (q.same i hi).2.2.2]; exact h.ver i hi
  · dsimp only at hi ⊢; rw [q.len] at hi; rw [hno, hlj]; exact q.range i hi
  · dsimp only at hi; rw [q.len] at hi; rw [hno] at hm ⊢
    obtain ⟨a, b, d, _⟩ := q.same i hi
    rw [d] at hm
    have := h.moving i hi hm
    rw [a, b]
    refine ⟨this.1, this.2.1, ?_⟩
    by_cases h0 : (ns'.getD i zeroNode).job = 0
    · exact h0
    · have := (q.use i hi h0).2; rw [hm] at this; cases this
  · dsimp only at hi; rw [q.len] at hi; rw [hno] at h0 ⊢
    rw [(q.same i hi).1]; exact (q.use i hi h0).1
  · dsimp only at hi hk; rw [q.len] at hi; rw [hlj] at hk; rw [hno, hjo]
    split
    · rename_i e; subst e; exact q.link i hi
    · rename_i e; rw [q.others i k hi hk e]; exact h.link i k hi hk
  · have h1 := drainsL_set p j' s.jobs k0 q.hk
    have h2 := h.quota p hp
    have h3 := q.fixed.1
    have h4 := q.quota
    dsimp only
    unfold joA at h3 h4
    generalize s.jobs.getD k0 zeroJob = j at *
    unfold isDr at h1
    by_cases e1 : j'.queue = p
    · have e2 : j.queue = p := by omega
      by_cases e3 : j'.phase = 3
      · rcases h4 e3 with e4 | e4
        · simp only [e1, e2, e3, e4, decide_true, Bool.and_true, if_true] at h1; omega
        · by_cases e5 : j.phase = 3
          · simp only [e1, e2, e3, e5, decide_true, Bool.and_true, if_true] at h1; omega
          · simp only [e1, e2, e3, e5, decide_true, decide_false, Bool.and_true, Bool.and_false, if_true] at h1
            rw [e2] at e4
            simp at h1
            omega
      · simp [e1, e2, e3] at h1
        split at h1 <;> omega
    · have e2 : j.queue ≠ p := by omega
      simp [e1, e2] at h1
      omega

theorem RightP.node_step (h : RightP c s) {i0 : Nat} {n' : NodeD} (q : NodeStep s i0 n') : RightP c { s with nodes := s.nodes.set i0 n' } := by
  have hln : (s.nodes.set i0 n').length = s.nodes.length := by simp
  have hno : ∀ k, noA { s with nodes := s.nodes.set i0 n' } k = if k = i0 then n' else noA s k := fun k => getD_set _ _ _ _ _ q.hi
  have hjo : ∀ i, joA { s with nodes := s.nodes.set i0 n' } i = joA s i := fun i => rfl
  refine ⟨h.conf, by dsimp only; rw [hln]; exact h.nodes, h.jobs, h.goal, h.prior, h.mode, h.term, h.num, fun k hk hp => ?_, h.idle, fun i hi => ?_, fun i hi => ?_, fun i hi hm => ?_, fun i hi h0 => ?_, fun i k hi hk => ?_, h.quota⟩
  · refine (h.placed k hk hp).of hln fun i hi hb => ?_
    have := hno i
    unfold noA at this
    dsimp only at this ⊢
    rw [this]
    split
    · rename_i e; subst e
      have hj := (h.link i k hi hk).1 hb
      exact q.keep (by omega)
    · rfl
  · dsimp only at hi; rw [hln] at hi; rw [hno]; split
    · exact q.ver
    · exact h.ver i hi
  · dsimp only at hi; rw [hln] at hi; rw [hno]; split
    · rename_i e; subst e; rw [q.job]; exact h.job i hi
    · exact h.job i hi
  · dsimp only at hi; rw [hln] at hi; rw [hno] at hm ⊢
    by_cases e : i = i0
    · rw [if_pos e] at hm ⊢; exact q.moving hm
    · rw [if_neg e] at hm ⊢; exact h.moving i hi hm
  · dsimp only at hi; rw [hln] at hi; rw [hno] at h0 ⊢
    by_cases e : i = i0
    · rw [if_pos e] at h0 ⊢; exact q.up h0
    · rw [if_neg e] at h0 ⊢; exact h.up i hi h0
  · dsimp only at hi hk; rw [hln] at hi; rw [hno, hjo]
    split
    · rename_i e; subst e; rw [q.job]; exact h.link i k hi hk
    · exact h.link i k hi hk

theorem RightP.num_step (h : RightP c s) {g p m t : Int} (q : NumStep s g p m t) : RightP c { s with goal := g, prior := p, mode := m, term := t } :=
  ⟨h.conf, h.nodes, h.jobs, q.goal, q.prior, q.mode, ⟨by have := h.term; have := q.term; dsimp only; omega, q.term.2⟩, h.num, h.placed, h.idle, h.ver, h.job, h.moving, h.up, h.link, h.quota⟩

theorem getD_snoc (l : List JobD) (j : JobD) (k : Nat) : (l ++ [j]).getD k zeroJob = if k < l.length then l.getD k zeroJob else if k = l.length then j else zeroJob := by
  by_cases h : k < l.length
  · rw [if_pos h]; simp [List.getD, List.getElem?_append_left h]
  · rw [if_neg h]
    by_cases e : k = l.length
    · rw [if_pos e]; subst e; simp
    · rw [if_neg e]; simp [List.getD, List.getElem?_append_right (show l.length ≤ k by omega)]
      rw [List.getElem?_eq_none (by simp; omega)]; rfl
theorem RightP.more_step (h : RightP c s) {j : JobD} (q : MoreStep c s j) : RightP c { s with jobs := s.jobs ++ [j] } := by
  have hjo : ∀ k, k < (s.jobs ++ [j]).length → joA { s with jobs := s.jobs ++ [j] } k = if k < s.jobs.length then joA s k else j := fun k hk => by
    unfold joA
    dsimp only
    rw [getD_snoc]
    simp at hk
    by_cases e : k < s.jobs.length
    · rw [if_pos e, if_pos e]
    · rw [if_neg e, if_neg e, if_pos (by omega)]
  have hlen : (s.jobs ++ [j]).length = s.jobs.length + 1 := by simp
  refine ⟨h.conf, h.nodes, by dsimp only; rw [hlen]; have := q.len; omega, h.goal, h.prior, h.mode, h.term, fun k hk => ?_, fun k hk hp => ?_, fun k hk hp => ?_, h.ver, fun i hi => ?_, h.moving, h.up, fun i k hi hk => ?_, fun p hp => ?_⟩
  · rw [hjo k hk]; split
    · rename_i e; exact h.num k e
    · exact q.num
  · rw [hjo k hk] at hp ⊢
    by_cases e : k < s.jobs.length
    · rw [if_pos e] at hp ⊢; exact h.placed k e hp
    · rw [if_neg e, q.phase] at hp; cases hp
  · rw [hjo k hk] at hp ⊢
    by_cases e : k < s.jobs.length
    · rw [if_pos e] at hp ⊢; exact h.idle k e hp
    · rw [if_neg e]; exact q.nodes
  · have := h.job i hi
    have e : noA { s with jobs := s.jobs ++ [j] } i = noA s i := rfl
    dsimp only
    rw [hlen, e]
    omega
  · rw [hjo k hk]
    have e : noA { s with jobs := s.jobs ++ [j] } i = noA s i := rfl
    rw [e]
    by_cases e : k < s.jobs.length
    · rw [if_pos e]; exact h.link i k hi e
    · rw [if_neg e, q.nodes, has_zero]
      have := h.job i hi
      simp only [Bool.false_eq_true, false_iff]
      omega
  · have := drainsL_append p j s.jobs
    have h2 := h.quota p hp
    dsimp only
    rw [this]
    unfold isDr
    rw [q.phase]
    simp
    exact h2

theorem Step.right (h : RightP c s) {t : StateD} (q : Step c s t) : RightP c t := by
  cases q with
  | num q => exact h.num_step q
  | job q => exact h.job_step q
  | node q => exact h.node_step q
  | both q q2 => exact (h.job_step q).node_step q2
  | more q => exact h.more_step q
end
end Dv
