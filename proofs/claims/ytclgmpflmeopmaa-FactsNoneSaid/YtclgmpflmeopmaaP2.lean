/- What the wave's functions come to, on plain data. -/
import Derived.Test.YtclgmpflmeopmaaP1
set_option linter.unusedVariables false
set_option linter.unusedSimpArgs false
namespace Dv

def behindB (s : StateD) (n : NodeD) : Bool := n.up && !n.moving && decide (n.version ≠ meant s)
def pinOf (s : StateD) (job : Int) : Int := (s.jobs.getD (job - 1).toNat zeroJob).pin
def aloneN (s : StateD) (n : NodeD) : Bool := if n.job = 0 then false else decide (pinOf s n.job ≠ 0) && decide (pinOf s n.job ≠ meant s)
/-- is a node left alone? -/
def aloneB (s : StateD) (i : Int) : Bool := if i < 0 ∨ (s.nodes.length : Int) ≤ i then false else aloneN s (s.nodes.getD i.toNat zeroNode)
/-- how many nodes are cordoned -/
def waveL (l : List NodeD) : Int := ((l.filter (·.cordon)).length : Int)
theorem waveL_le (l : List NodeD) : 0 ≤ waveL l ∧ waveL l ≤ l.length := by
  unfold waveL
  have := List.length_filter_le (fun n : NodeD => n.cordon) l
  omega
theorem waveL_snoc (l : List NodeD) (n : NodeD) : waveL (l ++ [n]) = waveL l + if n.cordon then 1 else 0 := by
  unfold waveL
  cases h : n.cordon <;> simp [List.filter_append, List.filter_cons, h]
/-- is all done? -/
def doneFrom (s : StateD) : List NodeD → Bool
  | [] => true
  | n :: l => if n.moving || (behindB s n && !aloneN s n) then false else doneFrom s l

def openB (s : StateD) (n : NodeD) : Bool := n.cordon && n.up && !n.moving && (!behindB s n || aloneN s n)
def clearO (c : ConfD) (s : StateD) (now : Int) (n : NodeD) (i : Int) : Option OpD :=
  if n.cordon = false ∨ behindB s n = false ∨ aloneN s n = true then none
  else if n.job = 0 then some ⟨18, i, 0, 0, 0, 0, 0⟩
  else
    let j := s.jobs.getD (n.job - 1).toNat zeroJob
    if j.phase = 1 then some ⟨11, n.job, 0, 0, 0, 0, 0⟩
    else if j.phase = 2 ∧ j.min < many (j.nodes % 64) then some ⟨20, n.job, i, 0, 0, 0, 0⟩
    else if j.phase = 2 ∧ drainsL s.jobs j.queue < c.quota then some ⟨12, n.job, (if 1000000 ≤ now + c.deadline then 1000000 else now + c.deadline), 0, 0, 0, 0⟩
    else none
def shutB (c : ConfD) (s : StateD) (n : NodeD) : Bool := !n.cordon && behindB s n && !aloneN s n && decide (waveL s.nodes < c.wave)
/-- the first of the nodes, from number k on, of which something is told -/
def firstO (f : NodeD → Int → Option OpD) : List NodeD → Nat → Option OpD
  | [], _ => none
  | n :: l, k => match f n k with
    | some o => some o
    | none => firstO f l (k + 1)
def openO (s : StateD) (n : NodeD) (i : Int) : Option OpD := if openB s n = true then some ⟨17, i, 0, 0, 0, 0, 0⟩ else none
def shutO (c : ConfD) (s : StateD) (n : NodeD) (i : Int) : Option OpD := if shutB c s n = true then some ⟨16, i, 0, 0, 0, 0, 0⟩ else none
def nextW (c : ConfD) (s : StateD) (now : Int) : Option OpD :=
  if s.mode = 1 then none
  else match firstO (openO s) s.nodes 0 with
    | some o => some o
    | none => match firstO (clearO c s now) s.nodes 0 with
      | some o => some o
      | none => firstO (shutO c s) s.nodes 0

/-- what a state that may be is good for -/
structure Okay (c : ConfD) (s : StateD) : Prop where
  conf : 1 ≤ c.nodes ∧ c.nodes ≤ 6 ∧ 1 ≤ c.queues ∧ c.queues ≤ 3 ∧ 0 ≤ c.quota ∧ c.quota ≤ 4 ∧ 1 ≤ c.wave ∧ c.wave ≤ 6 ∧ 2 ≤ c.lease ∧ c.lease ≤ 30 ∧ 1 ≤ c.retry ∧ c.retry ≤ 20 ∧ 1 ≤ c.deadline ∧ c.deadline ≤ 60 ∧ 0 ≤ c.room ∧ c.room ≤ 5000 ∧ 2000 ≤ c.disk ∧ c.disk ≤ 40000
  nodes : (s.nodes.length : Int) = c.nodes
  jobs : s.jobs.length ≤ 24
  nums : 1 ≤ s.goal ∧ s.goal ≤ 9 ∧ 1 ≤ s.prior ∧ s.prior ≤ 9 ∧ 0 ≤ s.mode ∧ s.mode ≤ 2 ∧ 0 ≤ s.term ∧ s.term ≤ 1000000
  stands : ∀ k, k < s.jobs.length → standsB c s (s.jobs.getD k zeroJob) (k + 1) = true
  sound : ∀ k, k < s.nodes.length → soundB s (s.nodes.getD k zeroNode) k = true
  quota : ∀ q : Nat, (q : Int) < c.queues → drainsL s.jobs q ≤ c.quota

theorem within_t {n lo hi : Int} (h : withinB n lo hi = true) : lo ≤ n ∧ n ≤ hi := of_decide_eq_true h
theorem standsFrom_get (c : ConfD) (s : StateD) : ∀ (l : List JobD) (k : Nat), standsFrom c s l k = true → ∀ i, i < l.length → standsB c s (l.getD i zeroJob) ((k + i : Nat) + 1) = true
  | [], _, _, i, hi => by simp at hi
  | j :: l, k, h, i, hi => by
    unfold standsFrom at h
    simp only [Bool.and_eq_true] at h
    cases i with
    | zero => simpa using h.1
    | succ i =>
      have := standsFrom_get c s l (k + 1) h.2 i (by simpa using hi)
      rw [show k + (i + 1) = k + 1 + i by omega]
      simpa using this
theorem soundFrom_get (s : StateD) : ∀ (l : List NodeD) (k : Nat), soundFrom s l k = true → ∀ i, i < l.length → soundB s (l.getD i zeroNode) (k + i) = true
  | [], _, _, i, hi => by simp at hi
  | j :: l, k, h, i, hi => by
    unfold soundFrom at h
    simp only [Bool.and_eq_true] at h
    cases i with
    | zero => simpa using h.1
    | succ i =>
      have := soundFrom_get s l (k + 1) h.2 i (by simpa using hi)
      rw [show k + (i + 1) = k + 1 + i by omega]
      simpa using this
theorem quotaFrom_get (c : ConfD) (s : StateD) : ∀ (n q : Nat), quotaFrom c s q n = true → ∀ i, i < n → drainsL s.jobs ((q + i : Nat) : Int) ≤ c.quota
  | 0, _, _, i, hi => by omega
  | n + 1, q, h, i, hi => by
    unfold quotaFrom at h
    simp only [Bool.and_eq_true, Bool.not_eq_true', decide_eq_false_iff_not] at h
    cases i with
    | zero => have := h.1; simp; omega
    | succ i =>
      have := quotaFrom_get c s n (q + 1) h.2 i (by omega)
      rw [show q + (i + 1) = q + 1 + i by omega]
      exact this
theorem right_ok {c : ConfD} {s : StateD} (h : rightB c s = true) : Okay c s := by
  unfold rightB mayB at h
  simp only [Bool.and_eq_true, decide_eq_true_eq] at h
  obtain ⟨⟨⟨⟨⟨⟨⟨⟨⟨⟨⟨⟨⟨⟨⟨⟨⟨h1, h2⟩, h3⟩, h4⟩, h5⟩, h6⟩, h7⟩, h8⟩, h9⟩, n1⟩, n2⟩, g1⟩, g2⟩, g3⟩, g4⟩, st⟩, so⟩, qu⟩ := h
  have h1 := within_t h1
  have h2 := within_t h2
  have h3 := within_t h3
  have h4 := within_t h4
  have h5 := within_t h5
  have h6 := within_t h6
  have h7 := within_t h7
  have h8 := within_t h8
  have h9 := within_t h9
  have g1 := within_t g1
  have g2 := within_t g2
  have g3 := within_t g3
  have g4 := within_t g4
  exact ⟨⟨h1.1, h1.2, h2.1, h2.2, h3.1, h3.2, h4.1, h4.2, h5.1, h5.2, h6.1, h6.2, h7.1, h7.2, h8.1, h8.2, h9.1, h9.2⟩, n1, n2, ⟨g1.1, g1.2, g2.1, g2.2, g3.1, g3.2, g4.1, g4.2⟩,
    fun k hk => by have := standsFrom_get c s s.jobs 0 st k hk; simpa using this,
    fun k hk => by have := soundFrom_get s s.nodes 0 so k hk; simpa using this,
    fun q hq => by have := quotaFrom_get c s _ 0 qu q (by omega); simpa using this⟩
theorem Okay.node {c : ConfD} {s : StateD} (h : Okay c s) {k : Nat} (hk : k < s.nodes.length) :
    1 ≤ (s.nodes.getD k zeroNode).version ∧ (s.nodes.getD k zeroNode).version ≤ 9 ∧ 0 ≤ (s.nodes.getD k zeroNode).job ∧ (s.nodes.getD k zeroNode).job ≤ s.jobs.length := by
  have := h.sound k hk
  unfold soundB at this
  simp only [Bool.and_eq_true] at this
  have h1 := within_t this.1.1.1
  have h2 := within_t this.1.1.2
  omega
theorem Okay.job {c : ConfD} {s : StateD} (h : Okay c s) {k : Nat} (hk : k < s.jobs.length) :
    let j := s.jobs.getD k zeroJob
    (0 ≤ j.queue ∧ j.queue ≤ c.queues - 1) ∧ (0 ≤ j.prio ∧ j.prio ≤ 9) ∧ (1 ≤ j.min ∧ j.min ≤ j.max) ∧ (1 ≤ j.max ∧ j.max ≤ c.nodes) ∧ (1 ≤ j.work ∧ j.work ≤ 1000) ∧ (0 ≤ j.pin ∧ j.pin ≤ 9) ∧ (0 ≤ j.phase ∧ j.phase ≤ 4) ∧ (0 ≤ j.inc ∧ j.inc ≤ 1000000) ∧ (0 ≤ j.since ∧ j.since ≤ 1000000) ∧ (0 ≤ j.til ∧ j.til ≤ 1000000) ∧ (0 ≤ j.epoch ∧ j.epoch ≤ j.inc) := by
  have := h.stands k hk
  unfold standsB askedB at this
  simp only [Bool.and_eq_true] at this
  obtain ⟨⟨⟨⟨⟨⟨⟨⟨⟨⟨⟨a1, a2⟩, a3⟩, a4⟩, a5⟩, a6⟩, b1⟩, b2⟩, b3⟩, b4⟩, b5⟩, _⟩ := this
  exact ⟨within_t a1, within_t a2, within_t a3, within_t a4, within_t a5, within_t a6, within_t b1, within_t b2, within_t b3, within_t b4, within_t b5⟩
theorem pow_le64 (n : Nat) (h : n ≤ 6) : (2 : Int) ^ n ≤ 64 := by
  have : n = 0 ∨ n = 1 ∨ n = 2 ∨ n = 3 ∨ n = 4 ∨ n = 5 ∨ n = 6 := by omega
  rcases this with h | h | h | h | h | h | h <;> subst h <;> simp
theorem Okay.bits {c : ConfD} {s : StateD} (h : Okay c s) {k : Nat} (hk : k < s.jobs.length) : 0 ≤ (s.jobs.getD k zeroJob).nodes ∧ (s.jobs.getD k zeroJob).nodes < 64 := by
  have := h.stands k hk
  have hc := h.conf
  have hn := h.nodes
  unfold standsB at this
  simp only [Bool.and_eq_true] at this
  have h2 := this.2
  split at h2
  · unfold fitsB at h2
    split at h2
    · cases h2
    · rename_i hq
      have := pow_le64 s.nodes.length (by omega)
      omega
  · have := of_decide_eq_true h2
    omega
end Dv
