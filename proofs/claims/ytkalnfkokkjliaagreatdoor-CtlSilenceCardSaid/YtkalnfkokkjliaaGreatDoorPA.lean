/- The logical machine and its plain laws: parts P1, P2, P3, P4, P5, P6, P7, proved sound. -/
set_option linter.unusedVariables false
set_option linter.unusedSimpArgs false
namespace Dv

structure NodeD where
  up : Bool
  cordon : Bool
  moving : Bool
  version : Int
  job : Int
  deriving DecidableEq

structure JobD where
  queue : Int
  prio : Int
  min : Int
  max : Int
  work : Int
  pin : Int
  phase : Int
  inc : Int
  nodes : Int
  since : Int
  til : Int
  epoch : Int
  deriving DecidableEq

structure ConfD where
  nodes : Int
  queues : Int
  quota : Int
  wave : Int
  lease : Int
  retry : Int
  deadline : Int
  room : Int
  disk : Int
  deriving DecidableEq

structure StateD where
  nodes : List NodeD
  jobs : List JobD
  goal : Int
  prior : Int
  mode : Int
  term : Int
  deriving DecidableEq

structure OpD where
  kind : Int
  a : Int
  b : Int
  c : Int
  d : Int
  e : Int
  f : Int
  deriving DecidableEq

structure MsgD where
  node : Int
  kind : Int
  term : Int
  gen : Int
  job : Int
  inc : Int
  version : Int
  epoch : Int
  til : Int
  mode : Int
  work : Int
  deriving DecidableEq

def zeroOp : OpD := ⟨0, 0, 0, 0, 0, 0, 0⟩
def zeroMsg : MsgD := ⟨0, 0, 0, 0, 0, 0, 0, 0, 0, 0, 0⟩
def zeroJob : JobD := ⟨0, 0, 0, 0, 0, 0, 0, 0, 0, 0, 0, 0⟩
def zeroNode : NodeD := ⟨false, false, false, 0, 0⟩

def meant (s : StateD) : Int := if s.mode = 2 then s.prior else s.goal

def drainsL (l : List JobD) (q : Int) : Int := ((l.filter (fun j => decide (j.queue = q) && decide (j.phase = 3))).length : Int)
theorem drainsL_le (l : List JobD) (q : Int) : 0 ≤ drainsL l q ∧ drainsL l q ≤ l.length := by
  unfold drainsL
  have := List.length_filter_le (fun j : JobD => decide (j.queue = q) && decide (j.phase = 3)) l
  omega
theorem drainsL_snoc (l : List JobD) (j : JobD) (q : Int) : drainsL (l ++ [j]) q = drainsL l q + if j.queue = q ∧ j.phase = 3 then 1 else 0 := by
  unfold drainsL
  by_cases h1 : j.queue = q <;> by_cases h2 : j.phase = 3 <;> simp [List.filter_append,List.filter_cons,h1,h2]

def hasB (n : Int) (i : Nat) : Bool := decide (n / 2 ^ i % 2 = 1)
def has01 (n : Int) (i : Nat) : Int := if hasB n i then 1 else 0
def manyTo (n : Int) : Nat → Int
  | 0 => 0
  | k + 1 => manyTo n k + has01 n k
def many (n : Int) : Int := manyTo n 6
def withinB (n lo hi : Int) : Bool := decide (lo ≤ n ∧ n ≤ hi)

def fitsLoop (nodes : Int) (takes : NodeD → Bool) : List NodeD → Nat → Int → Bool
  | [], _, _ => true
  | n :: l, i, v =>
    if hasB nodes i = false then fitsLoop nodes takes l (i + 1) v
    else if takes n = true ∧ n.version = (if v = 0 then n.version else v) then fitsLoop nodes takes l (i + 1) (if v = 0 then n.version else v) else false

def fitsB (ns : List NodeD) (j : JobD) (nodes : Int) (takes : NodeD → Bool) : Bool :=
  if nodes < 0 ∨ 2 ^ ns.length ≤ nodes then false
  else if withinB (many nodes) j.min j.max = true then fitsLoop nodes takes ns 0 j.pin else false

def askedB (c : ConfD) (j : JobD) : Bool := withinB j.queue 0 (c.queues - 1) && withinB j.prio 0 9 && withinB j.min 1 j.max && withinB j.max 1 c.nodes && withinB j.work 1 1000 && withinB j.pin 0 9
def placedB (p : Int) : Bool := decide (p = 1 ∨ p = 2 ∨ p = 3)
def mayB (c : ConfD) : Bool := withinB c.nodes 1 6 && withinB c.queues 1 3 && withinB c.quota 0 4 && withinB c.wave 1 6 && withinB c.lease 2 30 && withinB c.retry 1 20 && withinB c.deadline 1 60 && withinB c.room 0 5000 && withinB c.disk 2000 40000

def takes1 (number : Int) (n : NodeD) : Bool := n.up && !n.moving && decide (n.job = number)
def standsB (c : ConfD) (s : StateD) (j : JobD) (number : Int) : Bool :=
  askedB c j && withinB j.phase 0 4 && withinB j.inc 0 1000000 && withinB j.since 0 1000000 && withinB j.til 0 1000000 && withinB j.epoch 0 j.inc &&
  (if placedB j.phase = true then fitsB s.nodes j j.nodes (takes1 number) else decide (j.nodes = 0))
def soundB (s : StateD) (n : NodeD) (number : Nat) : Bool :=
  withinB n.version 1 9 && withinB n.job 0 s.jobs.length && !(n.moving && (!n.up || !n.cordon || decide (n.job ≠ 0))) &&
  (decide (n.job = 0) || hasB (s.jobs.getD (n.job - 1).toNat zeroJob).nodes number)
def standsFrom (c : ConfD) (s : StateD) : List JobD → Nat → Bool
  | [], _ => true
  | j :: l, k => standsB c s j (k + 1) && standsFrom c s l (k + 1)
def soundFrom (s : StateD) : List NodeD → Nat → Bool
  | [], _ => true
  | n :: l, k => soundB s n k && soundFrom s l (k + 1)
def quotaFrom (c : ConfD) (s : StateD) : Nat → Nat → Bool
  | _, 0 => true
  | q, n + 1 => !decide (c.quota < drainsL s.jobs q) && quotaFrom c s (q + 1) n
def rightB (c : ConfD) (s : StateD) : Bool :=
  mayB c && decide ((s.nodes.length : Int) = c.nodes) && decide (s.jobs.length ≤ 24) && withinB s.goal 1 9 && withinB s.prior 1 9 && withinB s.mode 0 2 && withinB s.term 0 1000000 &&
  standsFrom c s s.jobs 0 && soundFrom s s.nodes 0 && quotaFrom c s 0 c.queues.toNat

end Dv

namespace Dv

def pinOf (s : StateD) (job : Int) : Int := (s.jobs.getD (job - 1).toNat zeroJob).pin
def aloneN (s : StateD) (n : NodeD) : Bool := if n.job = 0 then false else decide (pinOf s n.job ≠ 0) && decide (pinOf s n.job ≠ meant s)
def aloneB (s : StateD) (i : Int) : Bool := if i < 0 ∨ (s.nodes.length : Int) ≤ i then false else aloneN s (s.nodes.getD i.toNat zeroNode)
structure Okay (c : ConfD) (s : StateD) : Prop where
  conf : 1 ≤ c.nodes ∧ c.nodes ≤ 6 ∧ 1 ≤ c.queues ∧ c.queues ≤ 3 ∧ 0 ≤ c.quota ∧ c.quota ≤ 4 ∧ 1 ≤ c.wave ∧ c.wave ≤ 6 ∧ 2 ≤ c.lease ∧ c.lease ≤ 30 ∧ 1 ≤ c.retry ∧ c.retry ≤ 20 ∧ 1 ≤ c.deadline ∧ c.deadline ≤ 60 ∧ 0 ≤ c.room ∧ c.room ≤ 5000 ∧ 2000 ≤ c.disk ∧ c.disk ≤ 40000
  nodes : (s.nodes.length : Int) = c.nodes
  jobs : s.jobs.length ≤ 24
  nums : 1 ≤ s.goal ∧ s.goal ≤ 9 ∧ 1 ≤ s.prior ∧ s.prior ≤ 9 ∧ 0 ≤ s.mode ∧ s.mode ≤ 2 ∧ 0 ≤ s.term ∧ s.term ≤ 1000000
  stands : ∀ k, k < s.jobs.length → standsB c s (s.jobs.getD k zeroJob) (k + 1) = true
  sound : ∀ k, k < s.nodes.length → soundB s (s.nodes.getD k zeroNode) k = true
  quota : ∀ q : Nat, (q : Int) < c.queues → drainsL s.jobs q ≤ c.quota

theorem within_t {n lo hi : Int} (h : withinB n lo hi = true) : lo ≤ n ∧ n ≤ hi := of_decide_eq_true h
theorem standsFrom_get (c : ConfD) (s : StateD) : ∀ (l : List JobD) (k : Nat), standsFrom c s l k = true → ∀ i, i < l.length → standsB c s (l.getD i zeroJob) ((k + i : Nat) + 1) = true
  | [], _, _, i, hi => by simp at hi
  | j :: l, k, h, i, hi => by
    unfold standsFrom at h
    simp only [Bool.and_eq_true] at h
    cases i with
    | zero => simpa using h.1
    | succ i =>
      have := standsFrom_get c s l (k + 1) h.2 i (by simpa using hi)
      rw [show k + (i + 1) = k + 1 + i by omega]
      simpa using this
theorem soundFrom_get (s : StateD) : ∀ (l : List NodeD) (k : Nat), soundFrom s l k = true → ∀ i, i < l.length → soundB s (l.getD i zeroNode) (k + i) = true
  | [], _, _, i, hi => by simp at hi
  | j :: l, k, h, i, hi => by
    unfold soundFrom at h
    simp only [Bool.and_eq_true] at h
    cases i with
    | zero => simpa using h.1
    | succ i =>
      have := soundFrom_get s l (k + 1) h.2 i (by simpa using hi)
      rw [show k + (i + 1) = k + 1 + i by omega]
      simpa using this
theorem quotaFrom_get (c : ConfD) (s : StateD) : ∀ (n q : Nat), quotaFrom c s q n = true → ∀ i, i < n → drainsL s.jobs ((q + i : Nat) : Int) ≤ c.quota
  | 0, _, _, i, hi => by omega
  | n + 1, q, h, i, hi => by
    unfold quotaFrom at h
    simp only [Bool.and_eq_true,Bool.not_eq_true',decide_eq_false_iff_not] at h
    cases i with
    | zero => have := h.1; simp; omega
    | succ i =>
      have := quotaFrom_get c s n (q + 1) h.2 i (by omega)
      rw [show q + (i + 1) = q + 1 + i by omega]
      exact this
theorem right_ok {c : ConfD} {s : StateD} (h : rightB c s = true) : Okay c s := by
  unfold rightB mayB at h
  simp only [Bool.and_eq_true,decide_eq_true_eq] at h
  obtain ⟨⟨⟨⟨⟨⟨⟨⟨⟨⟨⟨⟨⟨⟨⟨⟨⟨h1, h2⟩, h3⟩, h4⟩, h5⟩, h6⟩, h7⟩, h8⟩, h9⟩, n1⟩, n2⟩, g1⟩, g2⟩, g3⟩, g4⟩, st⟩, so⟩, qu⟩ := h
  have h1 := within_t h1
  have h2 := within_t h2
  have h3 := within_t h3
  have h4 := within_t h4
  have h5 := within_t h5
  have h6 := within_t h6
  have h7 := within_t h7
  have h8 := within_t h8
  have h9 := within_t h9
  have g1 := within_t g1
  have g2 := within_t g2
  have g3 := within_t g3
  have g4 := within_t g4
  exact ⟨⟨h1.1, h1.2, h2.1, h2.2, h3.1, h3.2, h4.1, h4.2, h5.1, h5.2, h6.1, h6.2, h7.1, h7.2, h8.1, h8.2, h9.1, h9.2⟩, n1, n2, ⟨g1.1, g1.2, g2.1, g2.2, g3.1, g3.2, g4.1, g4.2⟩,
    fun k hk => by have := standsFrom_get c s s.jobs 0 st k hk; simpa using this,
    fun k hk => by have := soundFrom_get s s.nodes 0 so k hk; simpa using this,
    fun q hq => by have := quotaFrom_get c s _ 0 qu q (by omega); simpa using this⟩
theorem Okay.node {c : ConfD} {s : StateD} (h : Okay c s) {k : Nat} (hk : k < s.nodes.length) :
    1 ≤ (s.nodes.getD k zeroNode).version ∧ (s.nodes.getD k zeroNode).version ≤ 9 ∧ 0 ≤ (s.nodes.getD k zeroNode).job ∧ (s.nodes.getD k zeroNode).job ≤ s.jobs.length := by
  have := h.sound k hk
  unfold soundB at this
  simp only [Bool.and_eq_true] at this
  have h1 := within_t this.1.1.1
  have h2 := within_t this.1.1.2
  omega
theorem Okay.job {c : ConfD} {s : StateD} (h : Okay c s) {k : Nat} (hk : k < s.jobs.length) :
    let j := s.jobs.getD k zeroJob
    (0 ≤ j.queue ∧ j.queue ≤ c.queues - 1) ∧ (0 ≤ j.prio ∧ j.prio ≤ 9) ∧ (1 ≤ j.min ∧ j.min ≤ j.max) ∧ (1 ≤ j.max ∧ j.max ≤ c.nodes) ∧ (1 ≤ j.work ∧ j.work ≤ 1000) ∧ (0 ≤ j.pin ∧ j.pin ≤ 9) ∧ (0 ≤ j.phase ∧ j.phase ≤ 4) ∧ (0 ≤ j.inc ∧ j.inc ≤ 1000000) ∧ (0 ≤ j.since ∧ j.since ≤ 1000000) ∧ (0 ≤ j.til ∧ j.til ≤ 1000000) ∧ (0 ≤ j.epoch ∧ j.epoch ≤ j.inc) := by
  have := h.stands k hk
  unfold standsB askedB at this
  simp only [Bool.and_eq_true] at this
  obtain ⟨⟨⟨⟨⟨⟨⟨⟨⟨⟨⟨a1, a2⟩, a3⟩, a4⟩, a5⟩, a6⟩, b1⟩, b2⟩, b3⟩, b4⟩, b5⟩, _⟩ := this
  exact ⟨within_t a1, within_t a2, within_t a3, within_t a4, within_t a5, within_t a6, within_t b1, within_t b2, within_t b3, within_t b4, within_t b5⟩
theorem pow_le64 (n : Nat) (h : n ≤ 6) : (2 : Int) ^ n ≤ 64 := by
  have : n = 0 ∨ n = 1 ∨ n = 2 ∨ n = 3 ∨ n = 4 ∨ n = 5 ∨ n = 6 := by omega
  rcases this with h | h | h | h | h | h | h <;> subst h <;> simp
theorem Okay.bits {c : ConfD} {s : StateD} (h : Okay c s) {k : Nat} (hk : k < s.jobs.length) : 0 ≤ (s.jobs.getD k zeroJob).nodes ∧ (s.jobs.getD k zeroJob).nodes < 64 := by
  have := h.stands k hk
  have hc := h.conf
  have hn := h.nodes
  unfold standsB at this
  simp only [Bool.and_eq_true] at this
  have h2 := this.2
  split at h2
  · unfold fitsB at h2
    split at h2
    · cases h2
    · rename_i hq
      have := pow_le64 s.nodes.length (by omega)
      omega
  · have := of_decide_eq_true h2
    omega
end Dv

namespace Dv

inductive AskedP (s : StateD) : OpD → Prop where
  | opened (a : Int) : AskedP s ⟨17, a, 0, 0, 0, 0, 0⟩
  | shut (a : Int) (h : aloneB s a = false) : AskedP s ⟨16, a, 0, 0, 0, 0, 0⟩
  | move (a : Int) (h : aloneB s a = false) : AskedP s ⟨18, a, 0, 0, 0, 0, 0⟩
  | shrink (j a : Int) (h : aloneB s a = false) : AskedP s ⟨20, j, a, 0, 0, 0, 0⟩
  | unhold (i : Nat) (hi : i < s.nodes.length) (h0 : (s.nodes.getD i zeroNode).job ≠ 0) (h : pinOf s (s.nodes.getD i zeroNode).job = 0 ∨ pinOf s (s.nodes.getD i zeroNode).job = meant s) : AskedP s ⟨11, (s.nodes.getD i zeroNode).job, 0, 0, 0, 0, 0⟩
  | drain (i : Nat) (t : Int) (hi : i < s.nodes.length) (h0 : (s.nodes.getD i zeroNode).job ≠ 0) (h : pinOf s (s.nodes.getD i zeroNode).job = 0 ∨ pinOf s (s.nodes.getD i zeroNode).job = meant s) : AskedP s ⟨12, (s.nodes.getD i zeroNode).job, t, 0, 0, 0, 0⟩

end Dv

namespace Dv


def updTo {α : Type} (g : Nat → α → α) (l : List α) (k : Nat) : List α := l.mapIdx fun i x => if i < k then g i x else x
section
variable {α : Type} (g : Nat → α → α) (l : List α)
@[simp] theorem updTo_length (k : Nat) : (updTo g l k).length = l.length := by simp [updTo]
theorem updTo_zero : updTo g l 0 = l := by
  apply List.ext_getElem
  · simp
  · intro i h1 h2; simp [updTo]
theorem updTo_full : updTo g l l.length = l.mapIdx g := by
  apply List.ext_getElem
  · simp
  · intro i h1 h2
    simp at h1
    simp [updTo,h1]
theorem updTo_at {k : Nat} (h : k < l.length) : (updTo g l k)[k]? = some l[k] := by
  simp [updTo,h]
theorem updTo_set {k : Nat} {x : α} (h : k < l.length) (hx : g k l[k] = x) : (updTo g l k).set k x = updTo g l (k + 1) := by
  apply List.ext_getElem
  · simp
  · intro i h1 h2
    simp only [updTo,List.getElem_set,List.getElem_mapIdx]
    by_cases hi : k = i
    · subst hi; simp [hx]
    · rw [if_neg hi]
      by_cases h3 : i < k
      · rw [if_pos h3, if_pos (by omega)]
      · rw [if_neg h3, if_neg (by omega)]
theorem updTo_same {k : Nat} (h : k < l.length) (hx : g k l[k] = l[k]) : updTo g l k = updTo g l (k + 1) := by
  rw [← updTo_set g l h hx]
  apply List.ext_getElem
  · simp
  · intro i h1 h2
    rw [List.getElem_set]
    split
    · rename_i h; subst h; simp [updTo]
    · rfl
end


def nodeA (s : StateD) (i : Int) : NodeD := s.nodes.getD i.toNat zeroNode
def jobA (s : StateD) (a : Int) : JobD := s.jobs.getD (a - 1).toNat zeroJob
def freeB (n : NodeD) : Bool := n.up && !n.cordon && !n.moving && decide (n.job = 0)
def setN (s : StateD) (i : Int) (n : NodeD) : StateD := { s with nodes := s.nodes.set i.toNat n }
def setJ (s : StateD) (a : Int) (j : JobD) : StateD := { s with jobs := s.jobs.set (a - 1).toNat j }
def lets (number : Int) (_ : Nat) (n : NodeD) : NodeD := if n.job = number then { n with job := 0 } else n
def takesA (bits number : Int) (i : Nat) (n : NodeD) : NodeD := if hasB bits i then { n with job := number } else n
def releaseD (s : StateD) (number phase : Int) : StateD :=
  { s with nodes := s.nodes.mapIdx (lets number), jobs := s.jobs.set (number - 1).toNat { jobA s number with phase := phase, nodes := 0, since := 0, til := 0 } }
def newJob (o : OpD) : JobD := ⟨o.a, o.b, o.c, o.d, o.e, o.f, 0, 0, 0, 0, 0, 0⟩
def submitD (c : ConfD) (s : StateD) (o : OpD) : StateD × Int := if askedB c (newJob o) = false then (s, 1) else if 24 ≤ s.jobs.length then (s, 3) else ({ s with jobs := s.jobs ++ [newJob o] }, 0)
def cancelD (s : StateD) (o : OpD) : StateD × Int := if (jobA s o.a).phase = 4 then (s, 5) else (releaseD s o.a 4, 0)
def targetD (s : StateD) (o : OpD) : StateD × Int := if withinB o.a 1 9 = false then (s, 1) else ({ s with prior := meant s, goal := o.a, mode := 0 }, 0)
def turnD (s : StateD) (ok : Bool) (to : Int) : StateD × Int := if ok = true then ({ s with mode := to }, 0) else (s, 5)
def downD (s : StateD) (o : OpD) : StateD × Int := if (nodeA s o.a).up = false then (s, 5) else
  let t := if (nodeA s o.a).job ≠ 0 then releaseD s (nodeA s o.a).job 0 else s
  (setN t o.a { nodeA t o.a with up := false, moving := false }, 0)
def upD (s : StateD) (o : OpD) : StateD × Int := if withinB o.b 1 9 = false then (s, 1) else if (nodeA s o.a).up = true then (s, 5) else (setN s o.a { nodeA s o.a with up := true, version := o.b }, 0)
def holdD (s : StateD) (o : OpD) : StateD × Int := if (jobA s o.a).phase ≠ 0 then (s, 5) else if fitsB s.nodes (jobA s o.a) o.b freeB = false ∨ 1000000 ≤ (jobA s o.a).inc then (s, 8) else
  ({ setJ s o.a { jobA s o.a with phase := 1, inc := (jobA s o.a).inc + 1, nodes := o.b } with nodes := s.nodes.mapIdx (takesA o.b o.a) }, 0)
def startD (s : StateD) (o : OpD) : StateD × Int := if (jobA s o.a).phase ≠ 1 then (s, 5) else (setJ s o.a { jobA s o.a with phase := 2, since := o.b }, 0)
def unholdD (s : StateD) (o : OpD) : StateD × Int := if (jobA s o.a).phase ≠ 1 then (s, 5) else (releaseD s o.a 0, 0)
def drainD (c : ConfD) (s : StateD) (o : OpD) : StateD × Int := if (jobA s o.a).phase ≠ 2 then (s, 5) else if c.quota ≤ drainsL s.jobs (jobA s o.a).queue then (s, 7) else (setJ s o.a { jobA s o.a with phase := 3, til := o.b }, 0)
def runsB (j : JobD) : Bool := decide (j.phase = 2) || decide (j.phase = 3)
def savedD (s : StateD) (o : OpD) : StateD × Int := if runsB (jobA s o.a) = false then (s, 5) else if o.b ≠ (jobA s o.a).inc ∨ o.b ≤ (jobA s o.a).epoch then (s, 6) else (setJ s o.a { jobA s o.a with epoch := o.b }, 0)
def evictD (s : StateD) (o : OpD) : StateD × Int := if (jobA s o.a).phase ≠ 3 then (s, 5) else (releaseD s o.a 0, 0)
def doneD (s : StateD) (o : OpD) : StateD × Int := if runsB (jobA s o.a) = false then (s, 5) else (releaseD s o.a 4, 0)
def cordonD (s : StateD) (o : OpD) : StateD × Int := if (nodeA s o.a).up = false ∨ (nodeA s o.a).cordon = true then (s, 5) else (setN s o.a { nodeA s o.a with cordon := true }, 0)
def uncordonD (s : StateD) (o : OpD) : StateD × Int := if (nodeA s o.a).cordon = false ∨ (nodeA s o.a).moving = true then (s, 5) else (setN s o.a { nodeA s o.a with cordon := false }, 0)
def moveD (s : StateD) (o : OpD) : StateD × Int := if (nodeA s o.a).up = false ∨ (nodeA s o.a).cordon = false ∨ (nodeA s o.a).moving = true ∨ (nodeA s o.a).job ≠ 0 then (s, 5) else (setN s o.a { nodeA s o.a with moving := true }, 0)
def movedD (s : StateD) (o : OpD) : StateD × Int := if withinB o.b 1 9 = false then (s, 1) else if (nodeA s o.a).moving = false then (s, 5) else (setN s o.a { nodeA s o.a with version := o.b, moving := false, cordon := false }, 0)
def lessD (n b : Int) : Int := if hasB n b.toNat then n - 2 ^ b.toNat else n
def shrinkD (s : StateD) (o : OpD) : StateD × Int := if (s.nodes.length : Int) ≤ o.b then (s, 4) else if (jobA s o.a).phase ≠ 2 then (s, 5) else if (nodeA s o.b).job ≠ o.a ∨ many (jobA s o.a).nodes ≤ (jobA s o.a).min then (s, 8) else
  (setN (setJ s o.a { jobA s o.a with nodes := lessD (jobA s o.a).nodes o.b }) o.b { nodeA s o.b with job := 0 }, 0)
def newtermD (s : StateD) : StateD × Int := if 1000000 ≤ s.term then (s, 3) else ({ s with term := s.term + 1 }, 0)

def manyK (k : Int) : Nat := if k = 1 then 6 else if k = 4 ∨ k = 5 ∨ k = 6 ∨ k = 21 then 0 else if k = 8 ∨ k = 9 ∨ k = 10 ∨ k = 12 ∨ k = 13 ∨ k = 19 ∨ k = 20 then 2 else 1
def numOk (n : Int) (given : Bool) : Bool := decide (0 ≤ n ∧ n ≤ 1000000) && (given || decide (n = 0))
def opOkB (o : OpD) : Bool := decide (1 ≤ o.kind ∧ o.kind ≤ 21) && numOk o.a (decide (0 < manyK o.kind)) && numOk o.b (decide (1 < manyK o.kind)) && numOk o.c (decide (2 < manyK o.kind)) && numOk o.d (decide (3 < manyK o.kind)) && numOk o.e (decide (4 < manyK o.kind)) && numOk o.f (decide (5 < manyK o.kind))
def jobK (k : Int) : Bool := decide (k = 2 ∨ k = 9 ∨ k = 10 ∨ k = 11 ∨ k = 12 ∨ k = 13 ∨ k = 14 ∨ k = 15 ∨ k = 20)
def nodeK (k : Int) : Bool := decide (k = 7 ∨ k = 8 ∨ k = 16 ∨ k = 17 ∨ k = 18 ∨ k = 19)
def deedD (c : ConfD) (s : StateD) (o : OpD) : StateD × Int :=
  if o.kind = 1 then submitD c s o else if o.kind = 2 then cancelD s o else if o.kind = 3 then targetD s o
  else if o.kind = 4 then turnD s (s.mode == 0) 1 else if o.kind = 5 then turnD s (s.mode == 1) 0 else if o.kind = 6 then turnD s (s.mode != 2) 2
  else if o.kind = 7 then downD s o else if o.kind = 8 then upD s o else if o.kind = 9 then holdD s o else if o.kind = 10 then startD s o
  else if o.kind = 11 then unholdD s o else if o.kind = 12 then drainD c s o else if o.kind = 13 then savedD s o else if o.kind = 14 then evictD s o
  else if o.kind = 15 then doneD s o else if o.kind = 16 then cordonD s o else if o.kind = 17 then uncordonD s o else if o.kind = 18 then moveD s o
  else if o.kind = 19 then movedD s o else if o.kind = 20 then shrinkD s o else newtermD s
def zeroState : StateD := ⟨[], [], 0, 0, 0, 0⟩
def appD (c : ConfD) (s : StateD) (o : OpD) : StateD × Int :=
  if opOkB o = false then (s, 1)
  else if jobK o.kind = true ∧ (o.a < 1 ∨ (s.jobs.length : Int) < o.a) then (s, 4)
  else if nodeK o.kind = true ∧ (s.nodes.length : Int) ≤ o.a then (s, 4)
  else deedD c s o
def applyD (c : ConfD) (s : StateD) (o : OpD) : StateD × Int := if rightB c s = false then (zeroState, 1) else appD c s o
end Dv

namespace Dv

def noA (s : StateD) (i : Nat) : NodeD := s.nodes.getD i zeroNode
def joA (s : StateD) (k : Nat) : JobD := s.jobs.getD k zeroJob

structure JobNum (c : ConfD) (j : JobD) : Prop where
  asked : askedB c j = true
  phase : 0 ≤ j.phase ∧ j.phase ≤ 4
  inc : 0 ≤ j.inc ∧ j.inc ≤ 1000000
  since : 0 ≤ j.since ∧ j.since ≤ 1000000
  til : 0 ≤ j.til ∧ j.til ≤ 1000000
  epoch : 0 ≤ j.epoch ∧ j.epoch ≤ j.inc
structure Placed (ns : List NodeD) (j : JobD) : Prop where
  lo : 0 ≤ j.nodes
  hi : j.nodes < 2 ^ ns.length
  many : j.min ≤ many j.nodes ∧ many j.nodes ≤ j.max
  ver : ∃ u, (j.pin = 0 ∨ u = j.pin) ∧ ∀ i, i < ns.length → hasB j.nodes i = true → (ns.getD i zeroNode).version = u
structure RightP (c : ConfD) (s : StateD) : Prop where
  conf : mayB c = true
  nodes : (s.nodes.length : Int) = c.nodes
  jobs : s.jobs.length ≤ 24
  goal : 1 ≤ s.goal ∧ s.goal ≤ 9
  prior : 1 ≤ s.prior ∧ s.prior ≤ 9
  mode : 0 ≤ s.mode ∧ s.mode ≤ 2
  term : 0 ≤ s.term ∧ s.term ≤ 1000000
  num : ∀ k, k < s.jobs.length → JobNum c (joA s k)
  placed : ∀ k, k < s.jobs.length → placedB (joA s k).phase = true → Placed s.nodes (joA s k)
  idle : ∀ k, k < s.jobs.length → placedB (joA s k).phase = false → (joA s k).nodes = 0
  ver : ∀ i, i < s.nodes.length → 1 ≤ (noA s i).version ∧ (noA s i).version ≤ 9
  job : ∀ i, i < s.nodes.length → 0 ≤ (noA s i).job ∧ (noA s i).job ≤ s.jobs.length
  moving : ∀ i, i < s.nodes.length → (noA s i).moving = true → (noA s i).up = true ∧ (noA s i).cordon = true ∧ (noA s i).job = 0
  up : ∀ i, i < s.nodes.length → (noA s i).job ≠ 0 → (noA s i).up = true
  link : ∀ i k, i < s.nodes.length → k < s.jobs.length → (hasB (joA s k).nodes i = true ↔ (noA s i).job = k + 1)
  quota : ∀ q : Nat, (q : Int) < c.queues → drainsL s.jobs q ≤ c.quota

theorem mayB_nodes {c : ConfD} (h : mayB c = true) : 1 ≤ c.nodes ∧ c.nodes ≤ 6 := by
  unfold mayB at h
  simp only [Bool.and_eq_true] at h
  exact within_t h.1.1.1.1.1.1.1.1
theorem RightP.len {c : ConfD} {s : StateD} (h : RightP c s) : 1 ≤ s.nodes.length ∧ s.nodes.length ≤ 6 := by
  have := mayB_nodes h.conf
  have := h.nodes
  omega

theorem has_zero (i : Nat) : hasB 0 i = false := by simp [hasB]

theorem fitsLoop_iff (m : Int) (takes : NodeD → Bool) : ∀ (l : List NodeD) (i : Nat) (v : Int), (∀ k, k < l.length → 1 ≤ (l.getD k zeroNode).version) →
    (fitsLoop m takes l i v = true ↔ ∃ u, (v = 0 ∨ u = v) ∧ ∀ k, k < l.length → hasB m (i + k) = true → takes (l.getD k zeroNode) = true ∧ (l.getD k zeroNode).version = u)
  | [], i, v, _ => by
    simp only [fitsLoop,List.length_nil,true_iff]
    exact ⟨v, .inr rfl, fun k hk => by omega⟩
  | n :: l, i, v, hv => by
    have h0 : 1 ≤ n.version := by simpa using hv 0 (by simp)
    have ih := fun v => fitsLoop_iff m takes l (i + 1) v (fun k hk => by simpa using hv (k + 1) (by simpa using hk))
    have shift : ∀ u, (∀ k, k < (n :: l).length → hasB m (i + k) = true → takes ((n :: l).getD k zeroNode) = true ∧ ((n :: l).getD k zeroNode).version = u) ↔
        (hasB m i = true → takes n = true ∧ n.version = u) ∧ ∀ k, k < l.length → hasB m (i + 1 + k) = true → takes (l.getD k zeroNode) = true ∧ (l.getD k zeroNode).version = u := by
      intro u
      refine ⟨fun h => ⟨fun h1 => by simpa using h 0 (by simp) h1, fun k hk h1 => ?_⟩, fun h k hk h1 => ?_⟩
      · have := h (k + 1) (by simpa using hk) (by rw [← h1]; congr 1; omega)
        simpa using this
      · cases k with
        | zero => simpa using h.1 h1
        | succ k =>
          have := h.2 k (by simpa using hk) (by rw [← h1]; congr 1; omega)
          simpa using this
    unfold fitsLoop
    by_cases hb : hasB m i = false
    · rw [if_pos hb, ih v]
      refine exists_congr fun u => and_congr_right fun _ => ?_
      rw [shift u]
      simp [hb]
    · rw [if_neg hb]
      have hb' : hasB m i = true := by simpa using hb
      by_cases ht : takes n = true
      · by_cases hq : n.version = (if v = 0 then n.version else v)
        · rw [if_pos ⟨ht, hq⟩, ih, ← hq]
          constructor
          · rintro ⟨u, h1, h2⟩
            have hu : u = n.version := by omega
            refine ⟨u, ?_, (shift u).2 ⟨fun _ => ⟨ht, hu.symm⟩, h2⟩⟩
            by_cases h3 : v = 0
            · exact .inl h3
            · rw [if_neg h3] at hq; exact .inr (by omega)
          · rintro ⟨u, h1, h2⟩
            obtain ⟨h3, h4⟩ := (shift u).1 h2
            exact ⟨u, .inr (h3 hb').2.symm, h4⟩
        · rw [if_neg (fun h => hq h.2)]
          refine ⟨fun h => (by cases h), ?_⟩
          rintro ⟨u, h1, h2⟩
          have h3 := ((shift u).1 h2).1 hb'
          refine absurd ?_ hq
          by_cases h4 : v = 0
          · rw [if_pos h4]
          · rw [if_neg h4]; omega
      · rw [if_neg (fun h => ht h.1)]
        refine ⟨fun h => (by cases h), ?_⟩
        rintro ⟨u, h1, h2⟩
        exact absurd (((shift u).1 h2).1 hb').1 ht

theorem fitsB_iff (ns : List NodeD) (j : JobD) (m : Int) (takes : NodeD → Bool) (hv : ∀ k, k < ns.length → 1 ≤ (ns.getD k zeroNode).version) :
    fitsB ns j m takes = true ↔ (0 ≤ m ∧ m < 2 ^ ns.length) ∧ (j.min ≤ many m ∧ many m ≤ j.max) ∧ ∃ u, (j.pin = 0 ∨ u = j.pin) ∧ ∀ k, k < ns.length → hasB m k = true → takes (ns.getD k zeroNode) = true ∧ (ns.getD k zeroNode).version = u := by
  unfold fitsB
  by_cases h1 : m < 0 ∨ 2 ^ ns.length ≤ m
  · rw [if_pos h1]
    refine ⟨fun h => (by cases h), fun h => ?_⟩
    omega
  · rw [if_neg h1]
    by_cases h2 : withinB (many m) j.min j.max = true
    · rw [if_pos h2, fitsLoop_iff m takes ns 0 j.pin hv]
      have h3 := within_t h2
      simp only [Nat.zero_add]
      exact ⟨fun h => ⟨by omega, h3, h⟩, fun h => h.2.2⟩
    · rw [if_neg h2]
      refine ⟨fun h => (by cases h), fun h => absurd ?_ h2⟩
      exact decide_eq_true h.2.1

theorem standsB_iff (c : ConfD) (s : StateD) (j : JobD) (number : Int) (hv : ∀ k, k < s.nodes.length → 1 ≤ (s.nodes.getD k zeroNode).version) :
    standsB c s j number = true ↔ JobNum c j ∧ (placedB j.phase = true → Placed s.nodes j ∧ ∀ i, i < s.nodes.length → hasB j.nodes i = true → takes1 number (noA s i) = true) ∧ (placedB j.phase = false → j.nodes = 0) := by
  unfold standsB
  simp only [Bool.and_eq_true]
  have key : (if placedB j.phase = true then fitsB s.nodes j j.nodes (takes1 number) else decide (j.nodes = 0)) = true ↔ (placedB j.phase = true → Placed s.nodes j ∧ ∀ i, i < s.nodes.length → hasB j.nodes i = true → takes1 number (noA s i) = true) ∧ (placedB j.phase = false → j.nodes = 0) := by
    cases hp : placedB j.phase with
    | true =>
      rw [if_pos rfl, fitsB_iff _ _ _ _ hv]
      constructor
      · rintro ⟨⟨a, b⟩, e, u, f, g⟩
        exact ⟨fun _ => ⟨⟨a, b, e, u, f, fun i hi h => (g i hi h).2⟩, fun i hi h => (g i hi h).1⟩, fun h => by cases h⟩
      · rintro ⟨h, _⟩
        obtain ⟨⟨a, b, e, u, f, g⟩, h⟩ := h rfl
        exact ⟨⟨a, b⟩, e, u, f, fun i hi hb => ⟨h i hi hb, g i hi hb⟩⟩
    | false => simp
  rw [key]
  constructor
  · rintro ⟨⟨⟨⟨⟨⟨a, b⟩, d⟩, e⟩, f⟩, g⟩, h⟩
    exact ⟨⟨a, within_t b, within_t d, within_t e, within_t f, within_t g⟩, h⟩
  · rintro ⟨⟨a, b, d, e, f, g⟩, h⟩
    exact ⟨⟨⟨⟨⟨⟨a, decide_eq_true b⟩, decide_eq_true d⟩, decide_eq_true e⟩, decide_eq_true f⟩, decide_eq_true g⟩, h⟩

theorem standsFrom_iff (c : ConfD) (s : StateD) : ∀ (l : List JobD) (k : Nat), standsFrom c s l k = true ↔ ∀ i, i < l.length → standsB c s (l.getD i zeroJob) ((k + i : Nat) + 1) = true
  | [], k => by simp [standsFrom]
  | j :: l, k => by
    unfold standsFrom
    rw [Bool.and_eq_true, standsFrom_iff c s l (k + 1)]
    constructor
    · rintro ⟨h1, h2⟩ i hi
      cases i with
      | zero => simpa using h1
      | succ i =>
        have := h2 i (by simpa using hi)
        rw [show k + (i + 1) = k + 1 + i by omega]
        simpa using this
    · intro h
      refine ⟨by simpa using h 0 (by simp), fun i hi => ?_⟩
      have := h (i + 1) (by simpa using hi)
      rw [show k + 1 + i = k + (i + 1) by omega]
      simpa using this
theorem soundFrom_iff (s : StateD) : ∀ (l : List NodeD) (k : Nat), soundFrom s l k = true ↔ ∀ i, i < l.length → soundB s (l.getD i zeroNode) (k + i) = true
  | [], k => by simp [soundFrom]
  | j :: l, k => by
    unfold soundFrom
    rw [Bool.and_eq_true, soundFrom_iff s l (k + 1)]
    constructor
    · rintro ⟨h1, h2⟩ i hi
      cases i with
      | zero => simpa using h1
      | succ i =>
        have := h2 i (by simpa using hi)
        rw [show k + (i + 1) = k + 1 + i by omega]
        simpa using this
    · intro h
      refine ⟨by simpa using h 0 (by simp), fun i hi => ?_⟩
      have := h (i + 1) (by simpa using hi)
      rw [show k + 1 + i = k + (i + 1) by omega]
      simpa using this
theorem quotaFrom_iff (c : ConfD) (s : StateD) : ∀ (n q : Nat), quotaFrom c s q n = true ↔ ∀ i, i < n → drainsL s.jobs ((q + i : Nat) : Int) ≤ c.quota
  | 0, q => by simp [quotaFrom]
  | n + 1, q => by
    unfold quotaFrom
    rw [Bool.and_eq_true, quotaFrom_iff c s n (q + 1), Bool.not_eq_true', decide_eq_false_iff_not]
    constructor
    · rintro ⟨h1, h2⟩ i hi
      cases i with
      | zero => simpa using h1
      | succ i =>
        have := h2 i (by omega)
        rw [show q + (i + 1) = q + 1 + i by omega]
        exact this
    · intro h
      refine ⟨by have := h 0 (by omega); simpa using this, fun i hi => ?_⟩
      have := h (i + 1) (by omega)
      rw [show q + 1 + i = q + (i + 1) by omega]
      exact this
theorem soundB_iff (s : StateD) (n : NodeD) (i : Nat) : soundB s n i = true ↔ (1 ≤ n.version ∧ n.version ≤ 9) ∧ (0 ≤ n.job ∧ n.job ≤ s.jobs.length) ∧ (n.moving = true → n.up = true ∧ n.cordon = true ∧ n.job = 0) ∧ (n.job ≠ 0 → hasB (s.jobs.getD (n.job - 1).toNat zeroJob).nodes i = true) := by
  unfold soundB withinB
  cases n.moving <;> cases n.up <;> cases n.cordon <;> by_cases h0 : n.job = 0 <;> simp [h0,and_assoc]

theorem right_iff (c : ConfD) (s : StateD) : rightB c s = true ↔ RightP c s := by
  unfold rightB
  simp only [Bool.and_eq_true]
  constructor
  · rintro ⟨⟨⟨⟨⟨⟨⟨⟨⟨h1, h2⟩, h3⟩, h4⟩, h5⟩, h6⟩, h7⟩, h8⟩, h9⟩, h10⟩
    rw [standsFrom_iff] at h8
    rw [soundFrom_iff] at h9
    rw [quotaFrom_iff] at h10
    have h3 := of_decide_eq_true h3
    have hs : ∀ i, i < s.nodes.length → _ := fun i hi => (soundB_iff s (s.nodes.getD i zeroNode) i).1 (by simpa using h9 i hi)
    have hv : ∀ k, k < s.nodes.length → 1 ≤ (s.nodes.getD k zeroNode).version := fun k hk => (hs k hk).1.1
    have hst : ∀ i, i < s.jobs.length → _ := fun i hi => (standsB_iff c s (s.jobs.getD i zeroJob) (i + 1) hv).1 (by simpa using h8 i hi)
    have hl1 : ∀ i k, i < s.nodes.length → k < s.jobs.length → hasB (joA s k).nodes i = true → takes1 (k + 1) (noA s i) = true := fun i k hi hk hb => by
      cases hp : placedB (s.jobs.getD k zeroJob).phase with
      | true => exact ((hst k hk).2.1 hp).2 i hi hb
      | false =>
        have := (hst k hk).2.2 hp
        unfold joA at hb
        rw [this, has_zero] at hb; cases hb
    have hl2 : ∀ i k, i < s.nodes.length → k < s.jobs.length → (noA s i).job = k + 1 → hasB (joA s k).nodes i = true := fun i k hi hk hj => by
      have := (hs i hi).2.2.2 (by unfold noA at hj; omega)
      unfold noA at hj
      rw [hj] at this
      simpa [joA] using this
    refine ⟨h1, of_decide_eq_true h2, h3, within_t h4, within_t h5, within_t h6, within_t h7, fun k hk => (hst k hk).1, fun k hk hp => ((hst k hk).2.1 hp).1, fun k hk hp => (hst k hk).2.2 hp, fun i hi => (hs i hi).1, fun i hi => (hs i hi).2.1, fun i hi => (hs i hi).2.2.1, fun i hi h0 => ?_, fun i k hi hk => ⟨fun hb => ?_, hl2 i k hi hk⟩, fun q hq => ?_⟩
    · have h := (hs i hi).2.1
      have := hl1 i ((noA s i).job - 1).toNat hi (by unfold noA at *; omega) (hl2 i _ hi (by unfold noA at *; omega) (by unfold noA at *; omega))
      simp only [takes1,Bool.and_eq_true] at this
      exact this.1.1
    · have := hl1 i k hi hk hb
      simp only [takes1,Bool.and_eq_true,decide_eq_true_eq] at this
      exact this.2
    · have := h10 q (by omega)
      simpa using this
  · intro h
    have hv : ∀ k, k < s.nodes.length → 1 ≤ (s.nodes.getD k zeroNode).version := fun k hk => (h.ver k hk).1
    refine ⟨⟨⟨⟨⟨⟨⟨⟨⟨h.conf, decide_eq_true h.nodes⟩, decide_eq_true h.jobs⟩, decide_eq_true h.goal⟩, decide_eq_true h.prior⟩, decide_eq_true h.mode⟩, decide_eq_true h.term⟩, ?_⟩, ?_⟩, ?_⟩
    · rw [standsFrom_iff]
      intro k hk
      rw [Nat.zero_add, standsB_iff _ _ _ _ hv]
      refine ⟨h.num k hk, fun hp => ⟨h.placed k hk hp, fun i hi hb => ?_⟩, h.idle k hk⟩
      have hj := (h.link i k hi hk).1 hb
      have hm : (noA s i).moving = false := by
        cases hm : (noA s i).moving with
        | false => rfl
        | true => have := (h.moving i hi hm).2.2; omega
      simp only [takes1,Bool.and_eq_true,decide_eq_true_eq,hm,h.up i hi (by omega),hj,Bool.not_false,and_self]
    · rw [soundFrom_iff]
      intro i hi
      rw [Nat.zero_add, soundB_iff]
      refine ⟨h.ver i hi, h.job i hi, h.moving i hi, fun h0 => ?_⟩
      have hj := h.job i hi
      have := (h.link i ((noA s i).job - 1).toNat hi (by unfold noA at *; omega)).2 (by unfold noA at *; omega)
      exact this
    · rw [quotaFrom_iff]
      intro i hi
      have := h.quota i (by omega)
      simpa using this
end Dv

namespace Dv


end Dv

namespace Dv

theorem getD_set {α : Type} (l : List α) (k i : Nat) (x z : α) (h : k < l.length) : (l.set k x).getD i z = if i = k then x else l.getD i z := by
  by_cases hi : i = k
  · subst hi; simp [List.getD,h]
  · rw [if_neg hi]; simp [List.getD,List.getElem?_set_ne (fun e => hi e.symm)]
theorem getD_mapIdx {α : Type} (l : List α) (g : Nat → α → α) (i : Nat) (z : α) (h : i < l.length) : (l.mapIdx g).getD i z = g i (l.getD i z) := by
  simp [List.getD,h]

def isDr (q : Int) (j : JobD) : Bool := decide (j.queue = q) && decide (j.phase = 3)
theorem drainsL_cons (j : JobD) (l : List JobD) (q : Int) : drainsL (j :: l) q = (if isDr q j then 1 else 0) + drainsL l q := by
  unfold drainsL
  have : (fun j : JobD => decide (j.queue = q) && decide (j.phase = 3)) = isDr q := rfl
  rw [this]
  cases h : isDr q j
  · simp [List.filter_cons,h]
  · simp [List.filter_cons,h]; omega
theorem drainsL_set (q : Int) (j' : JobD) : ∀ (l : List JobD) (k : Nat), k < l.length → drainsL (l.set k j') q + (if isDr q (l.getD k zeroJob) then 1 else 0) = drainsL l q + (if isDr q j' then 1 else 0)
  | [], k, h => by simp at h
  | j :: l, 0, _ => by
    simp only [List.set_cons_zero,drainsL_cons,List.getD_cons_zero]
    omega
  | j :: l, k + 1, h => by
    have := drainsL_set q j' l k (by simpa using h)
    simp only [List.set_cons_succ,drainsL_cons,List.getD_cons_succ]
    omega
theorem drainsL_append (q : Int) (j : JobD) (l : List JobD) : drainsL (l ++ [j]) q = drainsL l q + (if isDr q j then 1 else 0) := by
  rw [drainsL_snoc]
  unfold isDr
  by_cases h1 : j.queue = q <;> by_cases h2 : j.phase = 3 <;> simp [h1,h2]

structure JobStep (c : ConfD) (s : StateD) (k0 : Nat) (j' : JobD) (ns' : List NodeD) : Prop where
  hk : k0 < s.jobs.length
  num : JobNum c j'
  fixed : j'.queue = (joA s k0).queue ∧ j'.prio = (joA s k0).prio ∧ j'.min = (joA s k0).min ∧ j'.max = (joA s k0).max ∧ j'.work = (joA s k0).work ∧ j'.pin = (joA s k0).pin
  grow : (joA s k0).inc ≤ j'.inc ∧ (joA s k0).epoch ≤ j'.epoch
  ended : (joA s k0).phase ≠ 4
  len : ns'.length = s.nodes.length
  same : ∀ i, i < s.nodes.length → (ns'.getD i zeroNode).up = (noA s i).up ∧ (ns'.getD i zeroNode).cordon = (noA s i).cordon ∧ (ns'.getD i zeroNode).moving = (noA s i).moving ∧ (ns'.getD i zeroNode).version = (noA s i).version
  placed : placedB j'.phase = true → Placed s.nodes j'
  idle : placedB j'.phase = false → j'.nodes = 0
  link : ∀ i, i < s.nodes.length → (hasB j'.nodes i = true ↔ (ns'.getD i zeroNode).job = k0 + 1)
  others : ∀ i k, i < s.nodes.length → k < s.jobs.length → k ≠ k0 → ((ns'.getD i zeroNode).job = k + 1 ↔ (noA s i).job = k + 1)
  range : ∀ i, i < s.nodes.length → 0 ≤ (ns'.getD i zeroNode).job ∧ (ns'.getD i zeroNode).job ≤ s.jobs.length
  use : ∀ i, i < s.nodes.length → (ns'.getD i zeroNode).job ≠ 0 → (noA s i).up = true ∧ (noA s i).moving = false
  quota : j'.phase = 3 → (joA s k0).phase = 3 ∨ drainsL s.jobs (joA s k0).queue < c.quota
structure NodeStep (s : StateD) (i0 : Nat) (n' : NodeD) : Prop where
  hi : i0 < s.nodes.length
  ver : 1 ≤ n'.version ∧ n'.version ≤ 9
  job : n'.job = (noA s i0).job
  keep : (noA s i0).job ≠ 0 → n'.version = (noA s i0).version
  moving : n'.moving = true → n'.up = true ∧ n'.cordon = true ∧ n'.job = 0
  up : n'.job ≠ 0 → n'.up = true
structure NumStep (s : StateD) (g p m t : Int) : Prop where
  goal : 1 ≤ g ∧ g ≤ 9
  prior : 1 ≤ p ∧ p ≤ 9
  mode : 0 ≤ m ∧ m ≤ 2
  term : s.term ≤ t ∧ t ≤ 1000000
structure MoreStep (c : ConfD) (s : StateD) (j : JobD) : Prop where
  len : s.jobs.length < 24
  num : JobNum c j
  phase : j.phase = 0
  nodes : j.nodes = 0

inductive Step (c : ConfD) (s : StateD) : StateD → Prop where
  | num {g p m t : Int} (h : NumStep s g p m t) : Step c s { s with goal := g, prior := p, mode := m, term := t }
  | job {k0 : Nat} {j' : JobD} {ns' : List NodeD} (h : JobStep c s k0 j' ns') : Step c s { s with nodes := ns', jobs := s.jobs.set k0 j' }
  | node {i0 : Nat} {n' : NodeD} (h : NodeStep s i0 n') : Step c s { s with nodes := s.nodes.set i0 n' }
  | both {k0 : Nat} {j' : JobD} {ns' : List NodeD} {i0 : Nat} {n' : NodeD} (h : JobStep c s k0 j' ns') (h2 : NodeStep { s with nodes := ns', jobs := s.jobs.set k0 j' } i0 n') : Step c s { s with nodes := ns'.set i0 n', jobs := s.jobs.set k0 j' }
  | more {j : JobD} (h : MoreStep c s j) : Step c s { s with jobs := s.jobs ++ [j] }

section
variable {c : ConfD} {s : StateD}
theorem Placed.of {ns ns' : List NodeD} {j : JobD} (h : Placed ns j) (hl : ns'.length = ns.length) (hv : ∀ i, i < ns.length → hasB j.nodes i = true → (ns'.getD i zeroNode).version = (ns.getD i zeroNode).version) : Placed ns' j := by
  obtain ⟨a, b, d, u, e, f⟩ := h
  refine ⟨a, by rw [hl]; exact b, d, u, e, fun i hi hb => ?_⟩
  rw [hl] at hi
  rw [hv i hi hb]; exact f i hi hb
theorem RightP.job_step (h : RightP c s) {k0 : Nat} {j' : JobD} {ns' : List NodeD} (q : JobStep c s k0 j' ns') : RightP c { s with nodes := ns', jobs := s.jobs.set k0 j' } := by
  have hlj : (s.jobs.set k0 j').length = s.jobs.length := by simp
  have hjo : ∀ k, joA { s with nodes := ns', jobs := s.jobs.set k0 j' } k = if k = k0 then j' else joA s k := fun k => getD_set _ _ _ _ _ q.hk
  have hno : ∀ i, noA { s with nodes := ns', jobs := s.jobs.set k0 j' } i = ns'.getD i zeroNode := fun i => rfl
  refine ⟨h.conf, by rw [← h.nodes]; exact congrArg _ q.len, by dsimp only; rw [hlj]; exact h.jobs, h.goal, h.prior, h.mode, h.term, fun k hk => ?_, fun k hk hp => ?_, fun k hk hp => ?_, fun i hi => ?_, fun i hi => ?_, fun i hi hm => ?_, fun i hi h0 => ?_, fun i k hi hk => ?_, fun p hp => ?_⟩
  · dsimp only at hk; rw [hlj] at hk; rw [hjo]; split
    · exact q.num
    · exact h.num k hk
  · dsimp only at hk; rw [hlj] at hk; rw [hjo] at hp ⊢; dsimp only
    split
    · rename_i e; rw [if_pos e] at hp
      exact (q.placed hp).of q.len fun i hi _ => (q.same i hi).2.2.2
    · rename_i e; rw [if_neg e] at hp
      exact (h.placed k hk hp).of q.len fun i hi _ => (q.same i hi).2.2.2
  · dsimp only at hk; rw [hlj] at hk; rw [hjo] at hp ⊢
    split
    · rename_i e; rw [if_pos e] at hp; exact q.idle hp
    · rename_i e; rw [if_neg e] at hp; exact h.idle k hk hp
  · dsimp only at hi; rw [q.len] at hi; rw [hno, (q.same i hi).2.2.2]; exact h.ver i hi
  · dsimp only at hi ⊢; rw [q.len] at hi; rw [hno, hlj]; exact q.range i hi
  · dsimp only at hi; rw [q.len] at hi; rw [hno] at hm ⊢
    obtain ⟨a, b, d, _⟩ := q.same i hi
    rw [d] at hm
    have := h.moving i hi hm
    rw [a, b]
    refine ⟨this.1, this.2.1, ?_⟩
    by_cases h0 : (ns'.getD i zeroNode).job = 0
    · exact h0
    · have := (q.use i hi h0).2; rw [hm] at this; cases this
  · dsimp only at hi; rw [q.len] at hi; rw [hno] at h0 ⊢
    rw [(q.same i hi).1]; exact (q.use i hi h0).1
  · dsimp only at hi hk; rw [q.len] at hi; rw [hlj] at hk; rw [hno, hjo]
    split
    · rename_i e; subst e; exact q.link i hi
    · rename_i e; rw [q.others i k hi hk e]; exact h.link i k hi hk
  · have h1 := drainsL_set p j' s.jobs k0 q.hk
    have h2 := h.quota p hp
    have h3 := q.fixed.1
    have h4 := q.quota
    dsimp only
    unfold joA at h3 h4
    generalize s.jobs.getD k0 zeroJob = j at *
    unfold isDr at h1
    by_cases e1 : j'.queue = p
    · have e2 : j.queue = p := by omega
      by_cases e3 : j'.phase = 3
      · rcases h4 e3 with e4 | e4
        · simp only [e1,e2,e3,e4,decide_true,Bool.and_true,if_true] at h1; omega
        · by_cases e5 : j.phase = 3
          · simp only [e1,e2,e3,e5,decide_true,Bool.and_true,if_true] at h1; omega
          · simp only [e1,e2,e3,e5,decide_true,decide_false,Bool.and_true,Bool.and_false,if_true] at h1
            rw [e2] at e4
            simp at h1
            omega
      · simp [e1,e2,e3] at h1
        split at h1 <;> omega
    · have e2 : j.queue ≠ p := by omega
      simp [e1,e2] at h1
      omega

theorem RightP.node_step (h : RightP c s) {i0 : Nat} {n' : NodeD} (q : NodeStep s i0 n') : RightP c { s with nodes := s.nodes.set i0 n' } := by
  have hln : (s.nodes.set i0 n').length = s.nodes.length := by simp
  have hno : ∀ k, noA { s with nodes := s.nodes.set i0 n' } k = if k = i0 then n' else noA s k := fun k => getD_set _ _ _ _ _ q.hi
  have hjo : ∀ i, joA { s with nodes := s.nodes.set i0 n' } i = joA s i := fun i => rfl
  refine ⟨h.conf, by dsimp only; rw [hln]; exact h.nodes, h.jobs, h.goal, h.prior, h.mode, h.term, h.num, fun k hk hp => ?_, h.idle, fun i hi => ?_, fun i hi => ?_, fun i hi hm => ?_, fun i hi h0 => ?_, fun i k hi hk => ?_, h.quota⟩
  · refine (h.placed k hk hp).of hln fun i hi hb => ?_
    have := hno i
    unfold noA at this
    dsimp only at this ⊢
    rw [this]
    split
    · rename_i e; subst e
      have hj := (h.link i k hi hk).1 hb
      exact q.keep (by omega)
    · rfl
  · dsimp only at hi; rw [hln] at hi; rw [hno]; split
    · exact q.ver
    · exact h.ver i hi
  · dsimp only at hi; rw [hln] at hi; rw [hno]; split
    · rename_i e; subst e; rw [q.job]; exact h.job i hi
    · exact h.job i hi
  · dsimp only at hi; rw [hln] at hi; rw [hno] at hm ⊢
    by_cases e : i = i0
    · rw [if_pos e] at hm ⊢; exact q.moving hm
    · rw [if_neg e] at hm ⊢; exact h.moving i hi hm
  · dsimp only at hi; rw [hln] at hi; rw [hno] at h0 ⊢
    by_cases e : i = i0
    · rw [if_pos e] at h0 ⊢; exact q.up h0
    · rw [if_neg e] at h0 ⊢; exact h.up i hi h0
  · dsimp only at hi hk; rw [hln] at hi; rw [hno, hjo]
    split
    · rename_i e; subst e; rw [q.job]; exact h.link i k hi hk
    · exact h.link i k hi hk

theorem RightP.num_step (h : RightP c s) {g p m t : Int} (q : NumStep s g p m t) : RightP c { s with goal := g, prior := p, mode := m, term := t } :=
  ⟨h.conf, h.nodes, h.jobs, q.goal, q.prior, q.mode, ⟨by have := h.term; have := q.term; dsimp only; omega, q.term.2⟩, h.num, h.placed, h.idle, h.ver, h.job, h.moving, h.up, h.link, h.quota⟩

theorem getD_snoc (l : List JobD) (j : JobD) (k : Nat) : (l ++ [j]).getD k zeroJob = if k < l.length then l.getD k zeroJob else if k = l.length then j else zeroJob := by
  by_cases h : k < l.length
  · rw [if_pos h]; simp [List.getD,List.getElem?_append_left h]
  · rw [if_neg h]
    by_cases e : k = l.length
    · rw [if_pos e]; subst e; simp
    · rw [if_neg e]; simp [List.getD,List.getElem?_append_right (show l.length ≤ k by omega)]
      rw [List.getElem?_eq_none (by simp; omega)]; rfl
theorem RightP.more_step (h : RightP c s) {j : JobD} (q : MoreStep c s j) : RightP c { s with jobs := s.jobs ++ [j] } := by
  have hjo : ∀ k, k < (s.jobs ++ [j]).length → joA { s with jobs := s.jobs ++ [j] } k = if k < s.jobs.length then joA s k else j := fun k hk => by
    unfold joA
    dsimp only
    rw [getD_snoc]
    simp at hk
    by_cases e : k < s.jobs.length
    · rw [if_pos e, if_pos e]
    · rw [if_neg e, if_neg e, if_pos (by omega)]
  have hlen : (s.jobs ++ [j]).length = s.jobs.length + 1 := by simp
  refine ⟨h.conf, h.nodes, by dsimp only; rw [hlen]; have := q.len; omega, h.goal, h.prior, h.mode, h.term, fun k hk => ?_, fun k hk hp => ?_, fun k hk hp => ?_, h.ver, fun i hi => ?_, h.moving, h.up, fun i k hi hk => ?_, fun p hp => ?_⟩
  · rw [hjo k hk]; split
    · rename_i e; exact h.num k e
    · exact q.num
  · rw [hjo k hk] at hp ⊢
    by_cases e : k < s.jobs.length
    · rw [if_pos e] at hp ⊢; exact h.placed k e hp
    · rw [if_neg e, q.phase] at hp; cases hp
  · rw [hjo k hk] at hp ⊢
    by_cases e : k < s.jobs.length
    · rw [if_pos e] at hp ⊢; exact h.idle k e hp
    · rw [if_neg e]; exact q.nodes
  · have := h.job i hi
    have e : noA { s with jobs := s.jobs ++ [j] } i = noA s i := rfl
    dsimp only
    rw [hlen, e]
    omega
  · rw [hjo k hk]
    have e : noA { s with jobs := s.jobs ++ [j] } i = noA s i := rfl
    rw [e]
    by_cases e : k < s.jobs.length
    · rw [if_pos e]; exact h.link i k hi e
    · rw [if_neg e, q.nodes, has_zero]
      have := h.job i hi
      simp only [Bool.false_eq_true,false_iff]
      omega
  · have := drainsL_append p j s.jobs
    have h2 := h.quota p hp
    dsimp only
    rw [this]
    unfold isDr
    rw [q.phase]
    simp
    exact h2

theorem Step.right (h : RightP c s) {t : StateD} (q : Step c s t) : RightP c t := by
  cases q with
  | num q => exact h.num_step q
  | job q => exact h.job_step q
  | node q => exact h.node_step q
  | both q q2 => exact (h.job_step q).node_step q2
  | more q => exact h.more_step q
end
end Dv
