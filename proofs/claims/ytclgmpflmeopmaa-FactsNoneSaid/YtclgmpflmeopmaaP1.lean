/- Plain data of the fleet (no program in sight): nodes, jobs, states, ops, messages, as records. -/
set_option linter.unusedVariables false
set_option linter.unusedSimpArgs false
namespace Dv

structure NodeD where
  up : Bool
  cordon : Bool
  moving : Bool
  version : Int
  job : Int
  deriving DecidableEq

structure JobD where
  queue : Int
  prio : Int
  min : Int
  max : Int
  work : Int
  pin : Int
  phase : Int
  inc : Int
  nodes : Int
  since : Int
  til : Int
  epoch : Int
  deriving DecidableEq

structure ConfD where
  nodes : Int
  queues : Int
  quota : Int
  wave : Int
  lease : Int
  retry : Int
  deadline : Int
  room : Int
  disk : Int
  deriving DecidableEq

structure StateD where
  nodes : List NodeD
  jobs : List JobD
  goal : Int
  prior : Int
  mode : Int
  term : Int
  deriving DecidableEq

structure OpD where
  kind : Int
  a : Int
  b : Int
  c : Int
  d : Int
  e : Int
  f : Int
  deriving DecidableEq

structure MsgD where
  node : Int
  kind : Int
  term : Int
  gen : Int
  job : Int
  inc : Int
  version : Int
  epoch : Int
  til : Int
  mode : Int
  work : Int
  deriving DecidableEq

def zeroOp : OpD := ⟨0, 0, 0, 0, 0, 0, 0⟩
def zeroMsg : MsgD := ⟨0, 0, 0, 0, 0, 0, 0, 0, 0, 0, 0⟩
def zeroJob : JobD := ⟨0, 0, 0, 0, 0, 0, 0, 0, 0, 0, 0, 0⟩
def zeroNode : NodeD := ⟨false, false, false, 0, 0⟩

def meant (s : StateD) : Int := if s.mode = 2 then s.prior else s.goal

/-- how many jobs of a queue are draining -/
def drainsL (l : List JobD) (q : Int) : Int := ((l.filter (fun j => decide (j.queue = q) && decide (j.phase = 3))).length : Int)
theorem drainsL_le (l : List JobD) (q : Int) : 0 ≤ drainsL l q ∧ drainsL l q ≤ l.length := by
  unfold drainsL
  have := List.length_filter_le (fun j : JobD => decide (j.queue = q) && decide (j.phase = 3)) l
  omega
theorem take_snoc {α : Type} (l : List α) (k : Nat) (z : α) (h : k < l.length) : l.take (k + 1) = l.take k ++ [l.getD k z] := by
  rw [List.take_succ_eq_append_getElem h]; simp [List.getD, h]
theorem drainsL_snoc (l : List JobD) (j : JobD) (q : Int) : drainsL (l ++ [j]) q = drainsL l q + if j.queue = q ∧ j.phase = 3 then 1 else 0 := by
  unfold drainsL
  by_cases h1 : j.queue = q <;> by_cases h2 : j.phase = 3 <;> simp [List.filter_append, List.filter_cons, h1, h2]

/-- has a set of nodes, as bits, a node? -/
def hasB (n : Int) (i : Nat) : Bool := decide (n / 2 ^ i % 2 = 1)
def has01 (n : Int) (i : Nat) : Int := if hasB n i then 1 else 0
/-- how many nodes of so many a set has -/
def manyTo (n : Int) : Nat → Int
  | 0 => 0
  | k + 1 => manyTo n k + has01 n k
def many (n : Int) : Int := manyTo n 6
theorem manyTo_le (n : Int) : ∀ k : Nat, 0 ≤ manyTo n k ∧ manyTo n k ≤ k
  | 0 => by simp [manyTo]
  | k + 1 => by
    have := manyTo_le n k
    unfold manyTo has01
    split <;> omega

def withinB (n lo hi : Int) : Bool := decide (lo ≤ n ∧ n ≤ hi)

/-- the nodes of a set, from number i on: such as a test takes, of one version -/
def fitsLoop (nodes : Int) (takes : NodeD → Bool) : List NodeD → Nat → Int → Bool
  | [], _, _ => true
  | n :: l, i, v =>
    if hasB nodes i = false then fitsLoop nodes takes l (i + 1) v
    else if takes n = true ∧ n.version = (if v = 0 then n.version else v) then fitsLoop nodes takes l (i + 1) (if v = 0 then n.version else v) else false

def fitsB (ns : List NodeD) (j : JobD) (nodes : Int) (takes : NodeD → Bool) : Bool :=
  if nodes < 0 ∨ 2 ^ ns.length ≤ nodes then false
  else if withinB (many nodes) j.min j.max = true then fitsLoop nodes takes ns 0 j.pin else false

def askedB (c : ConfD) (j : JobD) : Bool := withinB j.queue 0 (c.queues - 1) && withinB j.prio 0 9 && withinB j.min 1 j.max && withinB j.max 1 c.nodes && withinB j.work 1 1000 && withinB j.pin 0 9
def placedB (p : Int) : Bool := decide (p = 1 ∨ p = 2 ∨ p = 3)
def mayB (c : ConfD) : Bool := withinB c.nodes 1 6 && withinB c.queues 1 3 && withinB c.quota 0 4 && withinB c.wave 1 6 && withinB c.lease 2 30 && withinB c.retry 1 20 && withinB c.deadline 1 60 && withinB c.room 0 5000 && withinB c.disk 2000 40000

def takes1 (number : Int) (n : NodeD) : Bool := n.up && !n.moving && decide (n.job = number)
/-- may a job, of a number, be in a state? -/
def standsB (c : ConfD) (s : StateD) (j : JobD) (number : Int) : Bool :=
  askedB c j && withinB j.phase 0 4 && withinB j.inc 0 1000000 && withinB j.since 0 1000000 && withinB j.til 0 1000000 && withinB j.epoch 0 j.inc &&
  (if placedB j.phase = true then fitsB s.nodes j j.nodes (takes1 number) else decide (j.nodes = 0))
/-- may a node, of a number, be in a state? -/
def soundB (s : StateD) (n : NodeD) (number : Nat) : Bool :=
  withinB n.version 1 9 && withinB n.job 0 s.jobs.length && !(n.moving && (!n.up || !n.cordon || decide (n.job ≠ 0))) &&
  (decide (n.job = 0) || hasB (s.jobs.getD (n.job - 1).toNat zeroJob).nodes number)
def standsFrom (c : ConfD) (s : StateD) : List JobD → Nat → Bool
  | [], _ => true
  | j :: l, k => standsB c s j (k + 1) && standsFrom c s l (k + 1)
def soundFrom (s : StateD) : List NodeD → Nat → Bool
  | [], _ => true
  | n :: l, k => soundB s n k && soundFrom s l (k + 1)
def quotaFrom (c : ConfD) (s : StateD) : Nat → Nat → Bool
  | _, 0 => true
  | q, n + 1 => !decide (c.quota < drainsL s.jobs q) && quotaFrom c s (q + 1) n
/-- may a state be? -/
def rightB (c : ConfD) (s : StateD) : Bool :=
  mayB c && decide ((s.nodes.length : Int) = c.nodes) && decide (s.jobs.length ≤ 24) && withinB s.goal 1 9 && withinB s.prior 1 9 && withinB s.mode 0 2 && withinB s.term 0 1000000 &&
  standsFrom c s s.jobs 0 && soundFrom s s.nodes 0 && quotaFrom c s 0 c.queues.toNat

theorem drop_cons {α : Type} (l : List α) (k : Nat) (z : α) (h : k < l.length) : l.drop k = l.getD k z :: l.drop (k + 1) := by
  rw [List.drop_eq_getElem_cons h]; simp [List.getD, h]
end Dv
