/- What agents' reports mean: plain data (no program in sight). -/
import Derived.Test.YtclgmpflmeopmaaP3
set_option linter.unusedVariables false
set_option linter.unusedSimpArgs false
namespace Dv

def reportM (r : List MsgD) (i : Int) : MsgD := if i < 0 ∨ (r.length : Int) ≤ i then zeroMsg else if (r.getD i.toNat zeroMsg).kind = 6 then r.getD i.toNat zeroMsg else zeroMsg
def idleB (m : MsgD) : Bool := m.kind == 6 && m.mode == 0
def saysB (s : StateD) (r : List MsgD) (node mode job : Int) : Bool :=
  (reportM r node).kind == 6 && decide (1 ≤ job) && decide (job ≤ s.jobs.length) && (reportM r node).mode == mode && (reportM r node).job == job && (reportM r node).inc == (s.jobs.getD (job - 1).toNat zeroJob).inc
/-- the test takes all of a set's nodes. -/
def everyB (m : Int) (tk : Nat → Bool) : Bool := (List.range 6).all fun i => !hasB m i || tk i
def gangT (s : StateD) (r : List MsgD) (job now : Int) (j : JobD) : OpD × Bool :=
  if j.phase = 1 then (⟨10, job, now, 0, 0, 0, 0⟩, everyB j.nodes fun i => saysB s r i 1 job || saysB s r i 2 job)
  else if j.phase = 2 then (⟨15, job, 0, 0, 0, 0, 0⟩, everyB j.nodes fun i => saysB s r i 2 job && decide (j.work ≤ (reportM r i).work))
  else if j.phase = 3 then (if j.epoch < j.inc then ⟨13, job, j.inc, 0, 0, 0, 0⟩ else ⟨14, job, 0, 0, 0, 0, 0⟩, everyB j.nodes fun i => saysB s r i 3 job)
  else (zeroOp, false)
def someP (p : OpD × Bool) : Option OpD := if p.2 = true then some p.1 else none
def gangO (s : StateD) (r : List MsgD) (job now : Int) : Option OpD := if job < 1 ∨ (s.jobs.length : Int) < job then none else someP (gangT s r job now (s.jobs.getD (job - 1).toNat zeroJob))
def tellN (s : StateD) (m : MsgD) (n : NodeD) (i : Int) : Option OpD :=
  if idleB m = false then none
  else if n.up = false ∧ 1 ≤ m.version ∧ m.version ≤ 9 then some ⟨8, i, m.version, 0, 0, 0, 0⟩
  else if n.moving = true ∧ m.version = meant s then some ⟨19, i, m.version, 0, 0, 0, 0⟩
  else none
/-- the first of the nodes from the i-th on, of those that are up (or not), that tells something. -/
def tellU (s : StateD) (r : List MsgD) (up : Bool) : List NodeD → Nat → Option OpD
  | [], _ => none
  | n :: l, i => if n.up = up then (match tellN s (reportM r i) n i with | some o => some o | none => tellU s r up l (i + 1)) else tellU s r up l (i + 1)
/-- the first of the jobs from the k-th on (from 0) that tells something. -/
def tellG (s : StateD) (r : List MsgD) (now : Int) : List JobD → Nat → Option OpD
  | [], _ => none
  | j :: l, k => match someP (gangT s r ((k : Int) + 1) now j) with | some o => some o | none => tellG s r now l (k + 1)
def factsF (s : StateD) (r : List MsgD) (now : Int) : Option OpD :=
  match tellU s r false s.nodes 0 with
  | some o => some o
  | none => match tellU s r true s.nodes 0 with
    | some o => some o
    | none => tellG s r now s.jobs 0
/-- the first node that was up, and wasn't heard for too long. -/
def silentL (lease now : Int) : List Bool → List Int → Int → Int
  | u :: us, h :: hs, i => if u = true ∧ h + lease ≤ now then i else silentL lease now us hs (i + 1)
  | _, _, _ => -1
end Dv
