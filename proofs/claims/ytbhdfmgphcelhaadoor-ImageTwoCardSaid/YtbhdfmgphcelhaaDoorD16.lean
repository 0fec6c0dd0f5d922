/- The document's book: Fits, Right, LetGo, Same. -/
import Derived.Test.YtbhdfmgphcelhaaDoorD15
set_option linter.unusedVariables false
set_option linter.unusedSimpArgs false
namespace Dv
open Go Go.Proofs
variable {G : Nat → Option (List DV)}



def fits9S (s : StateD) (j : JobD) (nodes : Int) (kv : Nat × Int) : St := ⟨[(2, .int nodes), (3, .ptr 0 0), (4, .ptr 1 0), (7, .int kv.2), (8, .int kv.1)], [some (.box 27 [nodesV s.nodes, jobsV s.jobs, .int s.goal, .int s.prior, .int s.mode, .int s.term]), some (.box 47 [.int j.queue, .int j.prio, .int j.min, .int j.max, .int j.work, .int j.pin, .int j.phase, .int j.inc, .int j.nodes, .int j.since, .int j.til, .int j.epoch])]⟩
theorem nodeRB_dec (s : StateD) (n : NodeD) : nodeRB s n = decide ((1 ≤ n.version ∧ n.version ≤ 9) ∧ (0 ≤ n.job ∧ n.job ≤ s.jobs.length) ∧ (n.moving = true → n.up = true ∧ n.cordon = true ∧ n.job = 0)) := by
  rw [Bool.eq_iff_iff, decide_eq_true_eq]; exact nodeRB_iff s n
theorem numRB_dec (c : ConfD) (j : JobD) : numRB c j = (askedB c j && decide (0 ≤ j.phase ∧ j.phase ≤ 4 ∧ 0 ≤ j.inc ∧ j.inc ≤ 1000000 ∧ 0 ≤ j.since ∧ j.since ≤ 1000000 ∧ 0 ≤ j.til ∧ j.til ≤ 1000000 ∧ 0 ≤ j.epoch ∧ j.epoch ≤ j.inc)) := by
  rw [Bool.eq_iff_iff]
  simp only [numRB, withinB, Bool.and_eq_true, decide_eq_true_eq, and_assoc]
theorem rightRB_dec (c : ConfD) (s : StateD) : rightRB c s = (mayB c && (decide ((s.nodes.length : Int) = c.nodes ∧ s.jobs.length ≤ 24 ∧ 1 ≤ s.goal ∧ s.goal ≤ 9 ∧ 1 ≤ s.prior ∧ s.prior ≤ 9 ∧ 0 ≤ s.mode ∧ s.mode ≤ 2 ∧ 0 ≤ s.term ∧ s.term ≤ 1000000) && (nodesR s s.nodes && quotaFrom c s 0 c.queues.toNat && jobsRB c s s.jobs 0))) := by
  rw [Bool.eq_iff_iff]
  simp only [rightRB, withinB, Bool.and_eq_true, decide_eq_true_eq, and_assoc]
theorem within_num {n lo hi : Int} (h : withinB n lo hi = true) : lo ≤ n ∧ n ≤ hi := within_t h
theorem within_not {n lo hi : Int} (h : withinB n lo hi = false) : ¬ (lo ≤ n ∧ n ≤ hi) := of_decide_eq_false h

def right9S1 (c : ConfD) (s : StateD) (k : Nat) : St := ⟨[(2, .ptr 0 0), (3, .ptr 1 0), (5, .int k)], [some (.box 23 [.int c.nodes, .int c.queues, .int c.quota, .int c.wave, .int c.lease, .int c.retry, .int c.deadline, .int c.room, .int c.disk]), some (.box 27 [nodesV s.nodes, jobsV s.jobs, .int s.goal, .int s.prior, .int s.mode, .int s.term])]⟩
def right9S2 (c : ConfD) (s : StateD) (k : Nat) : St := ⟨[(2, .ptr 0 0), (3, .ptr 1 0), (7, .int k)], [some (.box 23 [.int c.nodes, .int c.queues, .int c.quota, .int c.wave, .int c.lease, .int c.retry, .int c.deadline, .int c.room, .int c.disk]), some (.box 27 [nodesV s.nodes, jobsV s.jobs, .int s.goal, .int s.prior, .int s.mode, .int s.term])]⟩
def right9S3 (c : ConfD) (s : StateD) (k : Nat) : St := ⟨[(2, .ptr 0 0), (3, .ptr 1 0), (8, .int k)], [some (.box 23 [.int c.nodes, .int c.queues, .int c.quota, .int c.wave, .int c.lease, .int c.retry, .int c.deadline, .int c.room, .int c.disk]), some (.box 27 [nodesV s.nodes, jobsV s.jobs, .int s.goal, .int s.prior, .int s.mode, .int s.term])]⟩
def right9S4 (c : ConfD) (s : StateD) (j : JobD) (k i : Nat) : St := ⟨[(2, .ptr 0 0), (3, .ptr 1 0), (8, .int k), (9, .ptr 2 0), (10, .int i)], [some (.box 23 [.int c.nodes, .int c.queues, .int c.quota, .int c.wave, .int c.lease, .int c.retry, .int c.deadline, .int c.room, .int c.disk]), some (.box 27 [nodesV s.nodes, jobsV s.jobs, .int s.goal, .int s.prior, .int s.mode, .int s.term]), some (.box 47 [.int j.queue, .int j.prio, .int j.min, .int j.max, .int j.work, .int j.pin, .int j.phase, .int j.inc, .int j.nodes, .int j.since, .int j.til, .int j.epoch])]⟩
end Dv
