/- The document's Why: an op's error. -/
import Derived.Test.YtbhdfmgphcelhaaDoorD16
set_option linter.unusedVariables false
set_option linter.unusedSimpArgs false
namespace Dv
open Go Go.Proofs
variable {G : Nat → Option (List DV)}



section
variable {c : ConfD} {s : StateD} {o : OpD} (ho : opOkB o = true)
include ho
theorem why_1 (hk : o.kind = 1) : whyR c s o = (if askedB c (newJob o) = false then 1 else if s.jobs.length = 24 then 3 else 0) := by
  simp [whyR, ho, hk, jobK, nodeK, okR]
theorem why_2 (hk : o.kind = 2) : whyR c s o = (if o.a < 1 ∨ (s.jobs.length : Int) < o.a then 4 else if (jobA s o.a).phase = 4 then 5 else 0) := by
  simp [whyR, ho, hk, jobK, nodeK, okR]
theorem why_3 (hk : o.kind = 3) : whyR c s o = (if withinB o.a 1 9 = false then 1 else 0) := by
  simp [whyR, ho, hk, jobK, nodeK, okR]
theorem why_4 (hk : o.kind = 4) : whyR c s o = (if s.mode = 0 then 0 else 5) := by
  simp [whyR, ho, hk, jobK, nodeK, okR]
theorem why_5 (hk : o.kind = 5) : whyR c s o = (if s.mode = 1 then 0 else 5) := by
  simp [whyR, ho, hk, jobK, nodeK, okR]
theorem why_6 (hk : o.kind = 6) : whyR c s o = (if s.mode = 2 then 5 else 0) := by
  simp [whyR, ho, hk, jobK, nodeK, okR]
theorem why_7 (hk : o.kind = 7) : whyR c s o = (if (s.nodes.length : Int) ≤ o.a then 4 else if (nodeA s o.a).up = false then 5 else 0) := by
  simp [whyR, ho, hk, jobK, nodeK, okR]
theorem why_8 (hk : o.kind = 8) : whyR c s o = (if (s.nodes.length : Int) ≤ o.a then 4 else if withinB o.b 1 9 = false then 1 else if (nodeA s o.a).up = true then 5 else 0) := by
  simp [whyR, ho, hk, jobK, nodeK, okR]
theorem why_9 (hk : o.kind = 9) : whyR c s o = (if o.a < 1 ∨ (s.jobs.length : Int) < o.a then 4 else if (jobA s o.a).phase ≠ 0 then 5 else if ¬ (fitsRB s.nodes (jobA s o.a) o.b = true ∧ (jobA s o.a).inc < 1000000 ∧ freeAll o.b s.nodes 0 = true) then 8 else 0) := by
  simp [whyR, ho, hk, jobK, nodeK, okR]
theorem why_10 (hk : o.kind = 10) : whyR c s o = (if o.a < 1 ∨ (s.jobs.length : Int) < o.a then 4 else if (jobA s o.a).phase ≠ 1 then 5 else 0) := by
  simp [whyR, ho, hk, jobK, nodeK, okR]
theorem why_11 (hk : o.kind = 11) : whyR c s o = (if o.a < 1 ∨ (s.jobs.length : Int) < o.a then 4 else if (jobA s o.a).phase ≠ 1 then 5 else 0) := by
  simp [whyR, ho, hk, jobK, nodeK, okR]
theorem why_12 (hk : o.kind = 12) : whyR c s o = (if o.a < 1 ∨ (s.jobs.length : Int) < o.a then 4 else if (jobA s o.a).phase ≠ 2 then 5 else if c.quota ≤ drainsL s.jobs (jobA s o.a).queue then 7 else 0) := by
  simp [whyR, ho, hk, jobK, nodeK, okR]
theorem why_13 (hk : o.kind = 13) : whyR c s o = (if o.a < 1 ∨ (s.jobs.length : Int) < o.a then 4 else if runsB (jobA s o.a) = false then 5 else if o.b ≠ (jobA s o.a).inc ∨ o.b ≤ (jobA s o.a).epoch then 6 else 0) := by
  simp [whyR, ho, hk, jobK, nodeK, okR]
theorem why_14 (hk : o.kind = 14) : whyR c s o = (if o.a < 1 ∨ (s.jobs.length : Int) < o.a then 4 else if (jobA s o.a).phase ≠ 3 then 5 else 0) := by
  simp [whyR, ho, hk, jobK, nodeK, okR]
theorem why_15 (hk : o.kind = 15) : whyR c s o = (if o.a < 1 ∨ (s.jobs.length : Int) < o.a then 4 else if runsB (jobA s o.a) = false then 5 else 0) := by
  simp [whyR, ho, hk, jobK, nodeK, okR]
theorem why_16 (hk : o.kind = 16) : whyR c s o = (if (s.nodes.length : Int) ≤ o.a then 4 else if ((nodeA s o.a).up && !(nodeA s o.a).cordon) = false then 5 else 0) := by
  simp [whyR, ho, hk, jobK, nodeK, okR]
theorem why_17 (hk : o.kind = 17) : whyR c s o = (if (s.nodes.length : Int) ≤ o.a then 4 else if ((nodeA s o.a).cordon && !(nodeA s o.a).moving) = false then 5 else 0) := by
  simp [whyR, ho, hk, jobK, nodeK, okR]
theorem why_18 (hk : o.kind = 18) : whyR c s o = (if (s.nodes.length : Int) ≤ o.a then 4 else if ((nodeA s o.a).up && (nodeA s o.a).cordon && !(nodeA s o.a).moving && decide ((nodeA s o.a).job = 0)) = false then 5 else 0) := by
  simp [whyR, ho, hk, jobK, nodeK, okR]
theorem why_19 (hk : o.kind = 19) : whyR c s o = (if (s.nodes.length : Int) ≤ o.a then 4 else if withinB o.b 1 9 = false then 1 else if (nodeA s o.a).moving = false then 5 else 0) := by
  simp [whyR, ho, hk, jobK, nodeK, okR]
theorem why_20 (hk : o.kind = 20) : whyR c s o = (if o.a < 1 ∨ (s.jobs.length : Int) < o.a then 4 else if (s.nodes.length : Int) ≤ o.b then 4 else if (jobA s o.a).phase ≠ 2 then 5 else if hasB (jobA s o.a).nodes o.b.toNat = false ∨ many (jobA s o.a).nodes ≤ (jobA s o.a).min then 8 else 0) := by
  simp [whyR, ho, hk, jobK, nodeK, okR]
theorem why_21 (hk : o.kind = 21) : whyR c s o = (if s.term = 1000000 then 3 else 0) := by
  simp [whyR, ho, hk, jobK, nodeK, okR]
end
def why9S (c : ConfD) (s : StateD) (o : OpD) (j : JobD) (kv : Nat × Bool) : St := ⟨[(4, .ptr 1 0), (5, .ptr 2 0), (11, .bool kv.2), (12, .int kv.1)], [some (.box 23 [.int c.nodes, .int c.queues, .int c.quota, .int c.wave, .int c.lease, .int c.retry, .int c.deadline, .int c.room, .int c.disk]), some (.box 27 [nodesV s.nodes, jobsV s.jobs, .int s.goal, .int s.prior, .int s.mode, .int s.term]), some (.box 35 [.int 9, .int o.a, .int o.b, .int o.c, .int o.d, .int o.e, .int o.f]), some (.box 47 [.int j.queue, .int j.prio, .int j.min, .int j.max, .int j.work, .int j.pin, .int j.phase, .int j.inc, .int j.nodes, .int j.since, .int j.til, .int j.epoch]), some (.box 50 [.bool false, .bool false, .bool false, .int 0, .int 0])]⟩
end Dv
