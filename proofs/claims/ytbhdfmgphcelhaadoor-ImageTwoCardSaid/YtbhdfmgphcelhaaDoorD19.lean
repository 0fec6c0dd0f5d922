/- The document's Apply. -/
import Derived.Test.YtbhdfmgphcelhaaDoorD18
set_option linter.unusedVariables false
set_option linter.unusedSimpArgs false
namespace Dv
open Go Go.Proofs
variable {G : Nat → Option (List DV)}



section
variable {s : StateD} {o : OpD}
theorem do_1 (hk : o.kind = 1) : doR s o = ({ s with jobs := s.jobs ++ [newJob o] }) := by
  simp [doR, hk]
theorem do_2 (hk : o.kind = 2) : doR s o = (letGoD s o.a 4) := by
  simp [doR, hk]
theorem do_3 (hk : o.kind = 3) : doR s o = ({ s with prior := meant s, goal := o.a, mode := 0 }) := by
  simp [doR, hk]
theorem do_4 (hk : o.kind = 4) : doR s o = ({ s with mode := 1 }) := by
  simp [doR, hk]
theorem do_5 (hk : o.kind = 5) : doR s o = ({ s with mode := 0 }) := by
  simp [doR, hk]
theorem do_6 (hk : o.kind = 6) : doR s o = ({ s with mode := 2 }) := by
  simp [doR, hk]
theorem do_7 (hk : o.kind = 7) : doR s o = ((let t := if 0 < (nodeA s o.a).job then letGoD s (nodeA s o.a).job 0 else s; setN t o.a { nodeA t o.a with up := false, moving := false })) := by
  simp [doR, hk]
theorem do_8 (hk : o.kind = 8) : doR s o = (setN s o.a { nodeA s o.a with up := true, version := o.b }) := by
  simp [doR, hk]
theorem do_9 (hk : o.kind = 9) : doR s o = ({ setJ s o.a { jobA s o.a with phase := 1, inc := (jobA s o.a).inc + 1, nodes := o.b } with nodes := s.nodes.mapIdx (takesA o.b o.a) }) := by
  simp [doR, hk]
theorem do_10 (hk : o.kind = 10) : doR s o = (setJ s o.a { jobA s o.a with phase := 2, since := o.b }) := by
  simp [doR, hk]
theorem do_11 (hk : o.kind = 11) : doR s o = (letGoD s o.a 0) := by
  simp [doR, hk]
theorem do_12 (hk : o.kind = 12) : doR s o = (setJ s o.a { jobA s o.a with phase := 3, til := o.b }) := by
  simp [doR, hk]
theorem do_13 (hk : o.kind = 13) : doR s o = (setJ s o.a { jobA s o.a with epoch := o.b }) := by
  simp [doR, hk]
theorem do_14 (hk : o.kind = 14) : doR s o = (letGoD s o.a 0) := by
  simp [doR, hk]
theorem do_15 (hk : o.kind = 15) : doR s o = (letGoD s o.a 4) := by
  simp [doR, hk]
theorem do_16 (hk : o.kind = 16) : doR s o = (setN s o.a { nodeA s o.a with cordon := true }) := by
  simp [doR, hk]
theorem do_17 (hk : o.kind = 17) : doR s o = (setN s o.a { nodeA s o.a with cordon := false }) := by
  simp [doR, hk]
theorem do_18 (hk : o.kind = 18) : doR s o = (setN s o.a { nodeA s o.a with moving := true }) := by
  simp [doR, hk]
theorem do_19 (hk : o.kind = 19) : doR s o = (setN s o.a { nodeA s o.a with moving := false, cordon := false, version := o.b }) := by
  simp [doR, hk]
theorem do_20 (hk : o.kind = 20) : doR s o = (setN (setJ s o.a { jobA s o.a with nodes := leftTo (jobA s o.a).nodes o.b 6 }) o.b { nodeA s o.b with job := 0 }) := by
  simp [doR, hk]
theorem do_21 (hk : o.kind = 21) : doR s o = ({ s with term := s.term + 1 }) := by
  simp [doR, hk]
end
theorem why_job {c : ConfD} {s : StateD} {o : OpD} (ho : opOkB o = true) (hk : jobK o.kind = true) (h : whyR c s o = 0) : 1 ≤ o.a ∧ o.a ≤ s.jobs.length := by
  by_cases hq : o.a < 1 ∨ (s.jobs.length : Int) < o.a
  · exfalso
    unfold jobK at hk
    have hk := of_decide_eq_true hk
    rcases hk with hk | hk | hk | hk | hk | hk | hk | hk | hk <;>
      simp [whyR, ho, hk, jobK, hq] at h
  · omega
theorem why_node {c : ConfD} {s : StateD} {o : OpD} (ho : opOkB o = true) (hk : nodeK o.kind = true) (h : whyR c s o = 0) : o.a < s.nodes.length := by
  by_cases hq : (s.nodes.length : Int) ≤ o.a
  · exfalso
    unfold nodeK at hk
    have hk := of_decide_eq_true hk
    rcases hk with hk | hk | hk | hk | hk | hk <;>
      simp [whyR, ho, hk, jobK, nodeK, hq] at h
  · omega
def hold9S (c : ConfD) (s : StateD) (o : OpD) (j' : JobD) (k : Nat) : St := ⟨[(5, .ptr 2 0), (6, .ptr 3 0), (8, .ptr 6 0), (10, .int k)], [some (.box 23 [.int c.nodes, .int c.queues, .int c.quota, .int c.wave, .int c.lease, .int c.retry, .int c.deadline, .int c.room, .int c.disk]),
  some (.box 27 [nodesV s.nodes, jobsV s.jobs, .int s.goal, .int s.prior, .int s.mode, .int s.term]),
  some (.box 35 [.int 9, .int o.a, .int o.b, .int o.c, .int o.d, .int o.e, .int o.f]),
  some (.box 27 [.d (.val (.slice none 0 0)), .d (.val (.slice none 0 0)), .int 0, .int 0, .int 0, .int 0]),
  some (.dat 50 5 ((updTo (takesA o.b o.a) s.nodes k).map nodeR)), some (.dat 47 12 ((s.jobs.set (o.a - 1).toNat j').map jobR)), some (.box 27 [.sl 4 s.nodes.length 5 0 s.nodes.length, .sl 5 s.jobs.length 12 0 s.jobs.length, .int s.goal, .int s.prior, .int s.mode, .int s.term])]⟩
def shrink9S (c : ConfD) (s : StateD) (o : OpD) (m : Int) (k : Nat) : St := ⟨[(5, .ptr 2 0), (6, .ptr 3 0), (8, .ptr 6 0), (11, .int (leftTo m o.b k)), (12, .int k)], [some (.box 23 [.int c.nodes, .int c.queues, .int c.quota, .int c.wave, .int c.lease, .int c.retry, .int c.deadline, .int c.room, .int c.disk]),
  some (.box 27 [nodesV s.nodes, jobsV s.jobs, .int s.goal, .int s.prior, .int s.mode, .int s.term]),
  some (.box 35 [.int 20, .int o.a, .int o.b, .int o.c, .int o.d, .int o.e, .int o.f]),
  some (.box 27 [.d (.val (.slice none 0 0)), .d (.val (.slice none 0 0)), .int 0, .int 0, .int 0, .int 0]),
  some (.dat 50 5 (s.nodes.map nodeR)), some (.dat 47 12 (s.jobs.map jobR)), some (.box 27 [.sl 4 s.nodes.length 5 0 s.nodes.length, .sl 5 s.jobs.length 12 0 s.jobs.length, .int s.goal, .int s.prior, .int s.mode, .int s.term])]⟩
theorem leftTo_le (m b : Int) : ∀ k : Nat, k ≤ 6 → 0 ≤ leftTo m b k ∧ leftTo m b k < 2 ^ k
  | 0, _ => by simp [leftTo]
  | k + 1, h => by
    have := leftTo_le m b k (by omega)
    unfold leftTo
    have hp : (2 : Int) ^ (k + 1) = 2 * 2 ^ k := by rw [Int.pow_succ]; omega
    have h0 : (0 : Int) < 2 ^ k := Int.pow_pos (by decide)
    split <;> omega
end Dv
