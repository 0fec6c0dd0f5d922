/- The logical machine and its plain laws: parts T10, T11, T12, T13, proved sound. -/
import Derived.Test.YtcanhhnmfkdclaaGreatDoorTA
import Derived.Test.YtcanhhnmfkdclaaGreatDoorTS
import Derived.Test.YtcanhhnmfkdclaaGreatDoorT9
import Derived.Test.YtcanhhnmfkdclaaGreatDoorQA
import Derived.Test.YtcanhhnmfkdclaaGreatDoorSR
import Derived.Maps.OwnIn
import Derived.Maps.Views
set_option linter.unusedVariables false
set_option linter.unusedSimpArgs false
namespace Dv
open Go Go.Proofs
variable {G : Nat → Option (List DV)}

def ir137 : Nat × C × List RV := (46,
(.seq (.reg [qo 3 (.box 27 (.t 0)),
 qo 6 (.mv (qk 0))])
 (.seq (.seq (.reg [qm 8 1,
 qo 9 (.bin .lss (.t 8) (qk 1)),
 qm 10 9,
 qg 11 (.mv (.t 1)) 10 false,
 qg 12 (.fad 1 (.t 3)) 10 false,
 qg 13 (.ld1 (.t 12)) 10 false,
 qg 14 (.len (.t 13)) 10 false,
 qg 15 (.bin .gtr (.t 11) (.t 14)) 10 false,
 qo 16 (.pick (.t 10) qt (.t 15))])
 (.cond (.t 16) (.seq (.reg [qo 6 (.mv (.c (.val (.int .i64 (-1)))))])
 .ret)
 .skip))
 (.seq (.reg [qo 17 (.fad 1 (.t 3)),
 qo 18 (.ld1 (.t 17)),
 qm 19 1,
 qo 20 (.bin .sub (.t 19) (qk 1)),
 qo 21 (.ixa 12 (.t 18) (.t 20)),
 qo 22 (.ldn 12 (.t 21)),
 qo 7 (.new 47 [q0,q0,q0,q0,q0,q0,q0,q0,q0,q0,q0,q0]),
 qn (.st 12 (.t 7) (.t 22))])
 (.seq (.seq (.reg [qo 23 (.fad 6 (.t 7)),
 qo 24 (.ld1 (.t 23))])
 (.block 0 (.seq (.reg [qo 26 (.bin .eql (.t 24) (qk 1)),
 qm 25 26])
 (.cond (.t 25) (.seq (.reg [qm 27 2,
 qo 28 (.fad 4 (.t 7)),
 qo 29 (.ld1 (.t 28)),
 qo 30 (.bin .add (.t 27) (.t 29)),
 qm 6 30])
 .ret)
 (.seq (.reg [qo 32 (.bin .eql (.t 24) (qk 2)),
 qm 31 32])
 (.cond (.t 31) (.seq (.reg [qm 33 2,
 qo 34 (.fad 9 (.t 7)),
 qo 35 (.ld1 (.t 34)),
 qo 36 (.fad 4 (.t 7)),
 qo 37 (.ld1 (.t 36)),
 qo 38 (.bin .add (.t 35) (.t 37)),
 qo 39 (.max (.t 33) (.t 38)),
 qm 6 39])
 .ret)
 (.seq (.reg [qo 41 (.bin .eql (.t 24) (qk 3)),
 qm 40 41])
 (.cond (.t 40) (.seq (.reg [qm 42 2,
 qo 43 (.fad 10 (.t 7)),
 qo 44 (.ld1 (.t 43)),
 qo 45 (.max (.t 42) (.t 44)),
 qm 6 45])
 .ret)
 .skip))))))))
 (.seq (.reg [qo 6 (.mv (.c (.val (.int .i64 (-1)))))])
 .ret))))),
[(.t 6)])
theorem irOk137 : convFn Tryz.prog Tryz.f137 = some ir137 := by kernel_rfl
def ir121 : Nat × C × List RV := (39,
(.seq (.reg [qo 3 (.box 27 (.t 0)),
 qo 6 (.mv (qk 0))])
 (.seq (.reg [qo 11 (.ldn 6 (.t 3)),
 qo 12 (.call (.f 83) [(.t 11)]),
 qm 7 12])
 (.seq (.seq (.reg [qo 13 (.fad 1 (.t 3)),
 qo 14 (.ld1 (.t 13)),
 qo 15 (.len (.t 14)),
 qo 16 (.mv (qk 0))])
 (.block 0 (.loop (.seq (.reg [qo 17 (.bin .lss (.t 16) (.t 15))])
 (.seq (.cond (.t 17) .skip
 (.exit 0))
 (.seq (.block 1 (.seq (.reg [qm 18 16,
 qo 19 (.ixa 12 (.t 14) (.t 16)),
 qo 20 (.ldn 12 (.t 19)),
 qo 9 (.new 47 [q0,q0,q0,q0,q0,q0,q0,q0,q0,q0,q0,q0]),
 qm 8 18,
 qn (.st 12 (.t 9) (.t 20))])
 (.seq (.reg [qo 21 (.ldn 6 (.t 3)),
 qm 22 8,
 qo 23 (.bin .add (.t 22) (qk 1)),
 qm 24 1,
 qo 25 (.call (.f 137) [(.t 21),(.t 23),(.t 24)]),
 qm 10 25])
 (.seq (.reg [qm 26 10,
 qo 27 (.bin .geq (.t 26) (qk 0)),
 qm 28 27,
 qg 29 (.mv (.t 10)) 28 true,
 qg 30 (.mv (.t 2)) 28 true,
 qg 31 (.bin .leq (.t 29) (.t 30)) 28 true,
 qo 32 (.pick (.t 28) (.t 31) qf)])
 (.cond (.t 32) (.reg [qm 33 7,
 qo 34 (.fad 8 (.t 9)),
 qo 35 (.ld1 (.t 34)),
 qo 36 (.bin .or (.t 33) (.t 35)),
 qm 7 36])
 .skip)))))
 (.reg [qo 37 (.bin .add (.t 16) (qk 1)),
 qm 16 37])))))))
 (.seq (.reg [qm 38 7,
 qm 6 38])
 .ret)))),
[(.t 6)])
theorem irOk121 : convFn Tryz.prog Tryz.f121 = some ir121 := by kernel_rfl
def ir84 : Nat × C × List RV := (24,
(.seq (.reg [qo 2 (.box 27 (.t 0)),
 qo 4 (.mv qf)])
 (.seq (.reg [qm 5 1,
 qo 6 (.bin .geq (.t 5) (qk 1)),
 qm 7 6,
 qg 8 (.mv (.t 1)) 7 true,
 qg 9 (.fad 1 (.t 2)) 7 true,
 qg 10 (.ld1 (.t 9)) 7 true,
 qg 11 (.len (.t 10)) 7 true,
 qg 12 (.bin .leq (.t 8) (.t 11)) 7 true,
 qo 13 (.pick (.t 7) (.t 12) qf),
 qm 14 13,
 qg 15 (.fad 1 (.t 2)) 14 true,
 qg 16 (.ld1 (.t 15)) 14 true,
 qg 17 (.mv (.t 1)) 14 true,
 qg 18 (.bin .sub (.t 17) (qk 1)) 14 true,
 qg 19 (.ixa 12 (.t 16) (.t 18)) 14 true,
 qg 20 (.fad 6 (.t 19)) 14 true,
 qg 21 (.ld1 (.t 20)) 14 true,
 qg 22 (.bin .eql (.t 21) (qk 0)) 14 true,
 qo 23 (.pick (.t 14) (.t 22) qf),
 qm 4 23])
 .ret)),
[(.t 4)])
theorem irOk84 : convFn Tryz.prog Tryz.f84 = some ir84 := by kernel_rfl
def ir87 : Nat × C × List RV := (53,
(.seq (.reg [qo 3 (.box 27 (.t 0)),
 qo 6 (.mv (qk 0))])
 (.seq (.seq (.reg [qm 9 1,
 qo 10 (.bin .lss (.t 9) (qk 1)),
 qm 11 10,
 qg 12 (.mv (.t 1)) 11 false,
 qg 13 (.fad 1 (.t 3)) 11 false,
 qg 14 (.ld1 (.t 13)) 11 false,
 qg 15 (.len (.t 14)) 11 false,
 qg 16 (.bin .gtr (.t 12) (.t 15)) 11 false,
 qo 17 (.pick (.t 11) qt (.t 16))])
 (.cond (.t 17) (.seq (.reg [qo 6 (.mv (.c (.val (.int .i64 (-1)))))])
 .ret)
 .skip))
 (.seq (.reg [qo 18 (.fad 1 (.t 3)),
 qo 19 (.ld1 (.t 18)),
 qm 20 1,
 qo 21 (.bin .sub (.t 20) (qk 1)),
 qo 22 (.ixa 12 (.t 19) (.t 21)),
 qo 23 (.ldn 12 (.t 22)),
 qo 7 (.new 47 [q0,q0,q0,q0,q0,q0,q0,q0,q0,q0,q0,q0]),
 qn (.st 12 (.t 7) (.t 23))])
 (.seq (.reg [qo 8 (.mv (.c (.val (.int .i64 (-1)))))])
 (.seq (.seq (.reg [qo 24 (.fad 6 (.t 7)),
 qo 25 (.ld1 (.t 24)),
 qo 26 (.bin .eql (.t 25) (qk 1))])
 (.cond (.t 26) (.reg [qm 27 2,
 qo 28 (.fad 4 (.t 7)),
 qo 29 (.ld1 (.t 28)),
 qo 30 (.bin .add (.t 27) (.t 29)),
 qm 8 30])
 .skip))
 (.seq (.seq (.reg [qo 31 (.fad 6 (.t 7)),
 qo 32 (.ld1 (.t 31)),
 qo 33 (.bin .eql (.t 32) (qk 2))])
 (.cond (.t 33) (.reg [qo 34 (.fad 9 (.t 7)),
 qo 35 (.ld1 (.t 34)),
 qo 36 (.fad 4 (.t 7)),
 qo 37 (.ld1 (.t 36)),
 qo 38 (.bin .add (.t 35) (.t 37)),
 qm 8 38])
 .skip))
 (.seq (.seq (.reg [qo 39 (.fad 6 (.t 7)),
 qo 40 (.ld1 (.t 39)),
 qo 41 (.bin .eql (.t 40) (qk 3))])
 (.cond (.t 41) (.reg [qo 42 (.fad 10 (.t 7)),
 qo 43 (.ld1 (.t 42)),
 qm 8 43])
 .skip))
 (.seq (.seq (.reg [qm 44 8,
 qo 45 (.bin .geq (.t 44) (qk 0)),
 qm 46 45,
 qg 47 (.mv (.t 8)) 46 true,
 qg 48 (.mv (.t 2)) 46 true,
 qg 49 (.bin .lss (.t 47) (.t 48)) 46 true,
 qo 50 (.pick (.t 46) (.t 49) qf)])
 (.cond (.t 50) (.reg [qm 51 2,
 qm 8 51])
 .skip))
 (.seq (.reg [qm 52 8,
 qm 6 52])
 .ret))))))))),
[(.t 6)])
theorem irOk87 : convFn Tryz.prog Tryz.f87 = some ir87 := by kernel_rfl
def ir88 : Nat × C × List RV := (46,
(.seq (.reg [qo 3 (.box 27 (.t 0)),
 qo 6 (.mv (qk 0))])
 (.seq (.reg [qo 7 (.mv (qk 0)),
 qo 8 (.mv (qk 1))])
 (.seq (.seq (.reg [qo 9 (.mv (qk 0))])
 (.block 0 (.loop (.seq (.seq (.reg [qm 12 9,
 qo 13 (.fad 0 (.t 3)),
 qo 14 (.ld1 (.t 13)),
 qo 15 (.len (.t 14)),
 qo 16 (.bin .lss (.t 12) (.t 15))])
 (.cond (.t 16) .skip
 (.exit 0)))
 (.seq (.block 1 (.seq (.reg [qo 19 (.fad 0 (.t 3)),
 qo 20 (.ld1 (.t 19)),
 qm 21 9,
 qo 22 (.ixa 5 (.t 20) (.t 21)),
 qo 23 (.ldn 5 (.t 22)),
 qo 10 (.new 49 [(.val (.bool false)),(.val (.bool false)),(.val (.bool false)),q0,q0]),
 qn (.st 5 (.t 10) (.t 23))])
 (.seq (.reg [qo 24 (.ldn 6 (.t 3)),
 qo 25 (.fad 4 (.t 10)),
 qo 26 (.ld1 (.t 25)),
 qm 27 1,
 qo 28 (.call (.f 87) [(.t 24),(.t 26),(.t 27)]),
 qm 11 28])
 (.seq (.seq (.reg [qo 29 (.ldn 5 (.t 10)),
 qo 30 (.call (.f 68) [(.t 29)]),
 qm 31 30,
 qg 32 (.mv (.t 11)) 31 false,
 qg 33 (.bin .geq (.t 32) (qk 0)) 31 false,
 qg 34 (.mv (.t 33)) 31 false,
 qg 35 (.mv (.t 11)) 34 true,
 qg 36 (.mv (.t 2)) 34 true,
 qg 37 (.bin .leq (.t 35) (.t 36)) 34 true,
 qg 38 (.pick (.t 34) (.t 37) qf) 31 false,
 qo 39 (.pick (.t 31) qt (.t 38))])
 (.cond (.t 39) (.reg [qm 40 7,
 qm 41 8,
 qo 42 (.bin .add (.t 40) (.t 41)),
 qm 7 42])
 .skip))
 (.reg [qm 43 8,
 qo 44 (.bin .mul (.t 43) (qk 2)),
 qm 8 44])))))
 (.reg [qm 17 9,
 qo 18 (.bin .add (.t 17) (qk 1)),
 qm 9 18]))))))
 (.seq (.reg [qm 45 7,
 qm 6 45])
 .ret)))),
[(.t 6)])
theorem irOk88 : convFn Tryz.prog Tryz.f88 = some ir88 := by kernel_rfl


def TimeR (now : Int) : Prop := 0 ≤ now ∧ now ≤ 1000000
set_option maxHeartbeats 4000000 in
theorem end_tri (s : StateD) (h : FitS s) (job now : Int) (h0 : TimeR now) : Tri Tryz.prog G 137 [stateV s, .int job, .int now] [] (.int (endS s job now)) [] := by
  refine tri_W0 Tryz.func137 (by decide) irOk137 (Nat.le_of_ble_eq_true rfl) rfl ?_
  simp only [ir137,go_sem,simprocAttr]
  have hj := h.jobs
  obtain ⟨h01, h02⟩ := h0
  unfold endS
  by_cases h1 : job < 1
  · simp only [decide_eq_true h1,h1,true_or,if_true,go_sem,simprocAttr]
  simp only [decide_eq_false h1,h1,false_or,List.length_map,go_sem,simprocAttr]
  by_cases h2 : (s.jobs.length : Int) < job
  · simp only [decide_eq_true (show job > (s.jobs.length : Int) from h2),h2,true_or,if_true,go_sem,simprocAttr]
  simp only [decide_eq_false (show ¬ job > (s.jobs.length : Int) from h2),h2,false_or,if_false,go_sem,simprocAttr]
  obtain ⟨i, rfl⟩ : ∃ i : Nat, job = ((i + 1 : Nat) : Int) := ⟨(job - 1).toNat, by omega⟩
  have hi : i < s.jobs.length := by omega
  have e1 := succ_pred i (by omega)
  have e0 : (((i + 1 : Nat) : Int) - 1).toNat = i := by omega
  have hgi := get_mapD (f := jobR) zeroJob hi
  have hE : EndR (s.jobs.getD i zeroJob) := h.ends i hi
  generalize hx : s.jobs.getD i zeroJob = x at hgi hE
  obtain ⟨w1, w2, w3⟩ := hE
  simp only [jobR] at hgi
  simp only [e0,e1,hx,hgi,go_sem,simprocAttr]
  unfold endJ
  by_cases h3 : x.phase = 1
  · simp only [show (x.phase == 1) = true from beq_iff_eq.2 h3,if_pos h3,wrap_in (show -9223372036854775808 ≤ now + x.work by omega) (show now + x.work ≤ 9223372036854775807 by omega),go_sem,simprocAttr]
  simp only [show (x.phase == 1) = false from beq_eq_false_iff_ne.2 h3,if_neg h3,go_sem,simprocAttr]
  by_cases h4 : x.phase = 2
  · simp only [show (x.phase == 2) = true from beq_iff_eq.2 h4,if_pos h4,wrap_in (show -9223372036854775808 ≤ x.since + x.work by omega) (show x.since + x.work ≤ 9223372036854775807 by omega),maxI,go_sem,simprocAttr]
  simp only [show (x.phase == 2) = false from beq_eq_false_iff_ne.2 h4,if_neg h4,go_sem,simprocAttr]
  by_cases h5 : x.phase = 3
  · simp only [show (x.phase == 3) = true from beq_iff_eq.2 h5,if_pos h5,maxI,go_sem,simprocAttr]
  simp only [show (x.phase == 3) = false from beq_eq_false_iff_ne.2 h5,if_neg h5,go_sem,simprocAttr]

set_option maxHeartbeats 4000000 in
theorem end16_tri (s : StateD) (h : FitS s) (job now : Int) (h0 : TimeR now) : Tri Tryz.prog G 87 [stateV s, .int job, .int now] [] (.int (endS s job now)) [] := by
  refine tri_W0 Tryz.func87 (by decide) irOk87 (Nat.le_of_ble_eq_true rfl) rfl ?_
  simp only [ir87,go_sem,simprocAttr]
  have hj := h.jobs
  obtain ⟨h01, h02⟩ := h0
  unfold endS
  by_cases h1 : job < 1
  · simp only [decide_eq_true h1,h1,true_or,if_true,go_sem,simprocAttr]
  simp only [decide_eq_false h1,h1,false_or,List.length_map,go_sem,simprocAttr]
  by_cases h2 : (s.jobs.length : Int) < job
  · simp only [decide_eq_true (show job > (s.jobs.length : Int) from h2),h2,true_or,if_true,go_sem,simprocAttr]
  simp only [decide_eq_false (show ¬ job > (s.jobs.length : Int) from h2),h2,false_or,if_false,go_sem,simprocAttr]
  obtain ⟨i, rfl⟩ : ∃ i : Nat, job = ((i + 1 : Nat) : Int) := ⟨(job - 1).toNat, by omega⟩
  have hi : i < s.jobs.length := by omega
  have e1 := succ_pred i (by omega)
  have e0 : (((i + 1 : Nat) : Int) - 1).toNat = i := by omega
  have hgi := get_mapD (f := jobR) zeroJob hi
  have hE : EndR (s.jobs.getD i zeroJob) := h.ends i hi
  have hq := end_eq hE h01
  generalize hx : s.jobs.getD i zeroJob = x at hgi hE hq
  obtain ⟨w1, w2, w3⟩ := hE
  simp only [jobR] at hgi
  simp only [e0,e1,hx,hgi,← hq,go_sem,simprocAttr]
  unfold end16 e16
  by_cases h3 : x.phase = 1
  · simp only [h3,show ((1 : Int) == 1) = true from rfl,show ((1 : Int) == 2) = false from rfl,show ((1 : Int) == 3) = false from rfl,show ¬ (1 : Int) = 3 by decide,show ¬ (1 : Int) = 2 by decide,if_true,if_false,wrap_in (show -9223372036854775808 ≤ now + x.work by omega) (show now + x.work ≤ 9223372036854775807 by omega),decide_eq_true (show now + x.work ≥ 0 by omega),decide_eq_false (show ¬ now + x.work < now by omega),show ¬ (now + x.work < now) by omega,and_false,go_sem,simprocAttr]
  by_cases h4 : x.phase = 2
  · simp only [h4,show ((2 : Int) == 1) = false from rfl,show ((2 : Int) == 2) = true from rfl,show ((2 : Int) == 3) = false from rfl,show ¬ (2 : Int) = 3 by decide,if_true,if_false,wrap_in (show -9223372036854775808 ≤ x.since + x.work by omega) (show x.since + x.work ≤ 9223372036854775807 by omega),decide_eq_true (show x.since + x.work ≥ 0 by omega),show 0 ≤ x.since + x.work by omega,true_and,go_sem,simprocAttr]
    by_cases h5 : x.since + x.work < now
    · simp only [decide_eq_true h5,if_pos h5,go_sem,simprocAttr]
    · simp only [decide_eq_false h5,if_neg h5,go_sem,simprocAttr]
  by_cases h6 : x.phase = 3
  · simp only [h6,show ((3 : Int) == 1) = false from rfl,show ((3 : Int) == 2) = false from rfl,show ((3 : Int) == 3) = true from rfl,if_true,if_false,decide_eq_true (show x.til ≥ 0 by omega),show 0 ≤ x.til by omega,true_and,go_sem,simprocAttr]
    by_cases h5 : x.til < now
    · simp only [decide_eq_true h5,if_pos h5,go_sem,simprocAttr]
    · simp only [decide_eq_false h5,if_neg h5,go_sem,simprocAttr]
  simp only [show (x.phase == 1) = false from beq_eq_false_iff_ne.2 h3,show (x.phase == 2) = false from beq_eq_false_iff_ne.2 h4,show (x.phase == 3) = false from beq_eq_false_iff_ne.2 h6,if_neg h3,if_neg h4,if_neg h6,show (decide ((-1 : Int) ≥ 0)) = false from rfl,show ¬ (0 : Int) ≤ -1 by decide,false_and,if_false,go_sem,simprocAttr]

set_option maxHeartbeats 4000000 in
theorem queued_tri (s : StateD) (hn : s.jobs.length ≤ 1000) (job : Int) : Tri Tryz.prog G 84 [stateV s, .int job] [] (.bool (queuedI s job)) [] := by
  refine tri_W0 Tryz.func84 (by decide) irOk84 (Nat.le_of_ble_eq_true rfl) rfl ?_
  simp only [ir84,go_sem,simprocAttr]
  unfold queuedI
  by_cases h1 : job < 1
  · simp only [decide_eq_false (show ¬ job ≥ 1 by omega),show ¬ (1 ≤ job) by omega,false_and,decide_false,go_sem,simprocAttr]
  simp only [decide_eq_true (show job ≥ 1 by omega),show 1 ≤ job by omega,true_and,List.length_map,go_sem,simprocAttr]
  by_cases h2 : (s.jobs.length : Int) < job
  · simp only [decide_eq_false (show ¬ job ≤ (s.jobs.length : Int) by omega),show ¬ (job ≤ (s.jobs.length : Int)) by omega,false_and,decide_false,go_sem,simprocAttr]
  simp only [decide_eq_true (show job ≤ (s.jobs.length : Int) by omega),show job ≤ (s.jobs.length : Int) by omega,true_and,go_sem,simprocAttr]
  obtain ⟨i, rfl⟩ : ∃ i : Nat, job = ((i + 1 : Nat) : Int) := ⟨(job - 1).toNat, by omega⟩
  have hi : i < s.jobs.length := by omega
  have e1 := succ_pred i (by omega)
  have e0 : (((i + 1 : Nat) : Int) - 1).toNat = i := by omega
  have hgi := get_mapD (f := jobR) zeroJob hi
  generalize hx : s.jobs.getD i zeroJob = x at hgi
  simp only [jobR] at hgi
  simp only [e0,e1,hx,hgi,go_sem,simprocAttr]
  by_cases h3 : x.phase = 0
  · simp only [h3,beq_self_eq_true,decide_true,go_sem,simprocAttr]
  · simp only [show (x.phase == 0) = false from beq_eq_false_iff_ne.2 h3,h3,decide_false,go_sem,simprocAttr]

theorem ok_split (e t : Int) : okE e t = if 0 ≤ e then decide (e ≤ t) else false := by
  unfold okE
  split
  · rw [decide_eq_true (by assumption), Bool.true_and]
  · rw [decide_eq_false (by assumption), Bool.false_and]
def atSt (s : StateD) (now t : Int) (k : Nat) : St := ⟨[(1, .int now), (2, .int t), (3, .ptr 0 0), (7, .int (atN s now t k)), (14, jobsV s.jobs), (15, .int s.jobs.length), (16, .int k)], [some (boxS s)]⟩
set_option maxHeartbeats 4000000 in
theorem at_tri (s : StateD) (h : FitS s) (now t : Int) (h0 : TimeR now) : Tri Tryz.prog G 121 [stateV s, .int now, .int t] [] (.int (atN s now t s.jobs.length)) [] := by
  refine tri_W0 Tryz.func121 (by decide) irOk121 (Nat.le_of_ble_eq_true rfl) rfl ?_
  simp only [ir121,go_sem,simprocAttr]
  have hn := h.jobs
  refine W_calld (fopen_tri s h.nodes) rfl rfl rfl rfl ?_; simp only [go_sem,simprocAttr]
  refine W_loopI [1, 2, 3, 7, 14, 15, 16] [] (fun k : Nat => k ≤ s.jobs.length) (fun k => s.jobs.length - k) (atSt s now t) 0 ?_ (Nat.zero_le _) (fun k hk => ?_)
  · simp only [atSt,boxS,atN,Int.natCast_zero,List.length_map,go_sem,simprocAttr]
  simp only [atSt,boxS,List.length_map,go_sem,simprocAttr]
  by_cases hlt : k < s.jobs.length
  · have hg := get_mapD (f := jobR) zeroJob hlt
    have he := endS_at (s := s) hlt now
    have hst : atN s now t (k + 1) = if okE (endJ (joA s k) now) t = true then orI .i64 (atN s now t k) (joA s k).nodes else atN s now t k := rfl
    have hjo : joA s k = s.jobs.getD k zeroJob := rfl
    generalize s.jobs.getD k zeroJob = x at hg hjo
    rw [hjo] at he hst
    simp only [jobR] at hg
    simp only [decide_eq_true (show ((k : Nat) : Int) < ((s.jobs.length : Nat) : Int) by omega),hg,wrap_succ (show k < 9223372036854775807 by omega),go_sem,simprocAttr]
    refine W_calld (end_tri s h ((k + 1 : Nat) : Int) now h0) rfl rfl rfl rfl ?_; simp only [go_sem,simprocAttr]
    simp only [he,go_sem,simprocAttr]
    rw [ok_split] at hst
    generalize endJ x now = e at hst ⊢
    by_cases h1 : 0 ≤ e
    · simp only [if_pos h1] at hst
      simp only [decide_eq_true (show e ≥ 0 from h1),go_sem,simprocAttr]
      by_cases h2 : e ≤ t
      · rw [decide_eq_true h2, if_pos rfl] at hst
        simp only [decide_eq_true h2,go_sem,simprocAttr]
        refine W_lpI (k + 1) ?_ ?_ (by omega) (by omega)
        · simp only [go_sem,simprocAttr]
        · simp only [atSt,boxS,hst,wrap_succ (show k < 9223372036854775807 by omega),go_sem,simprocAttr]
      · rw [decide_eq_false h2, if_neg (by decide)] at hst
        simp only [decide_eq_false h2,go_sem,simprocAttr]
        refine W_lpI (k + 1) ?_ ?_ (by omega) (by omega)
        · simp only [go_sem,simprocAttr]
        · simp only [atSt,boxS,hst,wrap_succ (show k < 9223372036854775807 by omega),go_sem,simprocAttr]
    · simp only [if_neg h1,if_neg (show ¬ false = true by decide)] at hst
      simp only [decide_eq_false (show ¬ e ≥ 0 from h1),go_sem,simprocAttr]
      refine W_lpI (k + 1) ?_ ?_ (by omega) (by omega)
      · simp only [go_sem,simprocAttr]
      · simp only [atSt,boxS,hst,wrap_succ (show k < 9223372036854775807 by omega),go_sem,simprocAttr]
  · obtain rfl : k = s.jobs.length := by omega
    simp only [decide_eq_false (show ¬ ((s.jobs.length : Nat) : Int) < ((s.jobs.length : Nat) : Int) by omega),go_sem,simprocAttr]

def at16St (s : StateD) (now t : Int) (k : Nat) : St := ⟨[(1, .int now), (2, .int t), (3, .ptr 0 0), (7, .int (maskTo (thereB s now t) k)), (8, .int (2 ^ k)), (9, .int k)], [some (boxS s)]⟩
set_option maxHeartbeats 4000000 in
theorem at16_tri (s : StateD) (h : FitS s) (now t : Int) (h0 : TimeR now) : Tri Tryz.prog G 88 [stateV s, .int now, .int t] [] (.int (atS s now t)) [] := by
  refine tri_W0 Tryz.func88 (by decide) irOk88 (Nat.le_of_ble_eq_true rfl) rfl ?_
  simp only [ir88,go_sem,simprocAttr]
  have hn := h.nodes
  refine W_loopI [1, 2, 3, 7, 8, 9] [] (fun k : Nat => k ≤ s.nodes.length) (fun k => s.nodes.length - k) (at16St s now t) 0 ?_ (Nat.zero_le _) (fun k hk => ?_)
  · simp only [at16St,boxS,maskTo,Int.natCast_zero,Int.pow_zero,go_sem,simprocAttr]
  simp only [at16St,boxS,List.length_map,go_sem,simprocAttr]
  by_cases hlt : k < s.nodes.length
  · have hg := get_mapD (f := nodeR) zeroNode hlt
    have hm := mask_b (f := thereB s now t) (k := k) (b := thereB s now t k) rfl
    have hth : thereB s now t k = (freeB (s.nodes.getD k zeroNode) || okE (endS s (s.nodes.getD k zeroNode).job now) t) := rfl
    have ho := sum6 (thereB s now t) k (by omega)
    have hd := dbl k (by omega)
    generalize s.nodes.getD k zeroNode = n at hg hth
    simp only [nodeR] at hg
    simp only [decide_eq_true (show ((k : Nat) : Int) < ((s.nodes.length : Nat) : Int) by omega),hg,go_sem,simprocAttr]
    refine W_calld (end16_tri s h n.job now h0) rfl rfl rfl rfl ?_; simp only [go_sem,simprocAttr]
    refine W_calld (free9_tri n) rfl rfl rfl rfl ?_; simp only [go_sem,simprocAttr]
    rw [hth, ok_split] at hm
    generalize endS s n.job now = e at hm ⊢
    cases hf : freeB n with
    | true =>
      rw [hf, Bool.true_or, if_pos rfl] at hm
      simp only [ho,hd,go_sem,simprocAttr]
      refine W_lpI (k + 1) ?_ ?_ (by omega) (by omega)
      · simp only [go_sem,simprocAttr]
      · simp only [at16St,boxS,hm,wrap_succ (show k < 9223372036854775807 by omega),go_sem,simprocAttr]
    | false =>
      rw [hf, Bool.false_or] at hm
      simp only [go_sem,simprocAttr]
      by_cases h1 : 0 ≤ e
      · simp only [if_pos h1] at hm
        simp only [decide_eq_true (show e ≥ 0 from h1),go_sem,simprocAttr]
        by_cases h2 : e ≤ t
        · rw [decide_eq_true h2, if_pos rfl] at hm
          simp only [decide_eq_true h2,ho,hd,go_sem,simprocAttr]
          refine W_lpI (k + 1) ?_ ?_ (by omega) (by omega)
          · simp only [go_sem,simprocAttr]
          · simp only [at16St,boxS,hm,wrap_succ (show k < 9223372036854775807 by omega),go_sem,simprocAttr]
        · rw [decide_eq_false h2, if_neg (by decide)] at hm
          simp only [decide_eq_false h2,hd,go_sem,simprocAttr]
          refine W_lpI (k + 1) ?_ ?_ (by omega) (by omega)
          · simp only [go_sem,simprocAttr]
          · simp only [at16St,boxS,hm,wrap_succ (show k < 9223372036854775807 by omega),go_sem,simprocAttr]
      · simp only [if_neg h1,if_neg (show ¬ false = true by decide)] at hm
        simp only [decide_eq_false (show ¬ e ≥ 0 from h1),hd,go_sem,simprocAttr]
        refine W_lpI (k + 1) ?_ ?_ (by omega) (by omega)
        · simp only [go_sem,simprocAttr]
        · simp only [at16St,boxS,hm,wrap_succ (show k < 9223372036854775807 by omega),go_sem,simprocAttr]
  · obtain rfl : k = s.nodes.length := by omega
    simp only [decide_eq_false (show ¬ ((s.nodes.length : Nat) : Int) < ((s.nodes.length : Nat) : Int) by omega),atS,go_sem,simprocAttr]
end Dv

namespace Dv
open Go Go.Proofs
variable {G : Nat → Option (List DV)}

def ir62 : Nat × C × List RV := (37,
(.seq (.reg [qo 2 (.box 27 (.t 0)),
 qo 4 (.mv (qk 0)),
 qo 5 (.mv qf)])
 (.seq (.seq (.reg [qm 6 1,
 qo 7 (.bin .lss (.t 6) (qk 1)),
 qm 8 7,
 qg 9 (.mv (.t 1)) 8 false,
 qg 10 (.fad 1 (.t 2)) 8 false,
 qg 11 (.ld1 (.t 10)) 8 false,
 qg 12 (.len (.t 11)) 8 false,
 qg 13 (.bin .gtr (.t 9) (.t 12)) 8 false,
 qo 14 (.pick (.t 8) qt (.t 13)),
 qm 15 14,
 qg 16 (.fad 1 (.t 2)) 15 false,
 qg 17 (.ld1 (.t 16)) 15 false,
 qg 18 (.mv (.t 1)) 15 false,
 qg 19 (.bin .sub (.t 18) (qk 1)) 15 false,
 qg 20 (.ixa 12 (.t 17) (.t 19)) 15 false,
 qg 21 (.fad 6 (.t 20)) 15 false,
 qg 22 (.ld1 (.t 21)) 15 false,
 qg 23 (.bin .neq (.t 22) (qk 0)) 15 false,
 qo 24 (.pick (.t 15) qt (.t 23))])
 (.cond (.t 24) (.seq (.reg [qo 4 (.mv (qk 0)),
 qo 5 (.mv qf)])
 .ret)
 .skip))
 (.seq (.regD [qo 25 (.ldn 6 (.t 2)),
 qo 26 (.fad 1 (.t 2)),
 qd 27 (.ld1 (.t 26)) [1],
 qm 28 1,
 qd 29 (.bin .sub (.t 28) (qk 1)) [3],
 qd 30 (.ixa 12 (.t 27) (.t 29)) [2,1,4,3],
 qd 31 (.ldn 12 (.t 30)) [5,2,1,4,3],
 qo 32 (.ldn 6 (.t 2)),
 qd 33 (.call (.f 83) [(.t 32)]) [7],
 qd 34 (.call (.f 82) [(.t 25),(.t 31),(.t 33)]) [0,6,5,2,1,4,3,8,7],
 qd 35 (.ext (.t 34) 0) [9,0,6,5,2,1,4,3,8,7],
 qd 36 (.ext (.t 34) 1) [9,0,6,5,2,1,4,3,8,7],
 qd 4 (.mv (.t 35)) [10,9,0,6,5,2,1,4,3,8,7,11],
 qd 5 (.mv (.t 36)) [11,9,0,6,5,2,1,4,3,8,7,12,10]])
 .ret))),
[(.t 4),(.t 5)])
theorem irOk62 : convFn Tryz.prog Tryz.f62 = some ir62 := by kernel_rfl
def ir47 : Nat × C × List RV := (37,
(.seq (.reg [qo 2 (.box 27 (.t 0)),
 qo 4 (.mv (qk 0)),
 qo 5 (.mv qf)])
 (.seq (.seq (.reg [qm 6 1,
 qo 7 (.bin .lss (.t 6) (qk 1)),
 qm 8 7,
 qg 9 (.mv (.t 1)) 8 false,
 qg 10 (.fad 1 (.t 2)) 8 false,
 qg 11 (.ld1 (.t 10)) 8 false,
 qg 12 (.len (.t 11)) 8 false,
 qg 13 (.bin .gtr (.t 9) (.t 12)) 8 false,
 qo 14 (.pick (.t 8) qt (.t 13)),
 qm 15 14,
 qg 16 (.fad 1 (.t 2)) 15 false,
 qg 17 (.ld1 (.t 16)) 15 false,
 qg 18 (.mv (.t 1)) 15 false,
 qg 19 (.bin .sub (.t 18) (qk 1)) 15 false,
 qg 20 (.ixa 12 (.t 17) (.t 19)) 15 false,
 qg 21 (.fad 6 (.t 20)) 15 false,
 qg 22 (.ld1 (.t 21)) 15 false,
 qg 23 (.bin .neq (.t 22) (qk 0)) 15 false,
 qo 24 (.pick (.t 15) qt (.t 23))])
 (.cond (.t 24) (.seq (.reg [qo 4 (.mv (qk 0)),
 qo 5 (.mv qf)])
 .ret)
 .skip))
 (.seq (.regD [qo 25 (.ldn 6 (.t 2)),
 qo 26 (.fad 1 (.t 2)),
 qd 27 (.ld1 (.t 26)) [1],
 qm 28 1,
 qd 29 (.bin .sub (.t 28) (qk 1)) [3],
 qd 30 (.ixa 12 (.t 27) (.t 29)) [2,1,4,3],
 qd 31 (.ldn 12 (.t 30)) [5,2,1,4,3],
 qo 32 (.ldn 6 (.t 2)),
 qd 33 (.call (.f 70) [(.t 32)]) [7],
 qd 34 (.call (.f 69) [(.t 25),(.t 31),(.t 33)]) [0,6,5,2,1,4,3,8,7],
 qd 35 (.ext (.t 34) 0) [9,0,6,5,2,1,4,3,8,7],
 qd 36 (.ext (.t 34) 1) [9,0,6,5,2,1,4,3,8,7],
 qd 4 (.mv (.t 35)) [10,9,0,6,5,2,1,4,3,8,7,11],
 qd 5 (.mv (.t 36)) [11,9,0,6,5,2,1,4,3,8,7,12,10]])
 .ret))),
[(.t 4),(.t 5)])
theorem irOk47 : convFn Tryz.prog Tryz.f47 = some ir47 := by kernel_rfl
def ir67 : Nat × C × List RV := (80,
(.seq (.reg [qo 3 (.box 27 (.t 0)),
 qo 6 (.mv (qk 0)),
 qo 7 (.mv (qk 0)),
 qo 8 (.mv qf)])
 (.seq (.seq (.reg [qm 16 1,
 qo 17 (.bin .lss (.t 16) (qk 1)),
 qm 18 17,
 qg 19 (.mv (.t 1)) 18 false,
 qg 20 (.fad 1 (.t 3)) 18 false,
 qg 21 (.ld1 (.t 20)) 18 false,
 qg 22 (.len (.t 21)) 18 false,
 qg 23 (.bin .gtr (.t 19) (.t 22)) 18 false,
 qo 24 (.pick (.t 18) qt (.t 23)),
 qm 25 24,
 qg 26 (.fad 1 (.t 3)) 25 false,
 qg 27 (.ld1 (.t 26)) 25 false,
 qg 28 (.mv (.t 1)) 25 false,
 qg 29 (.bin .sub (.t 28) (qk 1)) 25 false,
 qg 30 (.ixa 12 (.t 27) (.t 29)) 25 false,
 qg 31 (.fad 6 (.t 30)) 25 false,
 qg 32 (.ld1 (.t 31)) 25 false,
 qg 33 (.bin .neq (.t 32) (qk 0)) 25 false,
 qo 34 (.pick (.t 25) qt (.t 33))])
 (.cond (.t 34) (.seq (.reg [qo 6 (.mv (qk 0)),
 qo 7 (.mv (qk 0)),
 qo 8 (.mv qf)])
 .ret)
 .skip))
 (.seq (.reg [qo 9 (.mv (qk 0)),
 qo 10 (.mv (qk 0)),
 qo 11 (.mv qf)])
 (.seq (.seq (.reg [qo 12 (.mv (qk 0))])
 (.block 0 (.loop (.seq (.seq (.reg [qm 35 12,
 qo 36 (.fad 1 (.t 3)),
 qo 37 (.ld1 (.t 36)),
 qo 38 (.len (.t 37)),
 qo 39 (.bin .leq (.t 35) (.t 38))])
 (.cond (.t 39) .skip
 (.exit 0)))
 (.seq (.block 1 (.seq (.reg [qm 42 2,
 qm 13 42])
 (.seq (.seq (.reg [qm 43 12,
 qo 44 (.bin .gtr (.t 43) (qk 0))])
 (.cond (.t 44) (.reg [qo 45 (.ldn 6 (.t 3)),
 qm 46 12,
 qm 47 2,
 qo 48 (.call (.f 87) [(.t 45),(.t 46),(.t 47)]),
 qm 13 48])
 .skip))
 (.seq (.seq (.reg [qm 49 13,
 qo 50 (.bin .lss (.t 49) (qk 0)),
 qm 51 50,
 qg 52 (.mv (.t 11)) 51 false,
 qg 53 (.mv (.t 52)) 51 false,
 qg 54 (.mv (.t 13)) 53 true,
 qg 55 (.mv (.t 9)) 53 true,
 qg 56 (.bin .geq (.t 54) (.t 55)) 53 true,
 qg 57 (.pick (.t 53) (.t 56) qf) 51 false,
 qo 58 (.pick (.t 51) qt (.t 57))])
 (.cond (.t 58) (.exit 1)
 .skip))
 (.seq (.regD [qo 60 (.ldn 6 (.t 3)),
 qo 61 (.fad 1 (.t 3)),
 qd 62 (.ld1 (.t 61)) [1],
 qm 63 1,
 qd 64 (.bin .sub (.t 63) (qk 1)) [3],
 qd 65 (.ixa 12 (.t 62) (.t 64)) [2,1,4,3],
 qd 66 (.ldn 12 (.t 65)) [5,2,1,4,3],
 qo 67 (.ldn 6 (.t 3)),
 qm 68 2,
 qm 69 13,
 qd 70 (.call (.f 88) [(.t 67),(.t 68),(.t 69)]) [7,8,9],
 qd 71 (.call (.f 69) [(.t 60),(.t 66),(.t 70)]) [0,6,5,2,1,4,3,10,7,8,9],
 qd 59 (.mv (.t 71)) [11,0,6,5,2,1,4,3,10,7,8,9],
 qd 72 (.ext (.t 59) 0) [12,11,0,6,5,2,1,4,3,10,7,8,9],
 qd 73 (.ext (.t 59) 1) [12,11,0,6,5,2,1,4,3,10,7,8,9],
 qd 14 (.mv (.t 72)) [13,12,11,0,6,5,2,1,4,3,10,7,8,9],
 qd 15 (.mv (.t 73)) [14,12,11,0,6,5,2,1,4,3,10,7,8,9,15,13]])
 (.seq (.reg [qm 74 15])
 (.cond (.t 74) (.seq (.reg [qm 75 13,
 qm 9 75])
 (.seq (.reg [qm 76 14,
 qm 10 76])
 (.reg [qo 11 (.mv qt)])))
 .skip)))))))
 (.reg [qm 40 12,
 qo 41 (.bin .add (.t 40) (qk 1)),
 qm 12 41]))))))
 (.seq (.reg [qm 77 9,
 qm 78 10,
 qm 79 11,
 qm 6 77,
 qm 7 78,
 qm 8 79])
 .ret))))),
[(.t 6),(.t 7),(.t 8)])
theorem irOk67 : convFn Tryz.prog Tryz.f67 = some ir67 := by kernel_rfl
def ir46 : Nat × C × List RV := (96,
(.seq (.reg [qo 3 (.box 27 (.t 0)),
 qo 6 (.mv (qk 0)),
 qo 7 (.mv qf)])
 (.seq (.seq (.reg [qo 16 (.ldn 6 (.t 3)),
 qm 17 1,
 qo 18 (.call (.f 66) [(.t 16),(.t 17)]),
 qo 19 (.bin .lss (.t 18) (qk 1))])
 (.cond (.t 19) (.seq (.reg [qo 6 (.mv (qk 0)),
 qo 7 (.mv qf)])
 .ret)
 .skip))
 (.seq (.regD [qo 21 (.ldn 6 (.t 3)),
 qo 22 (.ldn 6 (.t 3)),
 qd 23 (.call (.f 45) [(.t 22)]) [1],
 qd 24 (.ixa 1 (.t 23) (qk 0)) [2,1],
 qd 25 (.ld1 (.t 24)) [3,2,1],
 qm 26 2,
 qd 27 (.call (.f 67) [(.t 21),(.t 25),(.t 26)]) [0,4,3,2,1,5],
 qd 20 (.mv (.t 27)) [6,0,4,3,2,1,5],
 qd 28 (.ext (.t 20) 0) [7,6,0,4,3,2,1,5],
 qd 29 (.ext (.t 20) 1) [7,6,0,4,3,2,1,5],
 qd 30 (.ext (.t 20) 2) [7,6,0,4,3,2,1,5],
 qd 8 (.mv (.t 28)) [8,7,6,0,4,3,2,1,5],
 qd 9 (.mv (.t 29)) [9,7,6,0,4,3,2,1,5,11,8],
 qd 10 (.mv (.t 30)) [10,7,6,0,4,3,2,1,5,12,9,11,8]])
 (.seq (.reg [qo 11 (.mv (qk 0))])
 (.seq (.reg [qo 12 (.mv (qk 1))])
 (.seq (.seq (.reg [qo 13 (.mv (qk 0))])
 (.block 0 (.loop (.seq (.seq (.reg [qm 31 13,
 qo 32 (.fad 0 (.t 3)),
 qo 33 (.ld1 (.t 32)),
 qo 34 (.len (.t 33)),
 qo 35 (.bin .lss (.t 31) (.t 34))])
 (.cond (.t 35) .skip
 (.exit 0)))
 (.seq (.block 1 (.seq (.seq (.reg [qo 38 (.fad 0 (.t 3)),
 qo 39 (.ld1 (.t 38)),
 qm 40 13,
 qo 41 (.ixa 5 (.t 39) (.t 40)),
 qo 42 (.ldn 5 (.t 41)),
 qo 43 (.call (.f 68) [(.t 42)]),
 qm 44 43,
 qg 45 (.mv (.t 10)) 44 true,
 qg 46 (.mv (.t 45)) 44 true,
 qg 47 (.mv (.t 9)) 46 true,
 qg 48 (.mv (.t 13)) 46 true,
 qg 49 (.call (.f 55) [(.t 47),(.t 48)]) 46 true,
 qg 50 (.pick (.t 46) (.t 49) qf) 44 true,
 qg 51 (.not (.t 50)) 44 true,
 qo 52 (.pick (.t 44) (.t 51) qf)])
 (.cond (.t 52) (.reg [qm 53 11,
 qm 54 12,
 qo 55 (.bin .add (.t 53) (.t 54)),
 qm 11 55])
 .skip))
 (.reg [qm 56 12,
 qo 57 (.bin .mul (.t 56) (qk 2)),
 qm 12 57])))
 (.reg [qm 36 13,
 qo 37 (.bin .add (.t 36) (qk 1)),
 qm 13 37]))))))
 (.seq (.regD [qo 59 (.ldn 6 (.t 3)),
 qo 60 (.fad 1 (.t 3)),
 qd 61 (.ld1 (.t 60)) [1],
 qm 62 1,
 qd 63 (.bin .sub (.t 62) (qk 1)) [3],
 qd 64 (.ixa 12 (.t 61) (.t 63)) [2,1,4,3],
 qd 65 (.ldn 12 (.t 64)) [5,2,1,4,3],
 qm 66 11,
 qd 67 (.call (.f 69) [(.t 59),(.t 65),(.t 66)]) [0,6,5,2,1,4,3,7],
 qd 58 (.mv (.t 67)) [8,0,6,5,2,1,4,3,7],
 qd 68 (.ext (.t 58) 0) [9,8,0,6,5,2,1,4,3,7],
 qd 69 (.ext (.t 58) 1) [9,8,0,6,5,2,1,4,3,7],
 qd 14 (.mv (.t 68)) [10,9,8,0,6,5,2,1,4,3,7],
 qd 15 (.mv (.t 69)) [11,9,8,0,6,5,2,1,4,3,7,12,10]])
 (.seq (.seq (.reg [qm 70 15])
 (.cond (.t 70) (.seq (.reg [qm 71 14,
 qm 6 71,
 qo 7 (.mv qt)])
 .ret)
 .skip))
 (.seq (.reg [qo 73 (.ldn 6 (.t 3)),
 qm 74 1,
 qo 75 (.call (.f 47) [(.t 73),(.t 74)]),
 qm 72 75,
 qo 76 (.ext (.t 72) 0),
 qo 77 (.ext (.t 72) 1),
 qm 14 76,
 qm 15 77])
 (.seq (.seq (.reg [qm 78 10,
 qm 79 78,
 qg 80 (.mv (.t 15)) 79 true,
 qo 81 (.pick (.t 79) (.t 80) qf),
 qm 82 81,
 qg 83 (.mv (.t 2)) 82 true,
 qg 84 (.fad 1 (.t 3)) 82 true,
 qg 85 (.ld1 (.t 84)) 82 true,
 qg 86 (.mv (.t 1)) 82 true,
 qg 87 (.bin .sub (.t 86) (qk 1)) 82 true,
 qg 88 (.ixa 12 (.t 85) (.t 87)) 82 true,
 qg 89 (.fad 4 (.t 88)) 82 true,
 qg 90 (.ld1 (.t 89)) 82 true,
 qg 91 (.bin .add (.t 83) (.t 90)) 82 true,
 qg 92 (.mv (.t 8)) 82 true,
 qg 93 (.bin .leq (.t 91) (.t 92)) 82 true,
 qo 94 (.pick (.t 82) (.t 93) qf)])
 (.cond (.t 94) (.seq (.reg [qm 95 14,
 qm 6 95,
 qo 7 (.mv qt)])
 .ret)
 .skip))
 (.seq (.reg [qo 6 (.mv (qk 0)),
 qo 7 (.mv qf)])
 .ret))))))))))),
[(.t 6),(.t 7)])
theorem irOk46 : convFn Tryz.prog Tryz.f46 = some ir46 := by kernel_rfl
def ir28 : Nat × C × List RV := (46,
(.seq (.reg [qo 2 (.box 27 (.t 0)),
 qo 4 (.mv (qk 0)),
 qo 5 (.mv (qk 0)),
 qo 6 (.mv qf)])
 (.seq (.reg [qo 11 (.ldn 6 (.t 2)),
 qo 12 (.call (.f 45) [(.t 11)]),
 qm 7 12])
 (.seq (.seq (.reg [qo 8 (.mv (qk 0))])
 (.block 0 (.loop (.seq (.seq (.reg [qm 13 8,
 qm 14 7,
 qo 15 (.len (.t 14)),
 qo 16 (.bin .lss (.t 13) (.t 15))])
 (.cond (.t 16) .skip
 (.exit 0)))
 (.seq (.block 1 (.seq (.regD [qo 20 (.ldn 6 (.t 2)),
 qm 21 7,
 qm 22 8,
 qd 23 (.ixa 1 (.t 21) (.t 22)) [1,2],
 qd 24 (.ld1 (.t 23)) [3,1,2],
 qm 25 1,
 qd 26 (.call (.f 46) [(.t 20),(.t 24),(.t 25)]) [0,4,3,1,2,5],
 qd 19 (.mv (.t 26)) [6,0,4,3,1,2,5],
 qd 27 (.ext (.t 19) 0) [7,6,0,4,3,1,2,5],
 qd 28 (.ext (.t 19) 1) [7,6,0,4,3,1,2,5],
 qd 9 (.mv (.t 27)) [8,7,6,0,4,3,1,2,5],
 qd 10 (.mv (.t 28)) [9,7,6,0,4,3,1,2,5,10,8]])
 (.seq (.seq (.reg [qm 29 8,
 qo 30 (.bin .eql (.t 29) (qk 0))])
 (.cond (.t 30) (.regD [qo 32 (.ldn 6 (.t 2)),
 qm 33 7,
 qm 34 8,
 qd 35 (.ixa 1 (.t 33) (.t 34)) [1,2],
 qd 36 (.ld1 (.t 35)) [3,1,2],
 qd 37 (.call (.f 47) [(.t 32),(.t 36)]) [0,4,3,1,2],
 qd 31 (.mv (.t 37)) [5,0,4,3,1,2],
 qd 38 (.ext (.t 31) 0) [6,5,0,4,3,1,2],
 qd 39 (.ext (.t 31) 1) [6,5,0,4,3,1,2],
 qd 9 (.mv (.t 38)) [7,6,5,0,4,3,1,2],
 qd 10 (.mv (.t 39)) [8,6,5,0,4,3,1,2,9,7]])
 .skip))
 (.seq (.reg [qm 40 10])
 (.cond (.t 40) (.seq (.reg [qm 41 7,
 qm 42 8,
 qo 43 (.ixa 1 (.t 41) (.t 42)),
 qo 44 (.ld1 (.t 43)),
 qm 45 9,
 qm 4 44,
 qm 5 45,
 qo 6 (.mv qt)])
 .ret)
 .skip)))))
 (.reg [qm 17 8,
 qo 18 (.bin .add (.t 17) (qk 1)),
 qm 8 18]))))))
 (.seq (.reg [qo 4 (.mv (qk 0)),
 qo 5 (.mv (qk 0)),
 qo 6 (.mv qf)])
 .ret)))),
[(.t 4),(.t 5),(.t 6)])
theorem irOk28 : convFn Tryz.prog Tryz.f28 = some ir28 := by kernel_rfl


theorem queued_cases (s : StateD) (job : Int) : (job < 1 ∧ queuedI s job = false) ∨ (¬ job < 1 ∧ (s.jobs.length : Int) < job ∧ queuedI s job = false) ∨
    ∃ i : Nat, job = ((i + 1 : Nat) : Int) ∧ i < s.jobs.length ∧ ¬ job < 1 ∧ ¬ (s.jobs.length : Int) < job ∧ queuedI s job = decide ((s.jobs.getD i zeroJob).phase = 0) := by
  unfold queuedI
  by_cases h1 : job < 1
  · exact .inl ⟨h1, decide_eq_false (fun h => by omega)⟩
  by_cases h2 : (s.jobs.length : Int) < job
  · exact .inr (.inl ⟨h1, h2, decide_eq_false (fun h => by omega)⟩)
  refine .inr (.inr ⟨(job - 1).toNat, by omega, by omega, h1, h2, ?_⟩)
  simp only [show 1 ≤ job by omega,show job ≤ (s.jobs.length : Int) by omega,true_and]
set_option maxHeartbeats 4000000 in
theorem now_tri (s : StateD) (h : FitS s) (job : Int) : Tri Tryz.prog G 62 [stateV s, .int job] [] (.tup [.int (nowS s job).1, .bool (nowS s job).2]) [] := by
  refine tri_W0 Tryz.func62 (by decide) irOk62 (Nat.le_of_ble_eq_true rfl) rfl ?_
  simp only [ir62,go_sem,simprocAttr]
  have hj := h.jobs
  unfold nowS
  rcases queued_cases s job with ⟨h1, hq⟩ | ⟨h1, h2, hq⟩ | ⟨i, rfl, hi, h1, h2, hq⟩
  · simp only [decide_eq_true h1,hq,if_neg (show ¬ false = true by decide),go_sem,simprocAttr]
  · simp only [decide_eq_false h1,decide_eq_true (show job > (s.jobs.length : Int) from h2),List.length_map,hq,if_neg (show ¬ false = true by decide),go_sem,simprocAttr]
  have e1 := succ_pred i (by omega)
  have e2 := jobQ_at s i
  have hgi := get_mapD (f := jobR) zeroJob hi
  have hm := h.most i hi
  have hjo : joA s i = s.jobs.getD i zeroJob := rfl
  generalize s.jobs.getD i zeroJob = x at hgi hjo hq
  rw [hjo] at e2 hm
  simp only [jobR] at hgi
  simp only [decide_eq_false h1,decide_eq_false (show ¬ ((i + 1 : Nat) : Int) > (s.jobs.length : Int) from h2),List.length_map,e1,e2,hgi,go_sem,simprocAttr]
  by_cases h3 : x.phase = 0
  · simp only [show (x.phase != 0) = false from (bne_eq_false_iff_eq.2 h3),hq,decide_eq_true h3,if_true,e1,e2,hgi,go_sem,simprocAttr]
    refine WD_calld (fopen_tri s h.nodes) rfl rfl rfl rfl ?_; simp only [go_sem,simprocAttr]
    refine WD_calld (pick_tri s x (freeS s) h.nodes (free_6 h.nodes) hm) rfl rfl rfl rfl ?_; simp only [go_sem,simprocAttr]
  · simp only [show (x.phase != 0) = true from bne_iff_ne.2 h3,hq,decide_eq_false h3,if_neg (show ¬ false = true by decide),go_sem,simprocAttr]
set_option maxHeartbeats 4000000 in
theorem now15_tri (s : StateD) (h : FitS s) (job : Int) : Tri Tryz.prog G 47 [stateV s, .int job] [] (.tup [.int (nowR s job).1, .bool (nowR s job).2]) [] := by
  refine tri_W0 Tryz.func47 (by decide) irOk47 (Nat.le_of_ble_eq_true rfl) rfl ?_
  simp only [ir47,go_sem,simprocAttr]
  have hj := h.jobs
  unfold nowR
  rcases queued_cases s job with ⟨h1, hq⟩ | ⟨h1, h2, hq⟩ | ⟨i, rfl, hi, h1, h2, hq⟩
  · simp only [decide_eq_true h1,hq,if_neg (show ¬ false = true by decide),go_sem,simprocAttr]
  · simp only [decide_eq_false h1,decide_eq_true (show job > (s.jobs.length : Int) from h2),List.length_map,hq,if_neg (show ¬ false = true by decide),go_sem,simprocAttr]
  have e1 := succ_pred i (by omega)
  have e2 := jobQ_at s i
  have hgi := get_mapD (f := jobR) zeroJob hi
  have hm := h.most i hi
  have hjo : joA s i = s.jobs.getD i zeroJob := rfl
  generalize s.jobs.getD i zeroJob = x at hgi hjo hq
  rw [hjo] at e2 hm
  simp only [jobR] at hgi
  simp only [decide_eq_false h1,decide_eq_false (show ¬ ((i + 1 : Nat) : Int) > (s.jobs.length : Int) from h2),List.length_map,e1,e2,hgi,go_sem,simprocAttr]
  by_cases h3 : x.phase = 0
  · simp only [show (x.phase != 0) = false from (bne_eq_false_iff_eq.2 h3),hq,decide_eq_true h3,if_true,e1,e2,hgi,go_sem,simprocAttr]
    refine WD_calld (open15_tri s h.nodes) rfl rfl rfl rfl ?_; simp only [go_sem,simprocAttr]
    refine WD_calld (pick15_tri s x (freeS s) h.nodes hm) rfl rfl rfl rfl ?_; simp only [go_sem,simprocAttr]
  · simp only [show (x.phase != 0) = true from bne_iff_ne.2 h3,hq,decide_eq_false h3,if_neg (show ¬ false = true by decide),go_sem,simprocAttr]

def rs16S (s : StateD) (job now : Int) (j : JobD) (k : Nat) : St := ⟨[(1, .int job), (2, .int now), (3, .ptr 0 0), (9, .int (resTo s j now k).1), (10, .int (resTo s j now k).2.1), (11, .bool (resTo s j now k).2.2), (12, .int k)], [some (boxS s)]⟩
set_option maxHeartbeats 8000000 in
theorem res16_tri (s : StateD) (h : FitS s) (job now : Int) (h0 : TimeR now) : Tri Tryz.prog G 67 [stateV s, .int job, .int now] [] (.tup [.int (resR s job now).1, .int (resR s job now).2.1, .bool (resR s job now).2.2]) [] := by
  refine tri_W0 Tryz.func67 (by decide) irOk67 (Nat.le_of_ble_eq_true rfl) rfl ?_
  simp only [ir67,go_sem,simprocAttr]
  have hj := h.jobs
  unfold resR
  rcases queued_cases s job with ⟨h1, hq⟩ | ⟨h1, h2, hq⟩ | ⟨i, rfl, hi, h1, h2, hq⟩
  · simp only [decide_eq_true h1,hq,if_neg (show ¬ false = true by decide),go_sem,simprocAttr]
  · simp only [decide_eq_false h1,decide_eq_true (show job > (s.jobs.length : Int) from h2),List.length_map,hq,if_neg (show ¬ false = true by decide),go_sem,simprocAttr]
  have e1 := succ_pred i (by omega)
  have e2 := jobQ_at s i
  have hgi := get_mapD (f := jobR) zeroJob hi
  have hm := h.most i hi
  have hjo : joA s i = s.jobs.getD i zeroJob := rfl
  generalize s.jobs.getD i zeroJob = x at hgi hjo hq
  rw [hjo] at e2 hm
  simp only [jobR] at hgi
  simp only [decide_eq_false h1,decide_eq_false (show ¬ ((i + 1 : Nat) : Int) > (s.jobs.length : Int) from h2),List.length_map,e1,e2,hgi,go_sem,simprocAttr]
  by_cases h3 : x.phase = 0
  case neg => simp only [show (x.phase != 0) = true from bne_iff_ne.2 h3,hq,decide_eq_false h3,if_neg (show ¬ false = true by decide),go_sem,simprocAttr]
  simp only [show (x.phase != 0) = false from (bne_eq_false_iff_eq.2 h3),hq,decide_eq_true h3,if_true,e1,e2,hgi,go_sem,simprocAttr]
  refine W_loopI [1, 2, 3, 9, 10, 11, 12] [] (fun k : Nat => k ≤ s.jobs.length + 1) (fun k => s.jobs.length + 1 - k) (rs16S s ((i + 1 : Nat) : Int) now x) 0 ?_ (Nat.zero_le _) (fun k hk => ?_)
  · simp only [rs16S,boxS,resTo,List.range_zero,List.foldl_nil,Int.natCast_zero,go_sem,simprocAttr]
  simp only [rs16S,boxS,List.length_map,go_sem,simprocAttr]
  by_cases hlt : k < s.jobs.length + 1
  case neg =>
    obtain rfl : k = s.jobs.length + 1 := by omega
    simp only [decide_eq_false (show ¬ ((s.jobs.length + 1 : Nat) : Int) ≤ ((s.jobs.length : Nat) : Int) by omega),go_sem,simprocAttr]
  simp only [decide_eq_true (show ((k : Nat) : Int) ≤ ((s.jobs.length : Nat) : Int) by omega),go_sem,simprocAttr]
  have hst := resTo_succ s x now k
  generalize hp : resTo s x now k = p at hst
  obtain ⟨best, nodes, found⟩ := p
  unfold resStep at hst
  have ht : timeK s now k = if 0 < k then endS s k now else now := rfl
  by_cases hk0 : 0 < k
  case' pos =>
    rw [if_pos hk0] at ht
    simp only [decide_eq_true (show ((k : Nat) : Int) > 0 by omega),go_sem,simprocAttr]
    refine W_calld (end16_tri s h k now h0) rfl rfl rfl rfl ?_; simp only [go_sem,simprocAttr]
  case' neg =>
    rw [if_neg hk0] at ht
    simp only [decide_eq_false (show ¬ ((k : Nat) : Int) > 0 by omega),go_sem,simprocAttr]
  all_goals
    rw [ht] at hst
  case pos =>
    generalize endS s k now = t at hst ⊢
    by_cases h4 : t < 0
    · rw [if_pos (.inl h4)] at hst
      simp only [decide_eq_true h4,go_sem,simprocAttr]
      refine W_lpI (k + 1) ?_ ?_ (by omega) (by omega)
      · simp only [go_sem,simprocAttr]
      · simp only [rs16S,boxS,hst,wrap_succ (show k < 9223372036854775807 by omega),go_sem,simprocAttr]
    simp only [decide_eq_false h4,go_sem,simprocAttr]
    cases found with
    | true =>
      by_cases h5 : best ≤ t
      · rw [if_pos (.inr ⟨rfl, h5⟩)] at hst
        simp only [decide_eq_true (show t ≥ best from h5),go_sem,simprocAttr]
        refine W_lpI (k + 1) ?_ ?_ (by omega) (by omega)
        · simp only [go_sem,simprocAttr]
        · simp only [rs16S,boxS,hst,wrap_succ (show k < 9223372036854775807 by omega),go_sem,simprocAttr]
      · rw [if_neg (by rintro (h | ⟨_, h⟩); exact h4 h; exact h5 h)] at hst
        simp only [decide_eq_false (show ¬ t ≥ best from h5),go_sem,simprocAttr]
        simp only [e1,hgi,go_sem,simprocAttr]
        refine WD_calld (at16_tri s h now t h0) rfl rfl rfl rfl ?_; simp only [go_sem,simprocAttr]
        refine WD_calld (pick15_tri s x (atS s now t) h.nodes hm) rfl rfl rfl rfl ?_; simp only [go_sem,simprocAttr]
        cases hb : (pickR s x (atS s now t)).2 with
        | true =>
          rw [hb, if_pos rfl] at hst
          simp only [hb,go_sem,simprocAttr]
          refine W_lpI (k + 1) ?_ ?_ (by omega) (by omega)
          · simp only [go_sem,simprocAttr]
          · simp only [rs16S,boxS,hst,wrap_succ (show k < 9223372036854775807 by omega),go_sem,simprocAttr]
        | false =>
          rw [hb, if_neg (by decide)] at hst
          simp only [hb,go_sem,simprocAttr]
          refine W_lpI (k + 1) ?_ ?_ (by omega) (by omega)
          · simp only [go_sem,simprocAttr]
          · simp only [rs16S,boxS,hst,wrap_succ (show k < 9223372036854775807 by omega),go_sem,simprocAttr]
    | false =>
      rw [if_neg (by rintro (h | ⟨h, _⟩); exact h4 h; cases h)] at hst
      simp only [go_sem,simprocAttr]
      simp only [e1,hgi,go_sem,simprocAttr]
      refine WD_calld (at16_tri s h now t h0) rfl rfl rfl rfl ?_; simp only [go_sem,simprocAttr]
      refine WD_calld (pick15_tri s x (atS s now t) h.nodes hm) rfl rfl rfl rfl ?_; simp only [go_sem,simprocAttr]
      cases hb : (pickR s x (atS s now t)).2 with
      | true =>
        rw [hb, if_pos rfl] at hst
        simp only [hb,go_sem,simprocAttr]
        refine W_lpI (k + 1) ?_ ?_ (by omega) (by omega)
        · simp only [go_sem,simprocAttr]
        · simp only [rs16S,boxS,hst,wrap_succ (show k < 9223372036854775807 by omega),go_sem,simprocAttr]
      | false =>
        rw [hb, if_neg (by decide)] at hst
        simp only [hb,go_sem,simprocAttr]
        refine W_lpI (k + 1) ?_ ?_ (by omega) (by omega)
        · simp only [go_sem,simprocAttr]
        · simp only [rs16S,boxS,hst,wrap_succ (show k < 9223372036854775807 by omega),go_sem,simprocAttr]
  case neg =>
    by_cases h4 : now < 0
    · rw [if_pos (.inl h4)] at hst
      simp only [decide_eq_true h4,go_sem,simprocAttr]
      refine W_lpI (k + 1) ?_ ?_ (by omega) (by omega)
      · simp only [go_sem,simprocAttr]
      · simp only [rs16S,boxS,hst,wrap_succ (show k < 9223372036854775807 by omega),go_sem,simprocAttr]
    simp only [decide_eq_false h4,go_sem,simprocAttr]
    cases found with
    | true =>
      by_cases h5 : best ≤ now
      · rw [if_pos (.inr ⟨rfl, h5⟩)] at hst
        simp only [decide_eq_true (show now ≥ best from h5),go_sem,simprocAttr]
        refine W_lpI (k + 1) ?_ ?_ (by omega) (by omega)
        · simp only [go_sem,simprocAttr]
        · simp only [rs16S,boxS,hst,wrap_succ (show k < 9223372036854775807 by omega),go_sem,simprocAttr]
      · rw [if_neg (by rintro (h | ⟨_, h⟩); exact h4 h; exact h5 h)] at hst
        simp only [decide_eq_false (show ¬ now ≥ best from h5),go_sem,simprocAttr]
        simp only [e1,hgi,go_sem,simprocAttr]
        refine WD_calld (at16_tri s h now now h0) rfl rfl rfl rfl ?_; simp only [go_sem,simprocAttr]
        refine WD_calld (pick15_tri s x (atS s now now) h.nodes hm) rfl rfl rfl rfl ?_; simp only [go_sem,simprocAttr]
        cases hb : (pickR s x (atS s now now)).2 with
        | true =>
          rw [hb, if_pos rfl] at hst
          simp only [hb,go_sem,simprocAttr]
          refine W_lpI (k + 1) ?_ ?_ (by omega) (by omega)
          · simp only [go_sem,simprocAttr]
          · simp only [rs16S,boxS,hst,wrap_succ (show k < 9223372036854775807 by omega),go_sem,simprocAttr]
        | false =>
          rw [hb, if_neg (by decide)] at hst
          simp only [hb,go_sem,simprocAttr]
          refine W_lpI (k + 1) ?_ ?_ (by omega) (by omega)
          · simp only [go_sem,simprocAttr]
          · simp only [rs16S,boxS,hst,wrap_succ (show k < 9223372036854775807 by omega),go_sem,simprocAttr]
    | false =>
      rw [if_neg (by rintro (h | ⟨h, _⟩); exact h4 h; cases h)] at hst
      simp only [go_sem,simprocAttr]
      simp only [e1,hgi,go_sem,simprocAttr]
      refine WD_calld (at16_tri s h now now h0) rfl rfl rfl rfl ?_; simp only [go_sem,simprocAttr]
      refine WD_calld (pick15_tri s x (atS s now now) h.nodes hm) rfl rfl rfl rfl ?_; simp only [go_sem,simprocAttr]
      cases hb : (pickR s x (atS s now now)).2 with
      | true =>
        rw [hb, if_pos rfl] at hst
        simp only [hb,go_sem,simprocAttr]
        refine W_lpI (k + 1) ?_ ?_ (by omega) (by omega)
        · simp only [go_sem,simprocAttr]
        · simp only [rs16S,boxS,hst,wrap_succ (show k < 9223372036854775807 by omega),go_sem,simprocAttr]
      | false =>
        rw [hb, if_neg (by decide)] at hst
        simp only [hb,go_sem,simprocAttr]
        refine W_lpI (k + 1) ?_ ?_ (by omega) (by omega)
        · simp only [go_sem,simprocAttr]
        · simp only [rs16S,boxS,hst,wrap_succ (show k < 9223372036854775807 by omega),go_sem,simprocAttr]

theorem natR_get (l : List Nat) (i : Nat) (h : i < l.length) : (natR l)[i]? = some [i64 ((l.getD i 0 + 1 : Nat) : Int)] := by
  unfold natR
  rw [List.getElem?_map, List.getElem?_eq_getElem h]
  simp [List.getD,h]
theorem natR_len (l : List Nat) : (natR l).length = l.length := by unfold natR; rw [List.length_map]
theorem line_pos {s : StateD} {job : Int} (h : ¬ placeI s job < 1) : queuedI s job = true ∧ 0 < (lineN s).length := by
  have hq : queuedI s job = true := by
    cases hq : queuedI s job with
    | true => rfl
    | false => exact absurd ((place_iff s job).2 (.inl hq)) h
  refine ⟨hq, ?_⟩
  obtain ⟨i, _, hi⟩ := queuedI_iff.1 hq
  have := mem_line.2 (mem_queued.1 hi)
  exact List.length_pos_of_mem this
def fl16S (s : StateD) (job now : Int) (r : Int × Int × Bool) (k : Nat) : St := ⟨[(1, .int job), (2, .int now), (3, .ptr 0 0), (8, .int r.1), (9, .int r.2.1), (10, .bool r.2.2), (11, .int (maskTo (keptB s r) k)), (12, .int (2 ^ k)), (13, .int k)], [some (boxS s)]⟩
set_option maxHeartbeats 8000000 in
theorem fill16_tri (s : StateD) (h : FitS s) (job now : Int) (h0 : TimeR now) : Tri Tryz.prog G 46 [stateV s, .int job, .int now] [] (.tup [.int (fillR s job now).1, .bool (fillR s job now).2]) [] := by
  refine tri_W0 Tryz.func46 (by decide) irOk46 (Nat.le_of_ble_eq_true rfl) rfl ?_
  simp only [ir46,go_sem,simprocAttr]
  have hj := h.jobs
  have hn := h.nodes
  unfold fillR
  refine W_calld (place14_tri s job hj) rfl rfl rfl rfl ?_; simp only [go_sem,simprocAttr]
  by_cases hp : placeI s job < 1
  · simp only [decide_eq_true hp,if_pos hp,go_sem,simprocAttr]
  rw [if_neg hp]
  simp only [decide_eq_false hp,go_sem,simprocAttr]
  obtain ⟨hq, hl⟩ := line_pos hp
  have hg0 := natR_get (lineN s) 0 hl
  have hh : ((((lineN s).getD 0 0 + 1 : Nat) : Int)) = headI s := rfl
  rw [hh] at hg0
  refine WD_calld (line14_tri s hj) rfl rfl rfl rfl ?_; simp only [go_sem,simprocAttr]
  simp only [hg0,go_sem,simprocAttr]
  refine WD_calld (res16_tri s h (headI s) now h0) rfl rfl rfl rfl ?_; simp only [go_sem,simprocAttr]
  generalize hr : resR s (headI s) now = r
  obtain ⟨t, kept, ok⟩ := r
  refine W_loopI [1, 2, 3, 8, 9, 10, 11, 12, 13] [] (fun k : Nat => k ≤ s.nodes.length) (fun k => s.nodes.length - k) (fl16S s job now (t, kept, ok)) 0 ?_ (Nat.zero_le _) (fun k hk => ?_)
  · simp only [fl16S,boxS,maskTo,Int.natCast_zero,Int.pow_zero,go_sem,simprocAttr]
  simp only [fl16S,boxS,List.length_map,go_sem,simprocAttr]
  by_cases hlt : k < s.nodes.length
  case pos =>
    have hg := get_mapD (f := nodeR) zeroNode hlt
    have hm := mask_b (f := keptB s (t, kept, ok)) (k := k) (b := keptB s (t, kept, ok) k) rfl
    have hk2 : keptB s (t, kept, ok) k = (freeB (s.nodes.getD k zeroNode) && !(ok && hasB kept k)) := rfl
    have ho := sum6 (keptB s (t, kept, ok)) k (by omega)
    have hd := dbl k (by omega)
    generalize s.nodes.getD k zeroNode = n at hg hk2
    rw [hk2] at hm
    simp only [nodeR] at hg
    simp only [decide_eq_true (show ((k : Nat) : Int) < ((s.nodes.length : Nat) : Int) by omega),hg,go_sem,simprocAttr]
    refine W_calld (free9_tri n) rfl rfl rfl rfl ?_; simp only [go_sem,simprocAttr]
    cases hf : freeB n with
    | false =>
      rw [hf, Bool.false_and, if_neg (by decide)] at hm
      simp only [hd,go_sem,simprocAttr]
      refine W_lpI (k + 1) ?_ ?_ (by omega) (by omega)
      · simp only [go_sem,simprocAttr]
      · simp only [fl16S,boxS,hm,wrap_succ (show k < 9223372036854775807 by omega),go_sem,simprocAttr]
    | true =>
      rw [hf, Bool.true_and] at hm
      cases ok with
      | false =>
        rw [Bool.false_and, Bool.not_false, if_pos rfl] at hm
        simp only [ho,hd,go_sem,simprocAttr]
        refine W_lpI (k + 1) ?_ ?_ (by omega) (by omega)
        · simp only [go_sem,simprocAttr]
        · simp only [fl16S,boxS,hm,wrap_succ (show k < 9223372036854775807 by omega),go_sem,simprocAttr]
      | true =>
        rw [Bool.true_and] at hm
        simp only [go_sem,simprocAttr]
        refine W_calld (has9_tri kept k (by omega)) rfl rfl rfl rfl ?_; simp only [go_sem,simprocAttr]
        cases hb : hasB kept k with
        | true =>
          rw [hb, Bool.not_true, if_neg (by decide)] at hm
          simp only [hb,hd,go_sem,simprocAttr]
          refine W_lpI (k + 1) ?_ ?_ (by omega) (by omega)
          · simp only [go_sem,simprocAttr]
          · simp only [fl16S,boxS,hm,wrap_succ (show k < 9223372036854775807 by omega),go_sem,simprocAttr]
        | false =>
          rw [hb, Bool.not_false, if_pos rfl] at hm
          simp only [hb,ho,hd,go_sem,simprocAttr]
          refine W_lpI (k + 1) ?_ ?_ (by omega) (by omega)
          · simp only [go_sem,simprocAttr]
          · simp only [fl16S,boxS,hm,wrap_succ (show k < 9223372036854775807 by omega),go_sem,simprocAttr]
  obtain rfl : k = s.nodes.length := by omega
  have hrest : maskTo (keptB s (t, kept, ok)) s.nodes.length = restR s (t, kept, ok) := rfl
  obtain ⟨i, rfl, hi⟩ := queuedI_iff.1 hq
  have hil := (mem_queued.1 hi).1
  have e1 := succ_pred i (by omega)
  have e2 := jobQ_at s i
  have hgi := get_mapD (f := jobR) zeroJob hil
  have hm := h.most i hil
  have hE := h.ends i hil
  have hjo : joA s i = s.jobs.getD i zeroJob := rfl
  generalize s.jobs.getD i zeroJob = x at hgi hjo
  rw [hjo] at e2 hm hE
  obtain ⟨w1, w2, w3⟩ := hE
  have hwr : IntKind.i64.wrap (now + x.work) = now + x.work := wrap_in (by have := h0.1; omega) (by have := h0.2; omega)
  simp only [jobR] at hgi
  simp only [decide_eq_false (show ¬ ((s.nodes.length : Nat) : Int) < ((s.nodes.length : Nat) : Int) by omega),hrest,e1,e2,hgi,go_sem,simprocAttr]
  refine WD_calld (pick15_tri s x (restR s (t, kept, ok)) h.nodes hm) rfl rfl rfl rfl ?_; simp only [go_sem,simprocAttr]
  generalize pickR s x (restR s (t, kept, ok)) = pk
  obtain ⟨p1, p2⟩ := pk
  cases p2 with
  | true => simp only [if_true,go_sem,simprocAttr]
  | false =>
    simp only [if_neg (show ¬ false = true by decide),go_sem,simprocAttr]
    refine W_calld (now15_tri s h ((i + 1 : Nat) : Int)) rfl rfl rfl rfl ?_; simp only [go_sem,simprocAttr]
    generalize nowR s ((i + 1 : Nat) : Int) = nw
    obtain ⟨n1, n2⟩ := nw
    cases ok with
    | false => simp only [Bool.false_eq_true,false_and,if_false,go_sem,simprocAttr]
    | true =>
      cases n2 with
      | false => simp only [Bool.false_eq_true,false_and,and_false,if_false,go_sem,simprocAttr]
      | true =>
        simp only [e1,hgi,hwr,go_sem,simprocAttr]
        by_cases h5 : now + x.work ≤ t
        · simp only [decide_eq_true h5,true_and,if_pos h5,go_sem,simprocAttr]
        · simp only [decide_eq_false h5,true_and,if_neg h5,go_sem,simprocAttr]

theorem nextGo_step (f g : Int → Int × Bool) (L : List Nat) (i : Nat) (hi : i < L.length) : nextGo f g (L.drop i) i =
    if (if i = 0 then f ((L.getD i 0 + 1 : Nat) : Int) else g ((L.getD i 0 + 1 : Nat) : Int)).2 = true then (((L.getD i 0 + 1 : Nat) : Int), (if i = 0 then f ((L.getD i 0 + 1 : Nat) : Int) else g ((L.getD i 0 + 1 : Nat) : Int)).1, true) else nextGo f g (L.drop (i + 1)) (i + 1) := by
  rw [List.drop_eq_getElem_cons hi, show L.getD i 0 = L[i] by simp [List.getD,hi]]
  cases i with
  | zero => simp only [nextGo,if_true]
  | succ i => simp only [nextGo,if_neg (Nat.succ_ne_zero i)]
def nx16S (s : StateD) (now : Int) (L : List Nat) (k : Nat) : St := ⟨[(1, .int now), (2, .ptr 0 0), (7, .d (.lst 1 (natR L))), (8, .int k)], [some (boxS s)]⟩
set_option maxHeartbeats 8000000 in
theorem next16_tri (s : StateD) (h : FitS s) (now : Int) (h0 : TimeR now) : Tri Tryz.prog G 28 [stateV s, .int now] [] (.tup [.int (nextR s now).1, .int (nextR s now).2.1, .bool (nextR s now).2.2]) [] := by
  refine tri_W0 Tryz.func28 (by decide) irOk28 (Nat.le_of_ble_eq_true rfl) rfl ?_
  simp only [ir28,go_sem,simprocAttr]
  have hj := h.jobs
  have hL : (lineN s).length ≤ 1000 := by
    have := (lineN_perm s).length_eq
    have := queuedTo_len s s.jobs.length
    have e : queuedTo s s.jobs.length = queued s := rfl
    rw [e] at this
    omega
  unfold nextR
  refine W_calld (line14_tri s hj) rfl rfl rfl rfl ?_; simp only [go_sem,simprocAttr]
  generalize lineN s = L at hL ⊢
  refine W_loopI [1, 2, 7, 8] [] (fun k : Nat => k ≤ L.length ∧ nextGo (nowR s) (fun k => fillR s k now) L 0 = nextGo (nowR s) (fun k => fillR s k now) (L.drop k) k) (fun k => L.length - k) (nx16S s now L) 0 ?_ ⟨Nat.zero_le _, rfl⟩ (fun k hk => ?_)
  · simp only [nx16S,boxS,Int.natCast_zero,go_sem,simprocAttr]
  obtain ⟨hk, hN⟩ := hk
  simp only [nx16S,boxS,natR_len,go_sem,simprocAttr]
  by_cases hlt : k < L.length
  case neg =>
    obtain rfl : k = L.length := by omega
    rw [List.drop_length] at hN
    simp only [decide_eq_false (show ¬ ((L.length : Nat) : Int) < ((L.length : Nat) : Int) by omega),hN,nextGo,go_sem,simprocAttr]
  have hgk := natR_get L k hlt
  have hs := nextGo_step (nowR s) (fun k => fillR s k now) L k hlt
  generalize ((L.getD k 0 + 1 : Nat) : Int) = job at hgk hs
  rw [← hN] at hs
  simp only [decide_eq_true (show ((k : Nat) : Int) < ((L.length : Nat) : Int) by omega),hgk,go_sem,simprocAttr]
  refine WD_calld (fill16_tri s h job now h0) rfl rfl rfl rfl ?_; simp only [go_sem,simprocAttr]
  by_cases hk0 : k = 0
  case pos =>
    simp only [if_pos hk0] at hs
    simp only [show (((k : Nat) : Int) == 0) = true from beq_iff_eq.2 (by omega),hgk,go_sem,simprocAttr]
    refine WD_calld (now15_tri s h job) rfl rfl rfl rfl ?_; simp only [go_sem,simprocAttr]
    generalize nowR s job = r at hs ⊢
    obtain ⟨n, ok⟩ := r
    cases ok with
    | true =>
      rw [if_pos rfl] at hs
      simp only [hs,hgk,go_sem,simprocAttr]
    | false =>
      rw [if_neg Bool.false_ne_true] at hs
      simp only [go_sem,simprocAttr]
      refine W_lpI (k + 1) ?_ ?_ ⟨by omega, hs⟩ (by omega)
      · simp only [go_sem,simprocAttr]
      simp only [nx16S,boxS,wrap_succ (show k < 9223372036854775807 by omega),go_sem,simprocAttr]
  case neg =>
    simp only [if_neg hk0] at hs
    simp only [show (((k : Nat) : Int) == 0) = false from beq_eq_false_iff_ne.2 (by omega),go_sem,simprocAttr]
    generalize fillR s job now = r at hs ⊢
    obtain ⟨n, ok⟩ := r
    cases ok with
    | true =>
      rw [if_pos rfl] at hs
      simp only [hs,hgk,go_sem,simprocAttr]
    | false =>
      rw [if_neg Bool.false_ne_true] at hs
      simp only [go_sem,simprocAttr]
      refine W_lpI (k + 1) ?_ ?_ ⟨by omega, hs⟩ (by omega)
      · simp only [go_sem,simprocAttr]
      simp only [nx16S,boxS,wrap_succ (show k < 9223372036854775807 by omega),go_sem,simprocAttr]
end Dv

namespace Dv
open Go Go.Proofs
theorem rowD_val1 {J : Nat → Prop} {w : World} {g : Nat} : ∀ (l : List Int) (off : Nat), (∀ (j : Nat) x, l[j]? = some x → w.cell? ⟨g, off + j, none⟩ = some (.int .i64 x)) → RowsD J w 1 (l.map fun i => [i64 i]) g off
  | [], _, _ => trivial
  | x :: l, off, h => ⟨rfl, ⟨⟨.int .i64 x, h 0 x rfl, rfl, rfl⟩, trivial⟩, rowD_val1 l (off + 1) (fun j y hy => by
      have := h (j + 1) y (by simpa using hy)
      rw [show off + 1 + j = off + (j + 1) by omega]; exact this)⟩
theorem int_row {J : Nat → Prop} {w : World} {n0 : Nat} {e : TypeId} {v : Value} {l : List Int} (h : w.ownsRow n0 e 1 v l.length (l.map (Value.int .i64))) (hj : ∀ b, v.ownBlock = some b → J b) : RepD J w (.lst 1 (l.map fun i => [i64 i])) v := by
  rcases h.2 with ⟨rfl, h0⟩ | ⟨g, cap, cur, rfl, _, hg, hc, _, _, hx⟩
  · exact ⟨none, 0, 0, rfl, by simp [h0], Nat.le_refl _, .inl (by rw [List.eq_nil_of_length_eq_zero h0]; rfl)⟩
  · refine ⟨_, _, _, rfl, by simp, hc, .inr ⟨g, 0, rfl, hj g rfl, rowD_val1 l 0 (fun j x hjx => ?_)⟩⟩
    have h1 : (cur.toList.take (l.length * 1))[j]? = some (.int .i64 x) := by rw [hx, List.getElem?_map, hjx]; rfl
    have hlt := (List.getElem?_eq_some_iff.1 h1).1
    rw [List.length_take] at hlt
    rw [List.getElem?_take, if_pos (by omega)] at h1
    rw [Nat.zero_add]
    simp only [World.cell?,hg]
    simpa using h1
theorem row_ge {w : World} {n0 : Nat} {e : TypeId} {esz k : Nat} {v : Value} {xs : List Value} (h : w.ownsRow n0 e esz v k xs) (b : Nat) (hb : v.ownBlock = some b) : n0 ≤ b ∧ ∃ C t f, w.heap[b]? = some (.cells C t f) := by
  rcases h.2 with ⟨rfl, h0⟩ | ⟨g, cap, cur, rfl, hge, hg, _⟩
  · simp [Value.ownBlock] at hb
  · simp only [Value.ownBlock,Option.some.injEq] at hb
    subst hb
    exact ⟨hge, _, _, _, hg⟩
theorem after_row {G : Nat → Option (List DV)} {J : Nat → Prop} {ι : Nat → Nat → Option Nat} {w W : World} (S : Store G J w ι (objL [])) (hB : RowKit.Below w.heap.size w W) {n0 : Nat} (hn : w.heap.size ≤ n0) {e : TypeId} {v : Value} {l : List Int}
    (h : W.ownsRow n0 e 1 v l.length (l.map (Value.int .i64))) : After G (objL []) (objL []) J ι w (.d (.lst 1 (l.map fun i => [i64 i]))) v W := by
  have S1 : Store G J W ι (objL []) := S.still (fun b h => hB.block b (S.jlt b h)) (fun b h => hB.block b (S.own_lt h)) (fun b h => shape_of_heap (hB.block b (shape_lt h)))
  have nil : ∀ o b, ¬ (objL [] o).own ι o b := fun o b => by rw [objL_free (by simp)]; exact fun h => h.elim
  refine ⟨fun b => J b ∨ v.ownBlock = some b, ι, ⟨fun o => ?_, fun o o' b h => absurd h (nil o b), fun o b h => absurd h (nil o b), fun b hb => ?_, fun q row hq => ?_⟩, int_row h (fun b hb => .inr hb),
    ⟨⟨hB.os, hB.tape, hB.output, hB.size, fun b hb _ => hB.block b hb, fun b hb => shape_of_heap (hB.block b hb), fun b hb => .inl hb, fun b hb => ?_, fun _ _ _ h => h⟩, fun b hb => ?_⟩⟩
  · have := S1.rep o
    rw [objL_free (by simp)] at this ⊢
    exact this
  · rcases hb with hb | hb
    · exact S1.jcell b hb
    · exact (row_ge h b hb).2
  · obtain ⟨q1, q2, q3⟩ := S1.glob q row hq
    exact ⟨.inl q1, RowD.mono (fun k h => .inl h) (fun _ _ => rfl) _ _ _ rfl q2, q3⟩
  · rcases hb with hb | hb
    · exact .inl hb
    · exact .inr (.inl (Nat.le_trans hn (row_ge h b hb).1))
  · obtain ⟨o, h⟩ := hb
    exact absurd h (nil o b)
def intR (l : List Int) : List (List DV) := l.map fun i => [i64 i]
end Dv
namespace Go
open Go.Maps (Keyed)
theorem wpListIn_insert_own {H : Type} {P : Program} (w : World) {F : Fence} {nF : Nat} {ops : Array Oper} {rest : List Oper} {o : Oper} {a : Act} {Q : Exit → Act → World → Prop}
    (hg : o.guard = none) (m x v : Operand) (t : TypeId) (hop : o.op = Op.insert t m x v)
    (k e : TypeId) (K : Keyed P k) (ht : P.underlying t = some (.map k e)) (R : Value → Option (DataW H × List MemPlace)) (b n : Nat) (D : DataW H)
    (hm : a.eval m = .map (some b)) (hown : w.ownsMap P k R b n D) (hn : n < maxLen) (key val : Value) (kl : Lit) (hx : a.eval x = key) (hv : a.eval v = val) (hkey : keyOf P k key = some kl)
    (d : DataW H) (ps : List MemPlace) (hval : R val = some (d, ps))
    (hK : ∀ w', w'.ownsMap P k R b (n + 1) (D.put kl d) → w.grownBy w' (some b) → wpListIn F nF P ops Q rest (a.put o.dst undef) w') :
    wpListIn F nF P ops Q (o :: rest) a w := by
  refine wpListIn_plain hg fun K' hK' => ?_
  obtain ⟨w', hrun, r1, r2⟩ := hown.update K ht hn hkey hval
  unfold Oper.wpIn
  refine ⟨by simp [Oper.about,hop], ?_⟩
  rw [Oper.semAt_plain F _ _ (by rw [hop]; intro c hc'; cases hc')]
  simp [execOp,hop,hm,hx,hv,hrun,Result.andThen]
  exact hK' _ _ (hK w' r1 r2)
end Go
namespace Go.Proofs
open Go.RowKit Go.Shelf Go.Maps
attribute [local go_sem] Oper.semAt_some
theorem Tryz.sortsA (m : Nat) : AnyZI.SortsIn Tryz.prog Tryz.sortedA_ren Fence.wide m :=
  ⟨fun blk off cap ss W hH hblk hsz => callsIn_wide.2 (AnyM.slices_Sort_int Tryz.sortA blk off cap ss W hH hblk hsz),
   fun p cap W => callsIn_wide.2 (AnyM.slices_Sort_int_none Tryz.sortA p cap W)⟩
theorem keys_perm {P : Program} {k : TypeId} {R : Value → Option (DataW Unit × List MemPlace)} {W : World} {b nn : Nat} {D : DataW Unit} (hown : W.ownsMap P k R b nn D) (K : Keyed P k) (hk : P.underlying k = some (.int .i64)) {l : List Int} (hn : l.Nodup) (hm : ∀ x, Maps.has D (.int .i64 x) = true ↔ x ∈ l) : l.Perm (intKeys D) := by
  obtain ⟨es, hD, hpw, _⟩ := hown.entries K
  obtain ⟨es', hD', hko⟩ := hown.keysOf
  obtain rfl : es = es' := by rw [hD] at hD'; simpa using hD'
  subst hD
  exact perm_intKeys hpw (fun p hp => by obtain ⟨v, hv⟩ := hko p hp; obtain ⟨x, _, hx, _⟩ := Maps.keyOf_i64 hk hv; exact ⟨x, hx⟩) hn (fun x => (hm x).symm)
theorem has_put_int {D : DataW Unit} (hD : IsMap D) (e x : Int) (d : DataW Unit) (l : List Int) (hm : ∀ x, Maps.has D (.int .i64 x) = true ↔ x ∈ l) : Maps.has (D.put (.int .i64 e) d) (.int .i64 x) = true ↔ x ∈ Dv.addT l e := by
  rw [Dv.mem_addT]
  by_cases h : x = e
  · subst h
    rw [has_put_same hD (show WideAt.IsKeyLit (Lit.int .i64 x) from trivial)]
    simp
  · rw [has_put_other (fun h' => h (by cases h'; rfl)), hm]
    simp [h]
set_option maxRecDepth 100000 in
set_option maxHeartbeats 2000000 in
theorem times_tri {G : Nat → Option (List Dv.DV)} (s : Dv.StateD) (h : Dv.FitS s) (now : Int) (h0 : Dv.TimeR now) : Dv.Tri Tryz.prog G 120 [Dv.stateV s, .int now] [] (.d (.lst 1 (Dv.intR (Dv.timesL s now)))) [] := by
  refine ⟨by decide, fun J ι w vs S hR => ?_⟩
  obtain ⟨vl⟩ := vs
  match vl, hR with
  | [va, vk], ⟨ha, hk, _⟩ =>
  have hk : vk = .int .i64 now := hk
  subst hk
  obtain ⟨cs, rfl, hcs⟩ := ha
  obtain ⟨cl⟩ := cs
  match cl, hcs with
  | [x0, x1, x2, x3, x4, x5], hcs =>
  have hds := Dv.toDs_rep (ds := [.lst 5 (s.nodes.map Dv.nodeR), .lst 12 (s.jobs.map Dv.jobR), Dv.i64 s.goal, Dv.i64 s.prior, Dv.i64 s.mode, Dv.i64 s.term]) rfl hcs.toL
  have hone := hcs.one
  obtain ⟨ja, jn, jc, rfl, hjn, hjc, hjr⟩ := hds.2.1
  rw [List.length_map] at hjn
  subst hjn
  have hj1000 := h.jobs
  have hmm := @run_makeMap Tryz.prog
  refine (callsIn_wide (n := 6)).1 ?_
  refine callsIn_of_wp Tryz.func120 rfl trivial ?_ rfl
  simp only [Tryz.ntmps120,List.size_toArray,List.length_cons,List.length_nil,Nat.reduceAdd,Nat.reduceSub,Array.replicate_succ,Array.replicate_zero,List.push_toArray,List.append_toArray,List.nil_append,List.cons_append]
  have wfI : ∀ x : Int, -9223372036854775808 ≤ x → x ≤ 9223372036854775807 → (Lit.int .i64 x).wf = true := fun x h1 h2 => by
    have e1 : IntKind.i64.min = -9223372036854775808 := by decide
    have e2 : IntKind.i64.max = 9223372036854775807 := by decide
    simp only [Lit.wf,e1,e2,h1,h2,decide_true,Bool.and_self]
  have h0' := h0
  obtain ⟨n1, n2⟩ := h0'
  have hwf := wfI now (by omega) (by omega)
  have hm0 := World.ownsMap_made (w.alloc (.cells #[x0, .slice ja s.jobs.length jc, x2, x3, x4, x5] 27)) Tryz.prog 3 (plainElem (H := Unit) Tryz.prog 4)
  have hBA : Below w.heap.size w ((w.alloc (.cells #[x0, .slice ja s.jobs.length jc, x2, x3, x4, x5] 27)).alloc (.map #[] 0)) := ((Below.refl _ w).alloc (Nat.le_refl _) _).alloc (by simp) _
  have hst : ∀ A, Below w.heap.size w A → Dv.Store G J A ι (Dv.objL []) := fun A hb => S.still (fun b h => hb.block b (S.jlt b h)) (fun b h => hb.block b (S.own_lt h)) (fun b h => Dv.shape_of_heap (hb.block b (Dv.shape_lt h)))
  have hbox : ∀ A, Below w.heap.size w A → A.heap[w.heap.size]? = some (.cells #[x0, .slice ja s.jobs.length jc, x2, x3, x4, x5] 27 (0, 0)) → Dv.BoxedS J s A w.heap.size x0 (.slice ja s.jobs.length jc) x2 x3 x4 x5 := fun A hb hh =>
    ⟨hh, Dv.RepDL.mono (fun _ h => h) (fun b h => hb.block b (S.jlt b h)) _ _ hds, hone⟩
  have hh0 : ((w.alloc (.cells #[x0, .slice ja s.jobs.length jc, x2, x3, x4, x5] 27)).alloc (.map #[] 0)).heap[w.heap.size]? = some (.cells #[x0, .slice ja s.jobs.length jc, x2, x3, x4, x5] 27 (0, 0)) :=
    (Below.block (Below.alloc (Below.refl _ _) (Nat.le_refl _) _) _ (by simp)).trans (World.alloc_heap_new _ _)
  have hsA : (w.alloc (.cells #[x0, .slice ja s.jobs.length jc, x2, x3, x4, x5] 27)).heap.size = w.heap.size + 1 := by simp
  rw [hsA] at hm0
  gi_wp2_with (refine wpListIn_insert_own _ rfl _ _ _ 137 rfl 3 4 (Maps.int_keyed Tryz.underlying3) Tryz.underlying137 _ _ 0 _ rfl hm0 (by decide) _ _ _ rfl rfl (Maps.keyOf_int_mk Tryz.underlying3 hwf) _ [] (plainElem_bool Tryz.underlying4 true) ?_; intro w1 hown1 hgrow1; have hb1 : Below w.heap.size w w1 := hBA.grown hgrow1 hBA.size (fun r e => by cases e; simp); have hbx1 := hbox w1 hb1 ((hgrow1.block _ (by simp; omega) (by simp)).trans hh0); obtain ⟨a0, a1, a2, a3, a4, a5⟩ := hbx1.cells)
  gi_loopw [14] (fun q wr => ∃ (k nn : Nat) (D : DataW Unit), q = .int .i64 k ∧ k ≤ s.jobs.length ∧ nn ≤ k + 1 ∧ wr.ownsMap Tryz.prog 3 (plainElem Tryz.prog 4) (w.heap.size + 1) nn D ∧ (∀ x, Maps.has D (.int .i64 x) = true ↔ x ∈ Dv.tsTo s now k) ∧ Below w.heap.size w wr ∧ Dv.BoxedS J s wr w.heap.size x0 (.slice ja s.jobs.length jc) x2 x3 x4 x5)
    (fun q _ => s.jobs.length - (intOf q).toNat)
  case atStart =>
    refine ⟨0, 1, _, rfl, Nat.zero_le _, Nat.le_refl _, hown1, fun x => ?_, hb1, hbx1⟩
    rw [has_put_int ⟨_, rfl⟩ now x _ [] (fun x => by simp [Maps.has])]
    simp [Dv.addT,Dv.tsTo]
  case round =>
    obtain ⟨k, nn, D, rfl, hk, hnn, hown, hD, hbr, hbx⟩ := hrel
    obtain ⟨b0, b1, b2, b3, b4, b5⟩ := hbx.cells
    rcases Nat.lt_or_ge k s.jobs.length with hlt | hge
    · have hE := (Dv.end_tri (G := G) s h ((k + 1 : Nat) : Int) now h0).num (hst wr hbr) (vs := #[.agg #[x0, .slice ja s.jobs.length jc, x2, x3, x4, x5], .int .i64 ((k + 1 : Nat) : Int), .int .i64 now]) ⟨hbx.arg, rfl, rfl, trivial⟩
      have hts : Dv.tsTo s now (k + 1) = if 0 ≤ Dv.endJ (Dv.joA s k) now then Dv.addT (Dv.tsTo s now k) (Dv.endJ (Dv.joA s k) now) else Dv.tsTo s now k := rfl
      have her := Dv.endJ_rng (h.ends k hlt) ⟨n1, n2⟩
      rw [Dv.endS_at hlt, show ((k + 1 : Nat) : Int) = (k : Int) + 1 by omega] at hE
      generalize Dv.endJ (Dv.joA s k) now = e at hE hts her
      have hwe := wfI e (by omega) (by omega)
      gi_wp2_with (first
        | (refine ⟨trivial, ?_⟩; gi_at_call 137; refine (callsIn_wide.2 hE).mono ?_; rintro e3 w3 ⟨rfl, hb3⟩
           have hown3 := hown.kept (w' := w3) (row := none) ⟨hb3.os, hb3.tape, hb3.output, hb3.size, fun k hk _ => hb3.block k hk⟩ (by simp))
        | (gi_at_mapUpdate; refine wpListIn_mapUpdate_own _ rfl _ _ _ 137 rfl 3 4 (Maps.int_keyed Tryz.underlying3) Tryz.underlying137 _ _ nn _ rfl hown3 (by simp only [Go.maxLen]; omega) _ _ _ rfl rfl (Maps.keyOf_int_mk Tryz.underlying3 hwe) _ [] (plainElem_bool Tryz.underlying4 true) ?_; intro w4 hown4 hgrow4))
      · have hge : 0 ≤ e := ‹0 ≤ e›
        rw [if_pos hge] at hts
        have hsz3 := hbr.size
        have hsz4 := hb3.size
        have hml := hown.lt
        have hb4 : Below w.heap.size w w4 := (hbr.trans (hb3.mono hbr.size)).grown hgrow4 (Nat.le_trans hbr.size hb3.size) (fun r e => by cases e; omega)
        have hbk := hbx.heap
        have hlt0 := (Array.getElem?_eq_some_iff.1 hbk).1
        refine ⟨⟨k + 1, nn + 1, _, rfl, by omega, by omega, hown4, fun x => ?_, hb4, hbox w4 hb4 ?_⟩, by simp [intOf]; omega⟩
        · rw [hts]
          exact has_put_int hown3.isMap e x _ _ hD
        · exact ((hgrow4.block _ (by omega) (by simp)).trans (hb3.block _ hlt0)).trans hbk
      · have hge : e < 0 := ‹e < 0›
        rw [if_neg (by omega)] at hts
        have hb4 : Below w.heap.size w w3 := hbr.trans (hb3.mono hbr.size)
        have hbk := hbx.heap
        have hlt0 := (Array.getElem?_eq_some_iff.1 hbk).1
        exact ⟨⟨k + 1, nn, D, rfl, by omega, by omega, hown3, fun x => by rw [hts]; exact hD x, hb4, hbox w3 hb4 ((hb3.block _ hlt0).trans hbk)⟩, by simp [intOf]; omega⟩
    · obtain rfl : k = s.jobs.length := by omega
      have hsz := hown.size_le
      have hml := hown.lt
      have hseq : SeqGives Fence.wide 2 Tryz.prog 148 #[.pointer (some ⟨wr.heap.size, 0, none⟩)] encZ (fun ss => ss.Perm (intKeys D)) (Maps.size D) (wr.alloc (.cells #[.map (some (w.heap.size + 1))] 137)) :=
        AnyZI.keys_gives (ρ := Tryz.keysA_ren) { Tryz.keysA with } Fence.wide _ trivial rfl (by omega) wr.heap.size (w.heap.size + 1) nn D _ (by simp) (by simp) (hown.alloc _)
      have cK : ∀ mb W, CallsIn Fence.wide 5 Tryz.prog 139 #[.map mb] W fun e w' => e = .returned (.func (.func 148) #[] #[.pointer (some ⟨W.heap.size, 0, none⟩)]) ∧ w' = W.alloc (.cells #[.map mb] 137) := fun mb W => AnyZI.keys_in Tryz.keysA Fence.wide 5 trivial rfl mb W
      have cS := AnyZI.sorted_in Tryz.sortedA Fence.wide 5 trivial trivial trivial trivial rfl (by omega) (Tryz.sortsA _) (enters_of Tryz.func147 (by kernel_rfl) rfl) 148 #[.pointer (some ⟨wr.heap.size, 0, none⟩)] trivial (enters_of Tryz.func148 (by kernel_rfl) rfl) _ _ (by simp only [Go.maxLen]; omega) (by omega) _ hseq
      change CallsIn _ _ Tryz.prog 138 _ _ _ at cS
      have hpm : (Dv.tsTo s now s.jobs.length).Perm (intKeys D) := keys_perm hown (Maps.int_keyed Tryz.underlying3) Tryz.underlying3 (Dv.tsTo_nodup s now _) hD
      have hsb := hbr.size
      gi_wp2_with (first
        | (refine ⟨trivial, ?_⟩; gi_at_call 139; refine (cK _ _).mono ?_; rintro e w' ⟨rfl, rfl⟩)
        | (refine ⟨trivial, ?_⟩; gi_at_call 138; refine cS.mono ?_; rintro e w5 ⟨v, ss, rfl, hS, hrow, hnil, hb5⟩))
      have hee : ss.mergeSort (fun x y => decide (x ≤ y)) = Dv.timesL s now := mergeSort_of_perm_i (hS.trans hpm.symm)
      have hll : ss.length = (Dv.timesL s now).length := by rw [← hee, List.length_mergeSort]
      rw [hee, hll] at hrow
      go_ret
      have hbw : Below w.heap.size w w5 := (hbr.alloc hsb _).trans (hb5.mono (by simp; omega))
      exact ⟨v, rfl, Dv.after_row S hbw (by simp; omega) hrow⟩
end Go.Proofs

namespace Dv
open Go Go.Proofs
variable {G : Nat → Option (List DV)}

def ir85 : Nat × C × List RV := (44,
(.seq (.reg [qo 3 (.box 27 (.t 0)),
 qo 6 (.mv (qk 0)),
 qo 7 (.mv (qk 0)),
 qo 8 (.mv qf)])
 (.seq (.seq (.reg [qo 13 (.ldn 6 (.t 3)),
 qm 14 1,
 qo 15 (.call (.f 84) [(.t 13),(.t 14)]),
 qo 16 (.not (.t 15))])
 (.cond (.t 16) (.seq (.reg [qo 6 (.mv (qk 0)),
 qo 7 (.mv (qk 0)),
 qo 8 (.mv qf)])
 .ret)
 .skip))
 (.seq (.seq (.reg [qo 17 (.ldn 6 (.t 3)),
 qm 18 2,
 qo 19 (.call (.f 120) [(.t 17),(.t 18)]),
 qo 20 (.len (.t 19)),
 qo 21 (.mv (qk 0))])
 (.block 0 (.loop (.seq (.reg [qo 22 (.bin .lss (.t 21) (.t 20))])
 (.seq (.cond (.t 22) .skip
 (.exit 0))
 (.seq (.block 1 (.seq (.reg [qo 23 (.ixa 1 (.t 19) (.t 21)),
 qo 24 (.ld1 (.t 23)),
 qm 10 24])
 (.seq (.regD [qo 26 (.ldn 6 (.t 3)),
 qo 27 (.fad 1 (.t 3)),
 qd 28 (.ld1 (.t 27)) [1],
 qm 29 1,
 qd 30 (.bin .sub (.t 29) (qk 1)) [3],
 qd 31 (.ixa 12 (.t 28) (.t 30)) [2,1,4,3],
 qd 32 (.ldn 12 (.t 31)) [5,2,1,4,3],
 qo 33 (.ldn 6 (.t 3)),
 qm 34 2,
 qm 35 10,
 qd 36 (.call (.f 121) [(.t 33),(.t 34),(.t 35)]) [7,8,9],
 qd 37 (.call (.f 82) [(.t 26),(.t 32),(.t 36)]) [0,6,5,2,1,4,3,10,7,8,9],
 qd 25 (.mv (.t 37)) [11,0,6,5,2,1,4,3,10,7,8,9],
 qd 38 (.ext (.t 25) 0) [12,11,0,6,5,2,1,4,3,10,7,8,9],
 qd 39 (.ext (.t 25) 1) [12,11,0,6,5,2,1,4,3,10,7,8,9],
 qd 11 (.mv (.t 38)) [13,12,11,0,6,5,2,1,4,3,10,7,8,9],
 qd 12 (.mv (.t 39)) [14,12,11,0,6,5,2,1,4,3,10,7,8,9,15,13]])
 (.seq (.reg [qm 40 12])
 (.cond (.t 40) (.seq (.reg [qm 41 10,
 qm 42 11,
 qm 6 41,
 qm 7 42,
 qo 8 (.mv qt)])
 .ret)
 .skip)))))
 (.reg [qo 43 (.bin .add (.t 21) (qk 1)),
 qm 21 43])))))))
 (.seq (.reg [qo 6 (.mv (qk 0)),
 qo 7 (.mv (qk 0)),
 qo 8 (.mv qf)])
 .ret)))),
[(.t 6),(.t 7),(.t 8)])
theorem irOk85 : convFn Tryz.prog Tryz.f85 = some ir85 := by kernel_rfl
def ir63 : Nat × C × List RV := (79,
(.seq (.reg [qo 3 (.box 27 (.t 0)),
 qo 6 (.mv (qk 0)),
 qo 7 (.mv qf)])
 (.seq (.reg [qo 17 (.ldn 6 (.t 3)),
 qo 18 (.call (.f 61) [(.t 17)]),
 qm 8 18])
 (.seq (.seq (.reg [qo 19 (.ldn 6 (.t 3)),
 qm 20 1,
 qo 21 (.call (.f 84) [(.t 19),(.t 20)]),
 qo 22 (.not (.t 21)),
 qm 23 22,
 qg 24 (.mv (.t 8)) 23 false,
 qg 25 (.ixa 1 (.t 24) (qk 0)) 23 false,
 qg 26 (.ld1 (.t 25)) 23 false,
 qg 27 (.mv (.t 1)) 23 false,
 qg 28 (.bin .eql (.t 26) (.t 27)) 23 false,
 qo 29 (.pick (.t 23) qt (.t 28))])
 (.cond (.t 29) (.seq (.reg [qo 6 (.mv (qk 0)),
 qo 7 (.mv qf)])
 .ret)
 .skip))
 (.seq (.reg [qo 30 (.fad 1 (.t 3)),
 qo 31 (.ld1 (.t 30)),
 qm 32 1,
 qo 33 (.bin .sub (.t 32) (qk 1)),
 qo 34 (.ixa 12 (.t 31) (.t 33)),
 qo 35 (.ldn 12 (.t 34)),
 qo 9 (.new 47 [q0,q0,q0,q0,q0,q0,q0,q0,q0,q0,q0,q0]),
 qn (.st 12 (.t 9) (.t 35))])
 (.seq (.regD [qo 37 (.ldn 6 (.t 3)),
 qm 38 8,
 qd 39 (.ixa 1 (.t 38) (qk 0)) [1],
 qd 40 (.ld1 (.t 39)) [2,1],
 qm 41 2,
 qd 42 (.call (.f 85) [(.t 37),(.t 40),(.t 41)]) [0,3,2,1,4],
 qd 36 (.mv (.t 42)) [5,0,3,2,1,4],
 qd 43 (.ext (.t 36) 0) [6,5,0,3,2,1,4],
 qd 44 (.ext (.t 36) 1) [6,5,0,3,2,1,4],
 qd 45 (.ext (.t 36) 2) [6,5,0,3,2,1,4],
 qd 10 (.mv (.t 43)) [7,6,5,0,3,2,1,4],
 qd 11 (.mv (.t 44)) [8,6,5,0,3,2,1,4,10,7],
 qd 12 (.mv (.t 45)) [9,6,5,0,3,2,1,4,11,8,10,7]])
 (.seq (.seq (.regD [qo 47 (.ldn 6 (.t 3)),
 qo 48 (.ldn 12 (.t 9)),
 qo 49 (.ldn 6 (.t 3)),
 qd 50 (.call (.f 83) [(.t 49)]) [2],
 qm 51 11,
 qd 52 (.bin .andNot (.t 50) (.t 51)) [3,2,4],
 qd 53 (.call (.f 82) [(.t 47),(.t 48),(.t 52)]) [0,1,5,3,2,4],
 qd 46 (.mv (.t 53)) [6,0,1,5,3,2,4],
 qd 54 (.ext (.t 46) 0) [7,6,0,1,5,3,2,4],
 qd 55 (.ext (.t 46) 1) [7,6,0,1,5,3,2,4],
 qd 13 (.mv (.t 54)) [8,7,6,0,1,5,3,2,4],
 qd 14 (.mv (.t 55)) [9,7,6,0,1,5,3,2,4,10,8]])
 (.seq (.reg [qm 56 14])
 (.cond (.t 56) (.seq (.reg [qm 57 13,
 qm 6 57,
 qo 7 (.mv qt)])
 .ret)
 .skip)))
 (.seq (.reg [qo 59 (.ldn 6 (.t 3)),
 qm 60 1,
 qo 61 (.call (.f 62) [(.t 59),(.t 60)]),
 qm 58 61,
 qo 62 (.ext (.t 58) 0),
 qo 63 (.ext (.t 58) 1),
 qm 15 62,
 qm 16 63])
 (.seq (.seq (.reg [qm 64 12,
 qo 65 (.not (.t 64)),
 qm 66 65,
 qg 67 (.mv (.t 16)) 66 false,
 qg 68 (.not (.t 67)) 66 false,
 qo 69 (.pick (.t 66) qt (.t 68)),
 qm 70 69,
 qg 71 (.mv (.t 2)) 70 false,
 qg 72 (.fad 4 (.t 9)) 70 false,
 qg 73 (.ld1 (.t 72)) 70 false,
 qg 74 (.bin .add (.t 71) (.t 73)) 70 false,
 qg 75 (.mv (.t 10)) 70 false,
 qg 76 (.bin .gtr (.t 74) (.t 75)) 70 false,
 qo 77 (.pick (.t 70) qt (.t 76))])
 (.cond (.t 77) (.seq (.reg [qo 6 (.mv (qk 0)),
 qo 7 (.mv qf)])
 .ret)
 .skip))
 (.seq (.reg [qm 78 15,
 qm 6 78,
 qo 7 (.mv qt)])
 .ret))))))))),
[(.t 6),(.t 7)])
theorem irOk63 : convFn Tryz.prog Tryz.f63 = some ir63 := by kernel_rfl
def ir40 : Nat × C × List RV := (44,
(.seq (.reg [qo 2 (.box 27 (.t 0)),
 qo 4 (.mv (qk 0)),
 qo 5 (.mv (qk 0)),
 qo 6 (.mv qf)])
 (.scope (.seq (.reg [qo 7 (.mv (qk 0)),
 qo 8 (.mv (qk 0))])
 (.seq .skip
 (.seq (.seq (.reg [qo 13 (.ldn 6 (.t 2)),
 qo 14 (.call (.f 61) [(.t 13)]),
 qo 15 (.len (.t 14)),
 qo 16 (.mv (qk 0))])
 (.block 0 (.loop (.seq (.reg [qo 17 (.bin .lss (.t 16) (.t 15))])
 (.seq (.cond (.t 17) .skip
 (.exit 0))
 (.seq (.block 1 (.seq (.reg [qm 18 16,
 qo 19 (.ixa 1 (.t 14) (.t 16)),
 qo 20 (.ld1 (.t 19)),
 qm 9 18,
 qm 10 20])
 (.seq (.reg [qo 11 (.mv (qk 0)),
 qo 12 (.mv qf)])
 (.seq (.seq (.reg [qm 21 9,
 qo 22 (.bin .eql (.t 21) (qk 0))])
 (.cond (.t 22) (.reg [qo 24 (.ldn 6 (.t 2)),
 qm 25 10,
 qo 26 (.call (.f 62) [(.t 24),(.t 25)]),
 qm 23 26,
 qo 27 (.ext (.t 23) 0),
 qo 28 (.ext (.t 23) 1),
 qm 11 27,
 qm 12 28])
 (.reg [qo 30 (.ldn 6 (.t 2)),
 qm 31 10,
 qm 32 1,
 qo 33 (.call (.f 63) [(.t 30),(.t 31),(.t 32)]),
 qm 29 33,
 qo 34 (.ext (.t 29) 0),
 qo 35 (.ext (.t 29) 1),
 qm 11 34,
 qm 12 35])))
 (.seq (.reg [qm 36 12])
 (.cond (.t 36) (.seq (.reg [qm 37 10,
 qm 38 11,
 qm 7 37,
 qm 8 38])
 (.exit 0))
 .skip))))))
 (.reg [qo 39 (.bin .add (.t 16) (qk 1)),
 qm 16 39])))))))
 (.seq (.reg [qm 40 7,
 qm 41 8,
 qm 42 7,
 qo 43 (.bin .gtr (.t 42) (qk 0)),
 qm 4 40,
 qm 5 41,
 qm 6 43])
 .ret)))))),
[(.t 4),(.t 5),(.t 6)])
theorem irOk40 : convFn Tryz.prog Tryz.f40 = some ir40 := by kernel_rfl


theorem intR_get (l : List Int) (i : Nat) (h : i < l.length) : (intR l)[i]? = some [i64 (l.getD i 0)] := by
  unfold intR
  rw [List.getElem?_map, List.getElem?_eq_getElem h]
  simp [List.getD,h]
theorem intR_len (l : List Int) : (intR l).length = l.length := by unfold intR; rw [List.length_map]
theorem firstS_step (s : StateD) (j : JobD) (now : Int) (L : List Int) (i : Nat) (hi : i < L.length) : firstS s j now (L.drop i) =
    if (pickS s j (atN s now (L.getD i 0) s.jobs.length)).2 = true then (L.getD i 0, (pickS s j (atN s now (L.getD i 0) s.jobs.length)).1, true) else firstS s j now (L.drop (i + 1)) := by
  rw [List.drop_eq_getElem_cons hi, show L.getD i 0 = L[i] by simp [List.getD,hi]]
  rfl
def rsS (s : StateD) (job now : Int) (L : List Int) (k : Nat) : St := ⟨[(1, .int job), (2, .int now), (3, .ptr 0 0), (19, .d (.lst 1 (intR L))), (20, .int L.length), (21, .int k)], [some (boxS s)]⟩
set_option maxHeartbeats 8000000 in
theorem res_tri (s : StateD) (h : FitS s) (job now : Int) (h0 : TimeR now) : Tri Tryz.prog G 85 [stateV s, .int job, .int now] [] (.tup [.int (resS s job now).1, .int (resS s job now).2.1, .bool (resS s job now).2.2]) [] := by
  refine tri_W0 Tryz.func85 (by decide) irOk85 (Nat.le_of_ble_eq_true rfl) rfl ?_
  simp only [ir85,go_sem,simprocAttr]
  have hj := h.jobs
  unfold resS
  refine W_calld (queued_tri s hj job) rfl rfl rfl rfl ?_; simp only [go_sem,simprocAttr]
  rcases queued_cases s job with ⟨h1, hq⟩ | ⟨h1, h2, hq⟩ | ⟨i, rfl, hi, h1, h2, hq⟩
  · simp only [hq,if_neg (show ¬ false = true by decide),go_sem,simprocAttr]
  · simp only [hq,if_neg (show ¬ false = true by decide),go_sem,simprocAttr]
  have e1 := succ_pred i (by omega)
  have e2 := jobQ_at s i
  have hgi := get_mapD (f := jobR) zeroJob hi
  have hm := h.most i hi
  have hjo : joA s i = s.jobs.getD i zeroJob := rfl
  generalize s.jobs.getD i zeroJob = x at hgi hjo hq
  rw [hjo] at e2 hm
  simp only [jobR] at hgi
  by_cases h3 : x.phase = 0
  case neg => simp only [hq,decide_eq_false h3,if_neg (show ¬ false = true by decide),go_sem,simprocAttr]
  simp only [hq,decide_eq_true h3,if_true,go_sem,simprocAttr]
  refine W_calld (times_tri s h now h0) rfl rfl rfl rfl ?_; simp only [go_sem,simprocAttr]
  have hL := timesL_len s now
  simp only [e2,intR_len,go_sem,simprocAttr]
  generalize timesL s now = L at hL ⊢
  refine W_loopI [1, 2, 3, 19, 20, 21] [] (fun k : Nat => k ≤ L.length ∧ firstS s x now L = firstS s x now (L.drop k)) (fun k => L.length - k) (rsS s ((i + 1 : Nat) : Int) now L) 0 ?_ ⟨Nat.zero_le _, rfl⟩ (fun k hk => ?_)
  · simp only [rsS,boxS,Int.natCast_zero,go_sem,simprocAttr]
  obtain ⟨hk, hN⟩ := hk
  simp only [rsS,boxS,intR_len,List.length_map,go_sem,simprocAttr]
  by_cases hlt : k < L.length
  case neg =>
    obtain rfl : k = L.length := by omega
    rw [List.drop_length] at hN
    simp only [decide_eq_false (show ¬ ((L.length : Nat) : Int) < ((L.length : Nat) : Int) by omega),hN,firstS,go_sem,simprocAttr]
  have hgk := intR_get L k hlt
  have hs := firstS_step s x now L k hlt
  generalize L.getD k 0 = t at hgk hs
  rw [← hN] at hs
  simp only [decide_eq_true (show ((k : Nat) : Int) < ((L.length : Nat) : Int) by omega),hgk,e1,hgi,go_sem,simprocAttr]
  refine WD_calld (at_tri s h now t h0) rfl rfl rfl rfl ?_; simp only [go_sem,simprocAttr]
  refine WD_calld (pick_tri s x (atN s now t s.jobs.length) h.nodes (atN_s h now t _ (Nat.le_refl _)) hm) rfl rfl rfl rfl ?_; simp only [go_sem,simprocAttr]
  generalize pickS s x (atN s now t s.jobs.length) = r at hs ⊢
  obtain ⟨n, ok⟩ := r
  cases ok with
  | true =>
    rw [if_pos rfl] at hs
    simp only [hs,go_sem,simprocAttr]
  | false =>
    rw [if_neg Bool.false_ne_true] at hs
    simp only [go_sem,simprocAttr]
    refine W_lpI (k + 1) ?_ ?_ ⟨by omega, hs⟩ (by omega)
    · simp only [go_sem,simprocAttr]
    simp only [rsS,boxS,wrap_succ (show k < 9223372036854775807 by omega),go_sem,simprocAttr]

theorem line_some {s : StateD} {job : Int} (hq : queuedI s job = true) : 0 < (lineN s).length := by
  obtain ⟨i, _, hi⟩ := queuedI_iff.1 hq
  exact List.length_pos_of_mem (mem_line.2 (mem_queued.1 hi))
set_option maxHeartbeats 8000000 in
theorem fill_tri (s : StateD) (h : FitS s) (job now : Int) (h0 : TimeR now) : Tri Tryz.prog G 63 [stateV s, .int job, .int now] [] (.tup [.int (fillS s job now).1, .bool (fillS s job now).2]) [] := by
  refine tri_W0 Tryz.func63 (by decide) irOk63 (Nat.le_of_ble_eq_true rfl) rfl ?_
  simp only [ir63,go_sem,simprocAttr]
  have hj := h.jobs
  have hn := h.nodes
  unfold fillS
  refine W_calld (line_tri s hj h.prio) rfl rfl rfl rfl ?_; simp only [go_sem,simprocAttr]
  refine W_calld (queued_tri s hj job) rfl rfl rfl rfl ?_; simp only [go_sem,simprocAttr]
  cases hq : queuedI s job with
  | false => simp only [Bool.false_eq_true,true_or,if_true,go_sem,simprocAttr]
  | true =>
  have hl := line_some hq
  have hg0 := natR_get (lineN s) 0 hl
  have hh : ((((lineN s).getD 0 0 + 1 : Nat) : Int)) = headI s := rfl
  rw [hh] at hg0
  simp only [hg0,go_sem,simprocAttr]
  by_cases hhj : headI s = job
  · simp only [show (headI s == job) = true from beq_iff_eq.2 hhj,hhj,or_true,if_true,go_sem,simprocAttr]
  simp only [show (headI s == job) = false from beq_eq_false_iff_ne.2 hhj,Bool.true_eq_false,hhj,or_self,if_false,go_sem,simprocAttr]
  obtain ⟨i, rfl, hi⟩ := queuedI_iff.1 hq
  have hil := (mem_queued.1 hi).1
  have e1 := succ_pred i (by omega)
  have e2 := jobQ_at s i
  have hgi := get_mapD (f := jobR) zeroJob hil
  have hm := h.most i hil
  have hE := h.ends i hil
  have hjo : joA s i = s.jobs.getD i zeroJob := rfl
  generalize s.jobs.getD i zeroJob = x at hgi hjo
  rw [hjo] at e2 hm hE
  obtain ⟨w1, w2, w3⟩ := hE
  have hwr : IntKind.i64.wrap (now + x.work) = now + x.work := wrap_in (by have := h0.1; omega) (by have := h0.2; omega)
  simp only [jobR] at hgi
  simp only [e1,e2,hgi,hg0,go_sem,simprocAttr]
  refine WD_calld (res_tri s h (headI s) now h0) rfl rfl rfl rfl ?_; simp only [go_sem,simprocAttr]
  have h6 := h.res_6 (headI s) now
  generalize resS s (headI s) now = r at h6 ⊢
  obtain ⟨t, kept, ok⟩ := r
  simp only [go_sem,simprocAttr]
  refine WD_calld (fopen_tri s h.nodes) rfl rfl rfl rfl ?_; simp only [go_sem,simprocAttr]
  have hset := (andNotI_6 (free_6 h.nodes) h6).1
  refine WD_calld (pick_tri s x (andNotI .i64 (freeS s) kept) h.nodes hset hm) rfl rfl rfl rfl ?_; simp only [go_sem,simprocAttr]
  generalize pickS s x (andNotI .i64 (freeS s) kept) = pk
  obtain ⟨p1, p2⟩ := pk
  cases p2 with
  | true => simp only [if_true,go_sem,simprocAttr]
  | false =>
    simp only [if_neg Bool.false_ne_true,go_sem,simprocAttr]
    refine W_calld (now_tri s h ((i + 1 : Nat) : Int)) rfl rfl rfl rfl ?_; simp only [go_sem,simprocAttr]
    generalize nowS s ((i + 1 : Nat) : Int) = nw
    obtain ⟨n1, n2⟩ := nw
    cases ok with
    | false => simp only [true_or,if_true,go_sem,simprocAttr]
    | true =>
      cases n2 with
      | false => simp only [true_or,or_true,if_true,go_sem,simprocAttr]
      | true =>
        simp only [e1,hgi,hwr,go_sem,simprocAttr]
        by_cases h5 : t < now + x.work
        · simp only [decide_eq_true (show now + x.work > t from h5),h5,or_true,if_true,go_sem,simprocAttr]
        · simp only [decide_eq_false (show ¬ now + x.work > t from h5),h5,Bool.true_eq_false,or_self,if_false,go_sem,simprocAttr]

def nxS (s : StateD) (now : Int) (L : List Nat) (k : Nat) : St := ⟨[(1, .int now), (2, .ptr 0 0), (7, .int 0), (8, .int 0), (14, .d (.lst 1 (natR L))), (15, .int L.length), (16, .int k)], [some (boxS s)]⟩
set_option maxHeartbeats 8000000 in
theorem anext_tri (s : StateD) (h : FitS s) (now : Int) (h0 : TimeR now) : Tri Tryz.prog G 40 [stateV s, .int now] [] (.tup [.int (anextS s now).1, .int (anextS s now).2.1, .bool (anextS s now).2.2]) [] := by
  refine tri_W0 Tryz.func40 (by decide) irOk40 (Nat.le_of_ble_eq_true rfl) rfl ?_
  simp only [ir40,go_sem,simprocAttr]
  have hj := h.jobs
  have hL : (lineN s).length ≤ 1000 := by
    have := (lineN_perm s).length_eq
    have := queuedTo_len s s.jobs.length
    have e : queuedTo s s.jobs.length = queued s := rfl
    rw [e] at this
    omega
  unfold anextS
  refine W_calld (line_tri s hj h.prio) rfl rfl rfl rfl ?_; simp only [go_sem,simprocAttr]
  simp only [natR_len,go_sem,simprocAttr]
  generalize lineN s = L at hL ⊢
  refine W_loopI [1, 2, 7, 8, 14, 15, 16] [] (fun k : Nat => k ≤ L.length ∧ nextGo (nowS s) (fun k => fillS s k now) L 0 = nextGo (nowS s) (fun k => fillS s k now) (L.drop k) k) (fun k => L.length - k) (nxS s now L) 0 ?_ ⟨Nat.zero_le _, rfl⟩ (fun k hk => ?_)
  · simp only [nxS,boxS,Int.natCast_zero,go_sem,simprocAttr]
  obtain ⟨hk, hN⟩ := hk
  simp only [nxS,boxS,natR_len,go_sem,simprocAttr]
  by_cases hlt : k < L.length
  case neg =>
    obtain rfl : k = L.length := by omega
    rw [List.drop_length] at hN
    simp only [decide_eq_false (show ¬ ((L.length : Nat) : Int) < ((L.length : Nat) : Int) by omega),hN,nextGo,go_sem,simprocAttr] <;> rfl
  have hgk := natR_get L k hlt
  have hs := nextGo_step (nowS s) (fun k => fillS s k now) L k hlt
  have hpos : 0 < ((L.getD k 0 + 1 : Nat) : Int) := by omega
  generalize ((L.getD k 0 + 1 : Nat) : Int) = job at hgk hs hpos
  rw [← hN] at hs
  simp only [decide_eq_true (show ((k : Nat) : Int) < ((L.length : Nat) : Int) by omega),hgk,go_sem,simprocAttr]
  by_cases hk0 : k = 0
  case pos =>
    simp only [if_pos hk0] at hs
    simp only [show (((k : Nat) : Int) == 0) = true from beq_iff_eq.2 (by omega),go_sem,simprocAttr]
    refine W_calld (now_tri s h job) rfl rfl rfl rfl ?_; simp only [go_sem,simprocAttr]
    generalize nowS s job = r at hs ⊢
    obtain ⟨n, ok⟩ := r
    cases ok with
    | true =>
      rw [if_pos rfl] at hs
      simp only [hs,decide_eq_true (show job > 0 from hpos),go_sem,simprocAttr]
    | false =>
      rw [if_neg Bool.false_ne_true] at hs
      simp only [go_sem,simprocAttr]
      refine W_lpI (k + 1) ?_ ?_ ⟨by omega, hs⟩ (by omega)
      · simp only [go_sem,simprocAttr]
      simp only [nxS,boxS,wrap_succ (show k < 9223372036854775807 by omega),go_sem,simprocAttr]
  case neg =>
    simp only [if_neg hk0] at hs
    simp only [show (((k : Nat) : Int) == 0) = false from beq_eq_false_iff_ne.2 (by omega),go_sem,simprocAttr]
    refine W_calld (fill_tri s h job now h0) rfl rfl rfl rfl ?_; simp only [go_sem,simprocAttr]
    generalize fillS s job now = r at hs ⊢
    obtain ⟨n, ok⟩ := r
    cases ok with
    | true =>
      rw [if_pos rfl] at hs
      simp only [hs,decide_eq_true (show job > 0 from hpos),go_sem,simprocAttr]
    | false =>
      rw [if_neg Bool.false_ne_true] at hs
      simp only [go_sem,simprocAttr]
      refine W_lpI (k + 1) ?_ ?_ ⟨by omega, hs⟩ (by omega)
      · simp only [go_sem,simprocAttr]
      simp only [nxS,boxS,wrap_succ (show k < 9223372036854775807 by omega),go_sem,simprocAttr]
end Dv
