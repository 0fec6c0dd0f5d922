/- The plan's next op; the document's. -/
import Derived.Test.YtcanhhnmfkdclaaGreatDoorTC
import Derived.Test.YtcanhhnmfkdclaaGreatDoorT17
import Derived.Test.YtcanhhnmfkdclaaGreatDoorQ6
set_option linter.unusedVariables false
set_option linter.unusedSimpArgs false
namespace Dv
open Go Go.Proofs
variable {G : Nat → Option (List DV)}

def ir13 : Nat × C × List RV := (32,
(.seq (.reg [qo 2 (.box 27 (.t 0)),
 qo 4 (.mv (.c (.val (.slice none 0 0))))])
 (.seq (.reg [qo 5 (.mv (.c (.val (.slice none 0 0))))])
 (.seq (.seq (.reg [qo 8 (.fad 1 (.t 2)),
 qo 9 (.ld1 (.t 8)),
 qo 10 (.len (.t 9)),
 qo 11 (.mv (qk 0))])
 (.block 0 (.loop (.seq (.reg [qo 12 (.bin .lss (.t 11) (.t 10))])
 (.seq (.cond (.t 12) .skip
 (.exit 0))
 (.seq (.block 1 (.seq (.reg [qm 13 11,
 qo 14 (.ixa 12 (.t 9) (.t 11)),
 qo 15 (.ldn 12 (.t 14)),
 qo 7 (.new 47 [q0,q0,q0,q0,q0,q0,q0,q0,q0,q0,q0,q0]),
 qm 6 13,
 qn (.st 12 (.t 7) (.t 15))])
 (.seq (.reg [qo 16 (.fad 6 (.t 7)),
 qo 17 (.ld1 (.t 16)),
 qo 18 (.bin .eql (.t 17) (qk 3)),
 qm 19 18,
 qg 20 (.fad 10 (.t 7)) 19 true,
 qg 21 (.ld1 (.t 20)) 19 true,
 qg 22 (.mv (.t 1)) 19 true,
 qg 23 (.bin .leq (.t 21) (.t 22)) 19 true,
 qo 24 (.pick (.t 19) (.t 23) qf)])
 (.cond (.t 24) (.reg [qm 25 5,
 qm 26 6,
 qo 27 (.bin .add (.t 26) (qk 1)),
 qo 28 (.bsl 3 1 [(.t 27)]),
 qo 29 (.app 3 1 8 (.t 25) (.t 28)),
 qm 5 29])
 .skip))))
 (.reg [qo 30 (.bin .add (.t 11) (qk 1)),
 qm 11 30])))))))
 (.seq (.reg [qm 31 5,
 qm 4 31])
 .ret)))),
[(.t 4)])
theorem irOk13 : convFn Tryz.prog Tryz.f13 = some ir13 := by kernel_rfl
def ir24 : Nat × C × List RV := (20,
(.seq (.reg [qo 3 (.box 23 (.t 0)),
 qo 4 (.box 27 (.t 1)),
 qo 6 (.new 32 [q0,q0,q0,q0,q0,q0,q0]),
 qo 7 (.mv qf)])
 (.seq (.reg [qo 9 (.ldn 6 (.t 4)),
 qm 10 2,
 qo 11 (.call (.f 13) [(.t 9),(.t 10)]),
 qm 8 11])
 (.seq (.seq (.reg [qm 12 8,
 qo 13 (.len (.t 12)),
 qo 14 (.bin .eql (.t 13) (qk 0))])
 (.cond (.t 14) (.seq (.reg [qo 15 (.build [q0,q0,q0,q0,q0,q0,q0] []),
 qn (.st 7 (.t 6) (.t 15)),
 qo 7 (.mv qf)])
 .ret)
 .skip))
 (.seq (.reg [qm 16 8,
 qo 17 (.ixa 1 (.t 16) (qk 0)),
 qo 18 (.ld1 (.t 17)),
 qo 19 (.build [q0,q0,q0,q0,q0,q0,q0] [(0,1,(qk 14)),(1,1,(.t 18))]),
 qn (.st 7 (.t 6) (.t 19)),
 qo 7 (.mv qt)])
 .ret)))),
[(.cn 6 7),(.t 7)])
theorem irOk24 : convFn Tryz.prog Tryz.f24 = some ir24 := by kernel_rfl
def ir26 : Nat × C × List RV := (24,
(.seq (.reg [qo 3 (.box 23 (.t 0)),
 qo 4 (.box 27 (.t 1)),
 qo 6 (.new 32 [q0,q0,q0,q0,q0,q0,q0]),
 qo 7 (.mv qf)])
 (.seq (.reg [qo 12 (.ldn 6 (.t 4)),
 qm 13 2,
 qo 14 (.call (.f 40) [(.t 12),(.t 13)]),
 qm 11 14,
 qo 15 (.ext (.t 11) 0),
 qo 16 (.ext (.t 11) 1),
 qo 17 (.ext (.t 11) 2),
 qm 8 15,
 qm 9 16,
 qm 10 17])
 (.seq (.seq (.reg [qm 18 10,
 qo 19 (.not (.t 18))])
 (.cond (.t 19) (.seq (.reg [qo 20 (.build [q0,q0,q0,q0,q0,q0,q0] []),
 qn (.st 7 (.t 6) (.t 20)),
 qo 7 (.mv qf)])
 .ret)
 .skip))
 (.seq (.reg [qm 21 8,
 qm 22 9,
 qo 23 (.build [q0,q0,q0,q0,q0,q0,q0] [(0,1,(qk 9)),(1,1,(.t 21)),(2,1,(.t 22))]),
 qn (.st 7 (.t 6) (.t 23)),
 qo 7 (.mv qt)])
 .ret)))),
[(.cn 6 7),(.t 7)])
theorem irOk26 : convFn Tryz.prog Tryz.f26 = some ir26 := by kernel_rfl
def ir10 : Nat × C × List RV := (32,
(.seq (.reg [qo 3 (.box 23 (.t 0)),
 qo 4 (.box 27 (.t 1)),
 qo 6 (.new 32 [q0,q0,q0,q0,q0,q0,q0]),
 qo 7 (.mv qf)])
 (.seq (.seq (.reg [qo 12 (.build [(.val .nilFunc)] [(0,1,(.f 24))]),
 qo 13 (.build [(.val .nilFunc)] [(0,1,(.f 25))]),
 qo 14 (.build [(.val .nilFunc)] [(0,1,(.f 26))]),
 qo 15 (.build [(.val .nilFunc),(.val .nilFunc),(.val .nilFunc)] [(0,1,(.t 12)),(1,1,(.t 13)),(2,1,(.t 14))]),
 qo 16 (.mv (qk 0))])
 (.block 0 (.loop (.seq (.reg [qo 17 (.bin .lss (.t 16) (qk 3))])
 (.seq (.cond (.t 17) .skip
 (.exit 0))
 (.seq (.block 1 (.seq (.reg [qo 18 (.ixn 3 1 (.t 15) (.t 16)),
 qo 9 (.new 56 [(.val .nilFunc)]),
 qn (.st 1 (.t 9) (.t 18))])
 (.seq (.reg [qo 20 (.fad 0 (.t 9)),
 qo 21 (.ld1 (.t 20)),
 qo 22 (.ldn 9 (.t 3)),
 qo 23 (.ldn 6 (.t 4)),
 qm 24 2,
 qo 25 (.call (.t 21) [(.t 22),(.t 23),(.t 24)]),
 qm 19 25,
 qo 26 (.ext (.t 19) 0),
 qo 27 (.ext (.t 19) 1),
 qo 10 (.new 32 [q0,q0,q0,q0,q0,q0,q0]),
 qn (.st 7 (.t 10) (.t 26)),
 qm 11 27])
 (.seq (.reg [qm 28 11])
 (.cond (.t 28) (.seq (.reg [qo 29 (.ldn 7 (.t 10)),
 qn (.st 7 (.t 6) (.t 29)),
 qo 7 (.mv qt)])
 .ret)
 .skip)))))
 (.reg [qo 30 (.bin .add (.t 16) (qk 1)),
 qm 16 30])))))))
 (.seq (.reg [qo 31 (.build [q0,q0,q0,q0,q0,q0,q0] []),
 qn (.st 7 (.t 6) (.t 31)),
 qo 7 (.mv qf)])
 .ret))),
[(.cn 6 7),(.t 7)])
theorem irOk10 : convFn Tryz.prog Tryz.f10 = some ir10 := by kernel_rfl
def ir14 : Nat × C × List RV := (38,
(.seq (.reg [qo 2 (.box 27 (.t 0)),
 qo 4 (.mv (.c (.val (.slice none 0 0))))])
 (.seq (.reg [qo 5 (.mv (.c (.val (.slice none 0 0))))])
 (.seq (.seq (.reg [qo 6 (.mv (qk 1))])
 (.block 0 (.loop (.seq (.seq (.reg [qm 7 6,
 qo 8 (.fad 1 (.t 2)),
 qo 9 (.ld1 (.t 8)),
 qo 10 (.len (.t 9)),
 qo 11 (.bin .leq (.t 7) (.t 10))])
 (.cond (.t 11) .skip
 (.exit 0)))
 (.seq (.block 1 (.seq (.reg [qo 14 (.fad 1 (.t 2)),
 qo 15 (.ld1 (.t 14)),
 qm 16 6,
 qo 17 (.bin .sub (.t 16) (qk 1)),
 qo 18 (.ixa 12 (.t 15) (.t 17)),
 qo 19 (.fad 6 (.t 18)),
 qo 20 (.ld1 (.t 19)),
 qo 21 (.bin .eql (.t 20) (qk 3)),
 qm 22 21,
 qg 23 (.mv (.t 1)) 22 true,
 qg 24 (.fad 1 (.t 2)) 22 true,
 qg 25 (.ld1 (.t 24)) 22 true,
 qg 26 (.mv (.t 6)) 22 true,
 qg 27 (.bin .sub (.t 26) (qk 1)) 22 true,
 qg 28 (.ixa 12 (.t 25) (.t 27)) 22 true,
 qg 29 (.fad 10 (.t 28)) 22 true,
 qg 30 (.ld1 (.t 29)) 22 true,
 qg 31 (.bin .geq (.t 23) (.t 30)) 22 true,
 qo 32 (.pick (.t 22) (.t 31) qf)])
 (.cond (.t 32) (.reg [qm 33 5,
 qm 34 6,
 qo 35 (.bsl 3 1 [(.t 34)]),
 qo 36 (.app 3 1 8 (.t 33) (.t 35)),
 qm 5 36])
 .skip)))
 (.reg [qm 12 6,
 qo 13 (.bin .add (.t 12) (qk 1)),
 qm 6 13]))))))
 (.seq (.reg [qm 37 5,
 qm 4 37])
 .ret)))),
[(.t 4)])
theorem irOk14 : convFn Tryz.prog Tryz.f14 = some ir14 := by kernel_rfl
def ir11 : Nat × C × List RV := (45,
(.seq (.reg [qo 3 (.box 23 (.t 0)),
 qo 4 (.box 27 (.t 1)),
 qo 6 (.new 32 [q0,q0,q0,q0,q0,q0,q0]),
 qo 7 (.mv qf)])
 (.seq (.reg [qo 14 (.ldn 6 (.t 4)),
 qm 15 2,
 qo 16 (.call (.f 14) [(.t 14),(.t 15)]),
 qm 8 16])
 (.seq (.seq (.reg [qm 17 8,
 qo 18 (.len (.t 17)),
 qo 19 (.bin .gtr (.t 18) (qk 0))])
 (.cond (.t 19) (.seq (.reg [qm 20 8,
 qo 21 (.ixa 1 (.t 20) (qk 0)),
 qo 22 (.ld1 (.t 21)),
 qo 23 (.build [q0,q0,q0,q0,q0,q0,q0] [(0,1,(qk 14)),(1,1,(.t 22))]),
 qn (.st 7 (.t 6) (.t 23)),
 qo 7 (.mv qt)])
 .ret)
 .skip))
 (.seq (.reg [qo 25 (.ldn 9 (.t 3)),
 qo 26 (.ldn 6 (.t 4)),
 qm 27 2,
 qo 28 (.call (.f 27) [(.t 25),(.t 26),(.t 27)]),
 qm 24 28,
 qo 29 (.ext (.t 24) 0),
 qo 30 (.ext (.t 24) 1),
 qo 9 (.new 32 [q0,q0,q0,q0,q0,q0,q0]),
 qn (.st 7 (.t 9) (.t 29)),
 qm 10 30])
 (.seq (.seq (.reg [qm 31 10])
 (.cond (.t 31) (.seq (.reg [qo 32 (.ldn 7 (.t 9)),
 qn (.st 7 (.t 6) (.t 32)),
 qo 7 (.mv qt)])
 .ret)
 .skip))
 (.seq (.reg [qo 34 (.ldn 6 (.t 4)),
 qm 35 2,
 qo 36 (.call (.f 28) [(.t 34),(.t 35)]),
 qm 33 36,
 qo 37 (.ext (.t 33) 0),
 qo 38 (.ext (.t 33) 1),
 qo 39 (.ext (.t 33) 2),
 qm 11 37,
 qm 12 38,
 qm 13 39])
 (.seq (.seq (.reg [qm 40 13])
 (.cond (.t 40) (.seq (.reg [qm 41 11,
 qm 42 12,
 qo 43 (.build [q0,q0,q0,q0,q0,q0,q0] [(0,1,(qk 9)),(1,1,(.t 41)),(2,1,(.t 42))]),
 qn (.st 7 (.t 6) (.t 43)),
 qo 7 (.mv qt)])
 .ret)
 .skip))
 (.seq (.reg [qo 44 (.build [q0,q0,q0,q0,q0,q0,q0] []),
 qn (.st 7 (.t 6) (.t 44)),
 qo 7 (.mv qf)])
 .ret)))))))),
[(.cn 6 7),(.t 7)])
theorem irOk11 : convFn Tryz.prog Tryz.f11 = some ir11 := by kernel_rfl


def ltS (s : StateD) (now : Int) (k : Nat) : St := ⟨[(1, .int now), (2, .ptr 0 0), (5, .sl 1 (lateTo s now k).length 1 0 (lateTo s now k).length), (9, jobsV s.jobs), (10, .int s.jobs.length), (11, .int k)], [some (boxS s), some (.dat 3 1 (natR (lateTo s now k)))]⟩
set_option maxHeartbeats 4000000 in
theorem late_tri (s : StateD) (now : Int) (hn : s.jobs.length ≤ 1000) : Tri Tryz.prog G 13 [stateV s, .int now] [] (.d (.lst 1 (natR (lateN s now)))) [] := by
  refine tri_W Tryz.func13 (by decide) irOk13 (Nat.le_of_ble_eq_true rfl) ?_
  simp only [ir13,go_sem,simprocAttr]
  refine W_loopI [1, 2, 5, 9, 10, 11] [.t 5 3 1] (fun k : Nat => k ≤ s.jobs.length) (fun k => s.jobs.length - k) (ltS s now) 0 ?_ (Nat.zero_le _) (fun k hk => ?_)
  · simp only [ltS,boxS,go_sem,simprocAttr,lateTo,List.range_zero,List.filter_nil,natR,Int.natCast_zero]
  simp only [ltS,boxS,List.length_map,go_sem,simprocAttr]
  by_cases hlt : k < s.jobs.length
  · have hg := get_mapD (f := jobR) zeroJob hlt
    have hk2 := lateTo_succ s now k
    have hlen := lateTo_len s now k
    have hbd : ((lateTo s now k).length + 1) * 8 ≤ 70368744177664 := by omega
    have hq : lateB s now k = (decide ((s.jobs.getD k zeroJob).phase = 3) && decide ((s.jobs.getD k zeroJob).til ≤ now)) := rfl
    generalize s.jobs.getD k zeroJob = j at *
    simp only [jobR] at hg
    simp only [decide_eq_true (show ((k : Nat) : Int) < ((s.jobs.length : Nat) : Int) by omega),hg,go_sem,simprocAttr]
    by_cases hb : j.phase = 3
    case neg =>
      rw [hq, decide_eq_false hb, Bool.false_and, if_neg (by decide), List.append_nil] at hk2
      simp only [show (j.phase == 3) = false from beq_eq_false_iff_ne.2 hb,go_sem,simprocAttr]
      refine W_lpI (k + 1) ?_ ?_ (by omega) (by omega)
      · simp only [go_sem,simprocAttr]
      · simp only [ltS,boxS,hk2,natR,List.map_append,List.length_append,go_sem,simprocAttr,wrap_succ (show k < 9223372036854775807 by omega)]
    simp only [show (j.phase == 3) = true from beq_iff_eq.2 hb,go_sem,simprocAttr]
    by_cases hu : j.til ≤ now
    · rw [hq, decide_eq_true hb, decide_eq_true hu, Bool.true_and, if_pos rfl] at hk2
      simp only [decide_eq_true hu,natR,List.length_append,hbd,wrap_succ (show k < 9223372036854775807 by omega),go_sem,simprocAttr]
      refine W_lpI (k + 1) ?_ ?_ (by omega) (by omega)
      · simp only [go_sem,simprocAttr]
      · simp only [ltS,boxS,hk2,natR,List.map_append,List.length_append,go_sem,simprocAttr,wrap_succ (show k < 9223372036854775807 by omega)]
    · rw [hq, decide_eq_false hu, Bool.and_false, if_neg (by decide), List.append_nil] at hk2
      simp only [decide_eq_false hu,go_sem,simprocAttr]
      refine W_lpI (k + 1) ?_ ?_ (by omega) (by omega)
      · simp only [go_sem,simprocAttr]
      · simp only [ltS,boxS,hk2,natR,List.map_append,List.length_append,go_sem,simprocAttr,wrap_succ (show k < 9223372036854775807 by omega)]
  · obtain rfl : k = s.jobs.length := by omega
    simp only [decide_eq_false (show ¬ ((s.jobs.length : Nat) : Int) < ((s.jobs.length : Nat) : Int) by omega),show lateTo s now s.jobs.length = lateN s now from rfl,go_sem,simprocAttr]
    exact BackZ [1] rfl (by simp [St.obj,objL]) (by simp [St.obj,objL,oneOr,St.get,getE,argR,rowsAt,natR,List.take_of_length_le])
def lt18S (s : StateD) (now : Int) (k : Nat) : St := ⟨[(1, .int now), (2, .ptr 0 0), (5, .sl 1 (lateTo s now k).length 1 0 (lateTo s now k).length), (6, .int ((k + 1 : Nat) : Int))], [some (boxS s), some (.dat 3 1 (natR (lateTo s now k)))]⟩
set_option maxHeartbeats 4000000 in
theorem late18_tri (s : StateD) (now : Int) (hn : s.jobs.length ≤ 1000) : Tri Tryz.prog G 14 [stateV s, .int now] [] (.d (.lst 1 (natR (lateN s now)))) [] := by
  refine tri_W Tryz.func14 (by decide) irOk14 (Nat.le_of_ble_eq_true rfl) ?_
  simp only [ir14,go_sem,simprocAttr]
  refine W_loopI [1, 2, 5, 6] [.t 5 3 1] (fun k : Nat => k ≤ s.jobs.length) (fun k => s.jobs.length - k) (lt18S s now) 0 ?_ (Nat.zero_le _) (fun k hk => ?_)
  · simp only [lt18S,boxS,go_sem,simprocAttr,lateTo,List.range_zero,List.filter_nil,natR,Int.natCast_one,Nat.zero_add]
  simp only [lt18S,boxS,List.length_map,go_sem,simprocAttr]
  by_cases hlt : k < s.jobs.length
  · have hg := get_mapD (f := jobR) zeroJob hlt
    have e1 := succ_pred k (by omega)
    have hk2 := lateTo_succ s now k
    have hlen := lateTo_len s now k
    have hbd : ((lateTo s now k).length + 1) * 8 ≤ 70368744177664 := by omega
    have hq : lateB s now k = (decide ((s.jobs.getD k zeroJob).phase = 3) && decide ((s.jobs.getD k zeroJob).til ≤ now)) := rfl
    generalize s.jobs.getD k zeroJob = j at *
    simp only [jobR] at hg
    simp only [decide_eq_true (show ((k + 1 : Nat) : Int) ≤ ((s.jobs.length : Nat) : Int) by omega),e1,hg,go_sem,simprocAttr]
    by_cases hb : j.phase = 3
    case neg =>
      rw [hq, decide_eq_false hb, Bool.false_and, if_neg (by decide), List.append_nil] at hk2
      simp only [show (j.phase == 3) = false from beq_eq_false_iff_ne.2 hb,go_sem,simprocAttr]
      refine W_lpI (k + 1) ?_ ?_ (by omega) (by omega)
      · simp only [go_sem,simprocAttr]
      · simp only [lt18S,boxS,hk2,natR,List.map_append,List.length_append,go_sem,simprocAttr,wrap_succ (show k + 1 < 9223372036854775807 by omega)]
    simp only [show (j.phase == 3) = true from beq_iff_eq.2 hb,e1,hg,go_sem,simprocAttr]
    by_cases hu : j.til ≤ now
    · rw [hq, decide_eq_true hb, decide_eq_true hu, Bool.true_and, if_pos rfl] at hk2
      simp only [decide_eq_true (show now ≥ j.til from hu),natR,List.length_append,hbd,go_sem,simprocAttr]
      refine W_lpI (k + 1) ?_ ?_ (by omega) (by omega)
      · simp only [go_sem,simprocAttr]
      · simp only [lt18S,boxS,hk2,natR,List.map_append,List.length_append,go_sem,simprocAttr,wrap_succ (show k + 1 < 9223372036854775807 by omega)]
    · rw [hq, decide_eq_false hu, Bool.and_false, if_neg (by decide), List.append_nil] at hk2
      simp only [decide_eq_false (show ¬ now ≥ j.til from hu),go_sem,simprocAttr]
      refine W_lpI (k + 1) ?_ ?_ (by omega) (by omega)
      · simp only [go_sem,simprocAttr]
      · simp only [lt18S,boxS,hk2,natR,List.map_append,List.length_append,go_sem,simprocAttr,wrap_succ (show k + 1 < 9223372036854775807 by omega)]
  · obtain rfl : k = s.jobs.length := by omega
    simp only [decide_eq_false (show ¬ ((s.jobs.length + 1 : Nat) : Int) ≤ ((s.jobs.length : Nat) : Int) by omega),show lateTo s now s.jobs.length = lateN s now from rfl,go_sem,simprocAttr]
    exact BackZ [1] rfl (by simp [St.obj,objL]) (by simp [St.obj,objL,oneOr,St.get,getE,argR,rowsAt,natR,List.take_of_length_le])

theorem pevict_tri (c : ConfD) (s : StateD) (now : Int) (hn : s.jobs.length ≤ 1000) : Tri Tryz.prog G 24 [confV c, stateV s, .int now] [] (optV (evictO s now)) [] := by
  refine tri_W0 Tryz.func24 (by decide) irOk24 (Nat.le_of_ble_eq_true rfl) rfl ?_
  simp only [ir24,go_sem,simprocAttr]
  unfold evictO
  refine W_calld (late_tri s now hn) rfl rfl rfl rfl ?_; simp only [go_sem,simprocAttr]
  cases lateN s now with
  | nil => simp only [natR,List.map_nil,List.length_nil,Int.natCast_zero,beq_self_eq_true,optV,Option.getD_none,Option.isSome_none,zeroOp,go_sem,simprocAttr]
  | cons k l =>
    simp only [natR,List.map_cons,List.length_cons,List.length_map,show ((((l.length + 1 : Nat) : Int)) == 0) = false from beq_eq_false_iff_ne.2 (by omega),List.getElem?_cons_zero,optV,Option.getD_some,Option.isSome_some,go_sem,simprocAttr]
theorem phold_tri (c : ConfD) (s : StateD) (h : FitS s) (now : Int) (h0 : TimeR now) : Tri Tryz.prog G 26 [confV c, stateV s, .int now] [] (optV (holdO s now)) [] := by
  refine tri_W0 Tryz.func26 (by decide) irOk26 (Nat.le_of_ble_eq_true rfl) rfl ?_
  simp only [ir26,go_sem,simprocAttr]
  unfold holdO
  refine W_calld (anext_tri s h now h0) rfl rfl rfl rfl ?_; simp only [go_sem,simprocAttr]
  generalize anextS s now = r
  obtain ⟨job, n, ok⟩ := r
  cases ok with
  | true => simp only [if_true,optV,Option.getD_some,Option.isSome_some,go_sem,simprocAttr]
  | false => simp only [Bool.false_eq_true,if_false,optV,Option.getD_none,Option.isSome_none,zeroOp,go_sem,simprocAttr]
def plFns : List LV := [.d (.fn (.func 24) [] []), .d (.fn (.func 25) [] []), .d (.fn (.func 26) [] [])]
def restP (c : ConfD) (s : StateD) (now : Int) : Nat → Option OpD
  | 0 => planO c s now
  | 1 => match nextW c s now with
    | some o => some o
    | none => holdO s now
  | 2 => holdO s now
  | _ => none
def plNS (c : ConfD) (s : StateD) (now : Int) (i : Nat) : St := ⟨[(2, .int now), (3, .ptr 0 0), (4, .ptr 1 0), (6, .ptr 2 0), (7, .bool false), (15, .agg plFns), (16, .int i)], [some (boxC7 c), some (boxS7 s), some opO7]⟩
theorem time_dead {c : ConfD} (hm : mayB c = true) {now : Int} (h0 : TimeR now) : -1000000000 ≤ now + c.deadline ∧ now + c.deadline ≤ 1000000000 := by
  unfold mayB at hm
  simp only [Bool.and_eq_true] at hm
  have := within_t hm.1.1.2
  have h1 := h0.1
  have h2 := h0.2
  omega
theorem RightP.nj {c : ConfD} {s : StateD} (h : RightP c s) : NJ s := ⟨by have := h.len; omega, by have := h.jobs; omega, h.job⟩
set_option maxHeartbeats 4000000 in
theorem plan_tri (c : ConfD) (s : StateD) (h : RightP c s) (now : Int) (h0 : TimeR now) : Tri Tryz.prog G 10 [confV c, stateV s, .int now] [] (optV (planO c s now)) [] := by
  refine tri_W0 Tryz.func10 (by decide) irOk10 (Nat.le_of_ble_eq_true rfl) rfl ?_
  simp only [ir10,go_sem,simprocAttr]
  generalize hr : planO c s now = r
  have hd := time_dead h.conf h0
  refine W_loopI [2, 3, 4, 6, 7, 15, 16] [] (fun i : Nat => i ≤ 3 ∧ restP c s now i = r) (fun i => 3 - i) (plNS c s now) 0 ?_ ⟨by omega, hr⟩ ?_
  · simp only [plNS,plFns,boxC7,boxS7,opO7,Int.natCast_zero,go_sem,simprocAttr]
  clear hr
  rintro i ⟨hi, hr⟩
  simp only [plNS,plFns,boxC7,boxS7,opO7,go_sem,simprocAttr]
  match i, hi with
  | 0, _ =>
    simp only [restP,planO] at hr
    simp only [show (decide (((0 : Nat) : Int) < 3)) = true from rfl,go_sem,simprocAttr]
    refine W_calld (pevict_tri c s now (by have := h.jobs; omega)) rfl rfl rfl rfl ?_; simp only [go_sem,simprocAttr]
    generalize evictO s now = o at hr ⊢
    cases o with
    | some o =>
      try dsimp only at hr
      subst hr
      obtain ⟨o1, o2, o3, o4, o5, o6, o7⟩ := o
      simp only [optV,Option.getD_some,Option.isSome_some,go_sem,simprocAttr]
    | none =>
      try dsimp only at hr
      simp only [optV,Option.getD_none,Option.isSome_none,zeroOp,go_sem,simprocAttr]
      refine W_lpI 1 ?_ ?_ ⟨by omega, by first | exact hr | (subst hr; rfl)⟩ (by omega)
      · simp only [go_sem,simprocAttr]
      · simp only [plNS,plFns,boxC7,boxS7,opO7,go_sem,simprocAttr]
        rfl
  | 1, _ =>
    simp only [restP] at hr
    simp only [show (decide (((1 : Nat) : Int) < 3)) = true from rfl,go_sem,simprocAttr]
    refine W_calld (next_tri c s now h.nj hd) rfl rfl rfl rfl ?_; simp only [go_sem,simprocAttr]
    generalize nextW c s now = o at hr ⊢
    cases o with
    | some o =>
      try dsimp only at hr
      subst hr
      obtain ⟨o1, o2, o3, o4, o5, o6, o7⟩ := o
      simp only [optV,Option.getD_some,Option.isSome_some,go_sem,simprocAttr]
    | none =>
      try dsimp only at hr
      simp only [optV,Option.getD_none,Option.isSome_none,zeroOp,go_sem,simprocAttr]
      refine W_lpI 2 ?_ ?_ ⟨by omega, by first | exact hr | (subst hr; rfl)⟩ (by omega)
      · simp only [go_sem,simprocAttr]
      · simp only [plNS,plFns,boxC7,boxS7,opO7,go_sem,simprocAttr]
        rfl
  | 2, _ =>
    simp only [restP] at hr
    simp only [show (decide (((2 : Nat) : Int) < 3)) = true from rfl,go_sem,simprocAttr]
    refine W_calld (phold_tri c s h.fits now h0) rfl rfl rfl rfl ?_; simp only [go_sem,simprocAttr]
    generalize holdO s now = o at hr ⊢
    cases o with
    | some o =>
      try dsimp only at hr
      subst hr
      obtain ⟨o1, o2, o3, o4, o5, o6, o7⟩ := o
      simp only [optV,Option.getD_some,Option.isSome_some,go_sem,simprocAttr]
    | none =>
      try dsimp only at hr
      simp only [optV,Option.getD_none,Option.isSome_none,zeroOp,go_sem,simprocAttr]
      refine W_lpI 3 ?_ ?_ ⟨by omega, by first | exact hr | (subst hr; rfl)⟩ (by omega)
      · simp only [go_sem,simprocAttr]
      · simp only [plNS,plFns,boxC7,boxS7,opO7,go_sem,simprocAttr]
        rfl
  | 3, _ =>
    simp only [restP] at hr
    subst hr
    simp only [show (decide (((3 : Nat) : Int) < 3)) = false from rfl,optV,Option.getD_none,Option.isSome_none,zeroOp,go_sem,simprocAttr]
end Dv
