/- The logical machine and its plain laws: parts D9, D10, D11, D12, D13, D14, proved sound. -/
import Derived.Test.YtkalnfkokkjliaaGreatDoorD7
import Derived.Test.YtkalnfkokkjliaaGreatDoorPA
set_option linter.unusedVariables false
set_option linter.unusedSimpArgs false
namespace Dv
open Go Go.Proofs
variable {G : Nat → Option (List DV)}

def ir219 : Nat × C × List RV := (58,
(.seq (.reg [qm 8 0,
 qo 9 (.nck (.t 8)),
 qo 10 (.fad 9 (.t 9)),
 qo 11 (.fad 1 (.t 10)),
 qo 12 (.ld1 (.t 11)),
 qm 13 1,
 qo 14 (.bin .sub (.t 13) (qk 1)),
 qo 15 (.ixa 12 (.t 12) (.t 14)),
 qm 6 15])
 (.seq (.seq (.reg [qm 16 0,
 qo 17 (.nck (.t 16)),
 qo 18 (.fad 9 (.t 17)),
 qo 19 (.fad 0 (.t 18)),
 qo 20 (.ld1 (.t 19)),
 qo 21 (.len (.t 20)),
 qo 22 (.mv (qk 0))])
 (.block 0 (.loop (.seq (.reg [qo 23 (.bin .lss (.t 22) (.t 21))])
 (.seq (.cond (.t 23) .skip
 (.exit 0))
 (.seq (.block 1 (.seq (.reg [qm 24 22,
 qm 7 24])
 (.seq (.reg [qm 25 0,
 qo 26 (.nck (.t 25)),
 qo 27 (.fad 9 (.t 26)),
 qo 28 (.fad 0 (.t 27)),
 qo 29 (.ld1 (.t 28)),
 qm 30 7,
 qo 31 (.ixa 5 (.t 29) (.t 30)),
 qo 32 (.fad 4 (.t 31)),
 qo 33 (.ld1 (.t 32)),
 qm 34 1,
 qo 35 (.bin .eql (.t 33) (.t 34))])
 (.cond (.t 35) (.reg [qm 36 0,
 qo 37 (.nck (.t 36)),
 qo 38 (.fad 9 (.t 37)),
 qo 39 (.fad 0 (.t 38)),
 qo 40 (.ld1 (.t 39)),
 qm 41 7,
 qo 42 (.ixa 5 (.t 40) (.t 41)),
 qo 43 (.fad 4 (.t 42)),
 qn (.st 1 (.t 43) (qk 0))])
 .skip))))
 (.reg [qo 44 (.bin .add (.t 22) (qk 1)),
 qm 22 44])))))))
 (.reg [qm 45 6,
 qm 46 6,
 qm 47 6,
 qm 48 6,
 qm 49 2,
 qo 50 (.nck (.t 45)),
 qo 51 (.fad 6 (.t 50)),
 qn (.st 1 (.t 51) (.t 49)),
 qo 52 (.nck (.t 46)),
 qo 53 (.fad 8 (.t 52)),
 qn (.st 1 (.t 53) (qk 0)),
 qo 54 (.nck (.t 47)),
 qo 55 (.fad 9 (.t 54)),
 qn (.st 1 (.t 55) (qk 0)),
 qo 56 (.nck (.t 48)),
 qo 57 (.fad 10 (.t 56)),
 qn (.st 1 (.t 57) (qk 0))]))),
[])
theorem irOk219 : convFn Tryz.prog Tryz.f219 = some ir219 := by kernel_rfl
def ir264 : Nat × C × List RV := (7,
(.seq (.reg [qo 4 (.mv (qk 0))])
 (.seq (.seq (.reg [qm 5 0])
 (.cond (.t 5) (.seq (.reg [qo 4 (.mv (qk 0))])
 .ret)
 .skip))
 (.seq (.reg [qm 6 1,
 qm 4 6])
 .ret))),
[(.t 4)])
theorem irOk264 : convFn Tryz.prog Tryz.f264 = some ir264 := by kernel_rfl
def ir221 : Nat × C × List RV := (15,
(.seq (.reg [qo 6 (.mv (qk 0))])
 (.seq (.seq (.reg [qm 7 1])
 (.cond (.t 7) (.reg [qm 8 0,
 qm 9 2,
 qo 10 (.nck (.t 8)),
 qo 11 (.fad 9 (.t 10)),
 qo 12 (.fad 4 (.t 11)),
 qn (.st 1 (.t 12) (.t 9))])
 .skip))
 (.seq (.reg [qm 13 1,
 qo 14 (.call (.f 264) [(.t 13),(qk 5)]),
 qm 6 14])
 .ret))),
[(.t 6)])
theorem irOk221 : convFn Tryz.prog Tryz.f221 = some ir221 := by kernel_rfl
def ir148 : Nat × C × List RV := (11,
(.seq (.reg [qo 2 (.mv (qk 0))])
 (.seq (.reg [qm 3 0,
 qm 4 0,
 qo 5 (.nck (.t 4)),
 qo 6 (.fad 9 (.t 5)),
 qo 7 (.fad 4 (.t 6)),
 qo 8 (.ld1 (.t 7)),
 qo 9 (.bin .eql (.t 8) (qk 0)),
 qo 10 (.call (.f 221) [(.t 3),(.t 9),(qk 1)]),
 qm 2 10])
 .ret)),
[(.t 2)])
theorem irOk148 : convFn Tryz.prog Tryz.f148 = some ir148 := by kernel_rfl
def ir149 : Nat × C × List RV := (11,
(.seq (.reg [qo 2 (.mv (qk 0))])
 (.seq (.reg [qm 3 0,
 qm 4 0,
 qo 5 (.nck (.t 4)),
 qo 6 (.fad 9 (.t 5)),
 qo 7 (.fad 4 (.t 6)),
 qo 8 (.ld1 (.t 7)),
 qo 9 (.bin .eql (.t 8) (qk 1)),
 qo 10 (.call (.f 221) [(.t 3),(.t 9),(qk 0)]),
 qm 2 10])
 .ret)),
[(.t 2)])
theorem irOk149 : convFn Tryz.prog Tryz.f149 = some ir149 := by kernel_rfl
def ir150 : Nat × C × List RV := (11,
(.seq (.reg [qo 2 (.mv (qk 0))])
 (.seq (.reg [qm 3 0,
 qm 4 0,
 qo 5 (.nck (.t 4)),
 qo 6 (.fad 9 (.t 5)),
 qo 7 (.fad 4 (.t 6)),
 qo 8 (.ld1 (.t 7)),
 qo 9 (.bin .neq (.t 8) (qk 2)),
 qo 10 (.call (.f 221) [(.t 3),(.t 9),(qk 2)]),
 qm 2 10])
 .ret)),
[(.t 2)])
theorem irOk150 : convFn Tryz.prog Tryz.f150 = some ir150 := by kernel_rfl
def ir147 : Nat × C × List RV := (32,
(.seq (.reg [qo 2 (.mv (qk 0))])
 (.seq (.seq (.reg [qm 3 0,
 qo 4 (.nck (.t 3)),
 qo 5 (.fad 15 (.t 4)),
 qo 6 (.fad 1 (.t 5)),
 qo 7 (.ld1 (.t 6)),
 qo 8 (.call (.f 112) [(.t 7),(qk 1),(qk 9)]),
 qo 9 (.not (.t 8))])
 (.cond (.t 9) (.seq (.reg [qo 2 (.mv (qk 1))])
 .ret)
 .skip))
 (.seq (.regD [qm 10 0,
 qm 11 0,
 qm 12 0,
 qm 13 0,
 qd 14 (.nck (.t 13)) [3],
 qd 15 (.fad 9 (.t 14)) [4,3],
 qd 16 (.ldn 6 (.t 15)) [5,4,3],
 qd 17 (.call (.f 220) [(.t 16)]) [6,5,4,3],
 qm 18 0,
 qd 19 (.nck (.t 18)) [8],
 qd 20 (.fad 15 (.t 19)) [9,8],
 qd 21 (.fad 1 (.t 20)) [10,9,8],
 qd 22 (.ld1 (.t 21)) [11,10,9,8],
 qd 23 (.nck (.t 10)) [0,3,4,5,6,7,12,11,10,9,8],
 qd 24 (.fad 9 (.t 23)) [13,0,3,4,5,6,7,12,11,10,9,8],
 qd 25 (.fad 3 (.t 24)) [14,13,0,3,4,5,6,7,12,11,10,9,8],
 ql (.st 1 (.t 25) (.t 17)) [15,14,13,0,3,4,5,6,7,12,11,10,9,8],
 qd 26 (.nck (.t 11)) [1,0,3,4,5,6,7,8,9,10,11,12,13,14,15,16],
 qd 27 (.fad 9 (.t 26)) [17,1,0,3,4,5,6,7,8,9,10,11,12,13,14,15,16],
 qd 28 (.fad 2 (.t 27)) [18,17,1,0,3,4,5,6,7,8,9,10,11,12,13,14,15,16],
 ql (.st 1 (.t 28) (.t 22)) [19,18,17,1,0,3,4,5,6,7,8,9,10,11,12,13,14,15,16],
 qd 29 (.nck (.t 12)) [2,0,1,3,4,5,6,7,8,9,10,11,12,13,14,15,16,17,18,19,20],
 qd 30 (.fad 9 (.t 29)) [21,2,0,1,3,4,5,6,7,8,9,10,11,12,13,14,15,16,17,18,19,20],
 qd 31 (.fad 4 (.t 30)) [22,21,2,0,1,3,4,5,6,7,8,9,10,11,12,13,14,15,16,17,18,19,20],
 ql (.st 1 (.t 31) (qk 0)) [23,22,21,2,0,1,3,4,5,6,7,8,9,10,11,12,13,14,15,16,17,18,19,20]])
 (.seq (.reg [qo 2 (.mv (qk 0))])
 .ret)))),
[(.t 2)])
theorem irOk147 : convFn Tryz.prog Tryz.f147 = some ir147 := by kernel_rfl
def ir165 : Nat × C × List RV := (18,
(.seq (.reg [qo 2 (.mv (qk 0))])
 (.seq (.seq (.reg [qm 3 0,
 qo 4 (.nck (.t 3)),
 qo 5 (.fad 9 (.t 4)),
 qo 6 (.fad 5 (.t 5)),
 qo 7 (.ld1 (.t 6)),
 qo 8 (.bin .geq (.t 7) (qk 1000000))])
 (.cond (.t 8) (.seq (.reg [qo 2 (.mv (qk 3))])
 .ret)
 .skip))
 (.seq (.reg [qm 9 0,
 qo 10 (.nck (.t 9)),
 qo 11 (.fad 9 (.t 10)),
 qo 12 (.fad 5 (.t 11)),
 qo 13 (.ld1 (.t 12)),
 qo 14 (.bin .add (.t 13) (qk 1)),
 qo 15 (.nck (.t 9)),
 qo 16 (.fad 9 (.t 15)),
 qo 17 (.fad 5 (.t 16)),
 qn (.st 1 (.t 17) (.t 14))])
 (.seq (.reg [qo 2 (.mv (qk 0))])
 .ret)))),
[(.t 2)])
theorem irOk165 : convFn Tryz.prog Tryz.f165 = some ir165 := by kernel_rfl
def ir145 : Nat × C × List RV := (50,
(.seq (.reg [qo 2 (.mv (qk 0))])
 (.seq (.reg [qm 5 0,
 qo 6 (.nck (.t 5)),
 qo 7 (.fad 15 (.t 6)),
 qo 8 (.ldn 7 (.t 7)),
 qo 3 (.new 37 [q0,q0,q0,q0,q0,q0,q0]),
 qn (.st 7 (.t 3) (.t 8))])
 (.seq (.reg [qo 9 (.fad 1 (.t 3)),
 qo 10 (.ld1 (.t 9)),
 qo 11 (.fad 2 (.t 3)),
 qo 12 (.ld1 (.t 11)),
 qo 13 (.fad 3 (.t 3)),
 qo 14 (.ld1 (.t 13)),
 qo 15 (.fad 4 (.t 3)),
 qo 16 (.ld1 (.t 15)),
 qo 17 (.fad 5 (.t 3)),
 qo 18 (.ld1 (.t 17)),
 qo 19 (.fad 6 (.t 3)),
 qo 20 (.ld1 (.t 19)),
 qo 21 (.build [q0,q0,q0,q0,q0,q0,q0,q0,q0,q0,q0,q0] [(0,1,(.t 10)),(1,1,(.t 12)),(2,1,(.t 14)),(3,1,(.t 16)),(4,1,(.t 18)),(5,1,(.t 20))]),
 qo 4 (.new 119 [q0,q0,q0,q0,q0,q0,q0,q0,q0,q0,q0,q0]),
 qn (.st 12 (.t 4) (.t 21))])
 (.seq (.block 0 (.seq (.regD [qm 23 0,
 qd 24 (.nck (.t 23)) [0],
 qd 25 (.fad 0 (.t 24)) [1,0],
 qd 26 (.ldn 9 (.t 25)) [2,1,0],
 qo 27 (.ldn 12 (.t 4)),
 qd 28 (.call (.f 194) [(.t 26),(.t 27)]) [3,2,1,0,4],
 qd 29 (.not (.t 28)) [5,3,2,1,0,4],
 qd 22 (.mv (.t 29)) [6,5,3,2,1,0,4]])
 (.cond (.t 22) (.seq (.reg [qo 2 (.mv (qk 1))])
 .ret)
 (.seq (.reg [qm 31 0,
 qo 32 (.nck (.t 31)),
 qo 33 (.fad 9 (.t 32)),
 qo 34 (.fad 1 (.t 33)),
 qo 35 (.ld1 (.t 34)),
 qo 36 (.len (.t 35)),
 qo 37 (.bin .geq (.t 36) (qk 24)),
 qm 30 37])
 (.cond (.t 30) (.seq (.reg [qo 2 (.mv (qk 3))])
 .ret)
 .skip)))))
 (.seq (.regD [qm 38 0,
 qm 39 0,
 qd 40 (.nck (.t 39)) [1],
 qd 41 (.fad 9 (.t 40)) [2,1],
 qd 42 (.fad 1 (.t 41)) [3,2,1],
 qd 43 (.ld1 (.t 42)) [4,3,2,1],
 qo 44 (.ldn 12 (.t 4)),
 qd 45 (.bsl 119 12 [(.t 44)]) [6],
 qd 46 (.app 119 12 96 (.t 43) (.t 45)) [5,4,3,2,1,7,6],
 qd 47 (.nck (.t 38)) [0,1,2,3,4,5,6,7,8],
 qd 48 (.fad 9 (.t 47)) [9,0,1,2,3,4,5,6,7,8],
 qd 49 (.fad 1 (.t 48)) [10,9,0,1,2,3,4,5,6,7,8],
 ql (.st 1 (.t 49) (.t 46)) [11,10,9,0,1,2,3,4,5,6,7,8]])
 (.seq (.reg [qo 2 (.mv (qk 0))])
 .ret)))))),
[(.t 2)])
theorem irOk145 : convFn Tryz.prog Tryz.f145 = some ir145 := by kernel_rfl


@[reducible] def workO (c : ConfD) (s : StateD) (o : OpD) (jp np : LV) : List LObj :=
  [.box 133 [.int c.nodes, .int c.queues, .int c.quota, .int c.wave, .int c.lease, .int c.retry, .int c.deadline, .int c.room, .int c.disk,
    .sl 1 s.nodes.length 5 0 s.nodes.length, .sl 2 s.jobs.length 12 0 s.jobs.length, .int s.goal, .int s.prior, .int s.mode, .int s.term,
    .int o.kind, .int o.a, .int o.b, .int o.c, .int o.d, .int o.e, .int o.f, jp, np],
   .dat 102 5 (s.nodes.map nodeR), .dat 119 12 (s.jobs.map jobR)]
@[reducible] def noP : LV := .d (.val (.pointer none))

theorem told_tri (ok : Bool) (e : Int) : Tri Tryz.prog G 264 [.bool ok, .int e] [] (.int (if ok = true then 0 else e)) [] := by
  refine tri_W0 Tryz.func264 (by decide) irOk264 (Nat.le_of_ble_eq_true rfl) rfl ?_
  simp only [ir264,go_sem,simprocAttr]
  cases ok <;> simp only [go_sem,simprocAttr,Bool.false_eq_true]

theorem turn_tri (c : ConfD) (s : StateD) (o : OpD) (ok : Bool) (to : Int) : Tri Tryz.prog G 221 [.ptr 0 0, .bool ok, .int to] (workO c s o noP noP) (.int (turnD s ok to).2) (workO c (turnD s ok to).1 o noP noP) := by
  refine tri_WP Tryz.func221 (by decide) irOk221 (Nat.le_of_ble_eq_true rfl) rfl rfl rfl ?_
  simp only [ir221,go_sem,simprocAttr]
  cases ok with
  | true =>
    simp only [go_sem,simprocAttr]
    refine W_calld (told_tri true 5) rfl rfl rfl rfl ?_; simp only [go_sem,simprocAttr]
    simp only [turnD,go_sem,simprocAttr]
  | false =>
    simp only [go_sem,simprocAttr]
    refine W_calld (told_tri false 5) rfl rfl rfl rfl ?_; simp only [go_sem,simprocAttr]
    simp only [turnD,go_sem,simprocAttr,Bool.false_eq_true]
theorem pause_tri (c : ConfD) (s : StateD) (o : OpD) : Tri Tryz.prog G 148 [.ptr 0 0] (workO c s o noP noP) (.int (turnD s (s.mode == 0) 1).2) (workO c (turnD s (s.mode == 0) 1).1 o noP noP) := by
  refine tri_WP Tryz.func148 (by decide) irOk148 (Nat.le_of_ble_eq_true rfl) rfl rfl rfl ?_
  simp only [ir148,go_sem,simprocAttr]
  refine W_callo [0, 1, 2] (turn_tri c s o (s.mode == 0) 1) rfl (by simp only [argRs,argR,List.map_cons,List.map_nil,go_sem,simprocAttr,workO,List.length_range]) (by decide) (by simp only [go_sem,simprocAttr,workO,List.length_range]) (by simp only [go_sem,simprocAttr,List.all_cons,List.all_nil,workO,List.length_range]) (by simp) ?_; simp only [go_sem,simprocAttr,workO,List.length_range]
theorem resume_tri (c : ConfD) (s : StateD) (o : OpD) : Tri Tryz.prog G 149 [.ptr 0 0] (workO c s o noP noP) (.int (turnD s (s.mode == 1) 0).2) (workO c (turnD s (s.mode == 1) 0).1 o noP noP) := by
  refine tri_WP Tryz.func149 (by decide) irOk149 (Nat.le_of_ble_eq_true rfl) rfl rfl rfl ?_
  simp only [ir149,go_sem,simprocAttr]
  refine W_callo [0, 1, 2] (turn_tri c s o (s.mode == 1) 0) rfl (by simp only [argRs,argR,List.map_cons,List.map_nil,go_sem,simprocAttr,workO]) (by decide) (by simp only [go_sem,simprocAttr,workO]) (by simp only [go_sem,simprocAttr,List.all_cons,List.all_nil,workO]) (by simp) ?_; simp only [go_sem,simprocAttr,workO]
theorem abort_tri (c : ConfD) (s : StateD) (o : OpD) : Tri Tryz.prog G 150 [.ptr 0 0] (workO c s o noP noP) (.int (turnD s (s.mode != 2) 2).2) (workO c (turnD s (s.mode != 2) 2).1 o noP noP) := by
  refine tri_WP Tryz.func150 (by decide) irOk150 (Nat.le_of_ble_eq_true rfl) rfl rfl rfl ?_
  simp only [ir150,go_sem,simprocAttr]
  refine W_callo [0, 1, 2] (turn_tri c s o (s.mode != 2) 2) rfl (by simp only [argRs,argR,List.map_cons,List.map_nil,go_sem,simprocAttr,workO]) (by decide) (by simp only [go_sem,simprocAttr,workO]) (by simp only [go_sem,simprocAttr,List.all_cons,List.all_nil,workO]) (by simp) ?_; simp only [go_sem,simprocAttr,workO]
theorem newterm_tri (c : ConfD) (s : StateD) (o : OpD) (ht : s.term ≤ 1000000) (h0 : 0 ≤ s.term) : Tri Tryz.prog G 165 [.ptr 0 0] (workO c s o noP noP) (.int (newtermD s).2) (workO c (newtermD s).1 o noP noP) := by
  refine tri_WP Tryz.func165 (by decide) irOk165 (Nat.le_of_ble_eq_true rfl) rfl rfl rfl ?_
  simp only [ir165,go_sem,simprocAttr]
  have hw : IntKind.i64.wrap (s.term + 1) = s.term + 1 := wrap_in (by omega) (by omega)
  refine WC_split (fun h => ?_) (fun h => ?_) <;> simp only [h,go_sem,simprocAttr] <;> (try simp only [beq_iff_eq,beq_eq_false_iff_ne,bne_iff_ne,ne_eq,decide_eq_true_eq,decide_eq_false_iff_not,Bool.not_true,Bool.not_false,Bool.not_eq_true,Bool.not_eq_false,bne_eq_false_iff_eq,Decidable.not_not] at h)
  · simp only [newtermD,h,ge_iff_le,go_sem,simprocAttr]
  · simp only [newtermD,h,ge_iff_le,hw,go_sem,simprocAttr]
theorem target_tri (c : ConfD) (s : StateD) (o : OpD) (hn : s.nodes.length ≤ 1000) (hj : s.jobs.length ≤ 1000) : Tri Tryz.prog G 147 [.ptr 0 0] (workO c s o noP noP) (.int (targetD s o).2) (workO c (targetD s o).1 o noP noP) := by
  refine tri_WP Tryz.func147 (by decide) irOk147 (Nat.le_of_ble_eq_true rfl) rfl rfl rfl ?_
  simp only [ir147,go_sem,simprocAttr]
  refine W_calld (within_tri _ _ _) rfl rfl rfl rfl ?_; simp only [go_sem,simprocAttr]
  cases h : withinB o.a 1 9 with
  | false => simp only [targetD,h,go_sem,simprocAttr]
  | true =>
    simp only [go_sem,simprocAttr]
    refine WD_callz [1, 2] (meant_tri s) rfl (by simp [argRs,argR,rowsAt,objL,List.take_of_length_le,go_sem,simprocAttr]) (by simp [objL]) rfl rfl ?_; simp only [go_sem,simprocAttr]
    refine W_opsD_end rfl ?_
    simp only [targetD,h,go_sem,simprocAttr,Bool.true_eq_false]
theorem submit_tri (c : ConfD) (s : StateD) (o : OpD) (h0 : 1 ≤ c.queues ∧ c.queues ≤ 1000) (hj : s.jobs.length ≤ 1000) : Tri Tryz.prog G 145 [.ptr 0 0] (workO c s o noP noP) (.int (submitD c s o).2) (workO c (submitD c s o).1 o noP noP) := by
  refine tri_WP Tryz.func145 (by decide) irOk145 (Nat.le_of_ble_eq_true rfl) rfl rfl rfl ?_
  simp only [ir145,go_sem,simprocAttr]
  refine WD_calld (asked_tri c (newJob o) h0) rfl rfl rfl rfl ?_; simp only [go_sem,simprocAttr]
  cases ha : askedB c (newJob o) with
  | false => simp only [submitD,ha,go_sem,simprocAttr]
  | true =>
    simp only [go_sem,simprocAttr]
    have hl : (s.jobs.length + 1) * 96 ≤ 70368744177664 := by omega
    refine WC_split (fun h => ?_) (fun h => ?_) <;> simp only [h,go_sem,simprocAttr] <;> (try simp only [beq_iff_eq,beq_eq_false_iff_ne,bne_iff_ne,ne_eq,decide_eq_true_eq,decide_eq_false_iff_not,Bool.not_true,Bool.not_false,Bool.not_eq_true,Bool.not_eq_false,bne_eq_false_iff_eq,Decidable.not_not] at h)
    · simp only [submitD,ha,h,ge_iff_le,go_sem,simprocAttr,Bool.true_eq_false,show 24 ≤ s.jobs.length by omega]
    · have hh : ¬ 24 ≤ s.jobs.length := by omega
      simp only [List.length_append,hl,go_sem,simprocAttr]
      refine W_opsD_end rfl ?_
      simp only [submitD,ha,hh,List.map_append,List.length_append,go_sem,simprocAttr,Bool.true_eq_false]
      simp only [newJob,go_sem,simprocAttr]

def releaseS (c : ConfD) (s : StateD) (o : OpD) (jp np : LV) (number phase : Int) (k : Nat) : St := ⟨[(0, .ptr 0 0), (1, .int number), (2, .int phase), (6, .rp 2 s.jobs.length 12 (number - 1).toNat 0), (21, .int s.nodes.length), (22, .int k)],
  [some (.box 133 [.int c.nodes, .int c.queues, .int c.quota, .int c.wave, .int c.lease, .int c.retry, .int c.deadline, .int c.room, .int c.disk,
    .sl 1 s.nodes.length 5 0 s.nodes.length, .sl 2 s.jobs.length 12 0 s.jobs.length, .int s.goal, .int s.prior, .int s.mode, .int s.term,
    .int o.kind, .int o.a, .int o.b, .int o.c, .int o.d, .int o.e, .int o.f, jp, np]),
   some (.dat 102 5 ((updTo (lets number) s.nodes k).map nodeR)), some (.dat 119 12 (s.jobs.map jobR))]⟩
theorem release_tri (c : ConfD) (s : StateD) (o : OpD) (jp np : LV) (number phase : Int) (hjp : idl 3 jp = true) (hnp : idl 3 np = true) (h1 : 1 ≤ number) (h2 : number ≤ s.jobs.length) (hn : s.nodes.length ≤ 1000) (hj : s.jobs.length ≤ 1000) :
    Tri Tryz.prog G 219 [.ptr 0 0, .int number, .int phase] (workO c s o jp np) (.tup []) (workO c (releaseD s number phase) o jp np) := by
  refine tri_WP Tryz.func219 (by decide) irOk219 (Nat.le_of_ble_eq_true rfl) rfl (by simp [idlO,idl,idlL,hjp,hnp,LV.int]) rfl ?_
  have hw : IntKind.i64.wrap (number - 1) = number - 1 := wrap_in (by omega) (by omega)
  have h3 : 0 ≤ number - 1 := by omega
  have h4 : (number - 1).toNat < s.jobs.length := by omega
  simp only [ir219,hw,h3,h4,go_sem,simprocAttr]
  refine W_loopI [0, 1, 2, 6, 21, 22] [] (fun k : Nat => k ≤ s.nodes.length) (fun k => s.nodes.length - k) (releaseS c s o jp np number phase) 0 ?_ (Nat.zero_le _) (fun k hk => ?_)
  · simp only [releaseS,go_sem,simprocAttr,updTo_zero,Int.natCast_zero]
  simp only [releaseS,go_sem,simprocAttr]
  refine WC_split (fun h => ?_) (fun h => ?_)
  · have h := lt_of_dec h
    have hg : ((updTo (lets number) s.nodes k).map nodeR)[k]? = some (nodeR s.nodes[k]) := by rw [List.getElem?_map, updTo_at _ _ h]; rfl
    simp only [h,hg,updTo_length,go_sem,simprocAttr]
    refine WC_split (fun hq => ?_) (fun hq => ?_) <;> simp only [hq,go_sem,simprocAttr] <;> (try simp only [beq_iff_eq,beq_eq_false_iff_ne,bne_iff_ne,ne_eq,decide_eq_true_eq,decide_eq_false_iff_not,Bool.not_true,Bool.not_false,Bool.not_eq_true,Bool.not_eq_false,bne_eq_false_iff_eq,Decidable.not_not] at hq)
    · have hs : ((updTo (lets number) s.nodes k).map nodeR).set k (nodeR { s.nodes[k] with job := 0 }) = (updTo (lets number) s.nodes (k + 1)).map nodeR := by
        rw [← List.map_set, updTo_set _ _ h (by simp only [lets,hq,if_true])]
      simp only [nodeR] at hs
      simp only [h,hg,updTo_length,go_sem,simprocAttr]
      refine W_lpI (k + 1) ?_ ?_ (by omega) (by omega)
      · simp only [go_sem,simprocAttr,hjp,hnp]
      · simp only [releaseS,go_sem,simprocAttr,wrap_succ (show k < 9223372036854775807 by omega),hs]
    · have hs := updTo_same (lets number) s.nodes h (by simp only [lets,hq,if_false])
      refine W_lpI (k + 1) ?_ ?_ (by omega) (by omega)
      · simp only [go_sem,simprocAttr,hjp,hnp]
      · simp only [releaseS,go_sem,simprocAttr,wrap_succ (show k < 9223372036854775807 by omega),hs]
  · obtain rfl := eq_of_dec h hk
    have hg2 := get_mapD (f := jobR) zeroJob h4
    simp only [hg2,updTo_full,go_sem,simprocAttr]
    simp only [List.getElem?_set_self,List.length_map,h4,List.set_set,List.length_set,go_sem,simprocAttr]
    simp only [releaseD,jobA,List.map_set,List.length_set,List.length_mapIdx,go_sem,simprocAttr]
end Dv

namespace Dv
open Go Go.Proofs
variable {G : Nat → Option (List DV)}

def ir222 : Nat × C × List RV := (20,
(.seq (.reg [qo 1 (.box 102 (.t 0)),
 qo 2 (.mv qf)])
 (.seq (.reg [qo 3 (.fad 0 (.t 1)),
 qo 4 (.ld1 (.t 3)),
 qm 5 4,
 qg 6 (.fad 1 (.t 1)) 5 true,
 qg 7 (.ld1 (.t 6)) 5 true,
 qg 8 (.not (.t 7)) 5 true,
 qo 9 (.pick (.t 5) (.t 8) qf),
 qm 10 9,
 qg 11 (.fad 2 (.t 1)) 10 true,
 qg 12 (.ld1 (.t 11)) 10 true,
 qg 13 (.not (.t 12)) 10 true,
 qo 14 (.pick (.t 10) (.t 13) qf),
 qm 15 14,
 qg 16 (.fad 4 (.t 1)) 15 true,
 qg 17 (.ld1 (.t 16)) 15 true,
 qg 18 (.bin .eql (.t 17) (qk 0)) 15 true,
 qo 19 (.pick (.t 15) (.t 18) qf),
 qm 2 19])
 .ret)),
[(.t 2)])
theorem irOk222 : convFn Tryz.prog Tryz.f222 = some ir222 := by kernel_rfl
def ir160 : Nat × C × List RV := (26,
(.seq (.reg [qo 2 (.mv (qk 0))])
 (.seq (.seq (.reg [qm 3 0,
 qo 4 (.nck (.t 3)),
 qo 5 (.fad 23 (.t 4)),
 qo 6 (.ld1 (.t 5)),
 qo 7 (.nck (.t 6)),
 qo 8 (.fad 0 (.t 7)),
 qo 9 (.ld1 (.t 8)),
 qo 10 (.not (.t 9)),
 qm 11 10,
 qg 12 (.mv (.t 0)) 11 false,
 qg 13 (.nck (.t 12)) 11 false,
 qg 14 (.fad 23 (.t 13)) 11 false,
 qg 15 (.ld1 (.t 14)) 11 false,
 qg 16 (.nck (.t 15)) 11 false,
 qg 17 (.fad 1 (.t 16)) 11 false,
 qg 18 (.ld1 (.t 17)) 11 false,
 qo 19 (.pick (.t 11) qt (.t 18))])
 (.cond (.t 19) (.seq (.reg [qo 2 (.mv (qk 5))])
 .ret)
 .skip))
 (.seq (.reg [qm 20 0,
 qo 21 (.nck (.t 20)),
 qo 22 (.fad 23 (.t 21)),
 qo 23 (.ld1 (.t 22)),
 qo 24 (.nck (.t 23)),
 qo 25 (.fad 1 (.t 24)),
 qn (.st 1 (.t 25) qt)])
 (.seq (.reg [qo 2 (.mv (qk 0))])
 .ret)))),
[(.t 2)])
theorem irOk160 : convFn Tryz.prog Tryz.f160 = some ir160 := by kernel_rfl
def ir161 : Nat × C × List RV := (26,
(.seq (.reg [qo 2 (.mv (qk 0))])
 (.seq (.seq (.reg [qm 3 0,
 qo 4 (.nck (.t 3)),
 qo 5 (.fad 23 (.t 4)),
 qo 6 (.ld1 (.t 5)),
 qo 7 (.nck (.t 6)),
 qo 8 (.fad 1 (.t 7)),
 qo 9 (.ld1 (.t 8)),
 qo 10 (.not (.t 9)),
 qm 11 10,
 qg 12 (.mv (.t 0)) 11 false,
 qg 13 (.nck (.t 12)) 11 false,
 qg 14 (.fad 23 (.t 13)) 11 false,
 qg 15 (.ld1 (.t 14)) 11 false,
 qg 16 (.nck (.t 15)) 11 false,
 qg 17 (.fad 2 (.t 16)) 11 false,
 qg 18 (.ld1 (.t 17)) 11 false,
 qo 19 (.pick (.t 11) qt (.t 18))])
 (.cond (.t 19) (.seq (.reg [qo 2 (.mv (qk 5))])
 .ret)
 .skip))
 (.seq (.reg [qm 20 0,
 qo 21 (.nck (.t 20)),
 qo 22 (.fad 23 (.t 21)),
 qo 23 (.ld1 (.t 22)),
 qo 24 (.nck (.t 23)),
 qo 25 (.fad 1 (.t 24)),
 qn (.st 1 (.t 25) qf)])
 (.seq (.reg [qo 2 (.mv (qk 0))])
 .ret)))),
[(.t 2)])
theorem irOk161 : convFn Tryz.prog Tryz.f161 = some ir161 := by kernel_rfl
def ir162 : Nat × C × List RV := (46,
(.seq (.reg [qo 2 (.mv (qk 0))])
 (.seq (.seq (.reg [qm 3 0,
 qo 4 (.nck (.t 3)),
 qo 5 (.fad 23 (.t 4)),
 qo 6 (.ld1 (.t 5)),
 qo 7 (.nck (.t 6)),
 qo 8 (.fad 0 (.t 7)),
 qo 9 (.ld1 (.t 8)),
 qo 10 (.not (.t 9)),
 qm 11 10,
 qg 12 (.mv (.t 0)) 11 false,
 qg 13 (.nck (.t 12)) 11 false,
 qg 14 (.fad 23 (.t 13)) 11 false,
 qg 15 (.ld1 (.t 14)) 11 false,
 qg 16 (.nck (.t 15)) 11 false,
 qg 17 (.fad 1 (.t 16)) 11 false,
 qg 18 (.ld1 (.t 17)) 11 false,
 qg 19 (.not (.t 18)) 11 false,
 qo 20 (.pick (.t 11) qt (.t 19)),
 qm 21 20,
 qg 22 (.mv (.t 0)) 21 false,
 qg 23 (.nck (.t 22)) 21 false,
 qg 24 (.fad 23 (.t 23)) 21 false,
 qg 25 (.ld1 (.t 24)) 21 false,
 qg 26 (.nck (.t 25)) 21 false,
 qg 27 (.fad 2 (.t 26)) 21 false,
 qg 28 (.ld1 (.t 27)) 21 false,
 qo 29 (.pick (.t 21) qt (.t 28)),
 qm 30 29,
 qg 31 (.mv (.t 0)) 30 false,
 qg 32 (.nck (.t 31)) 30 false,
 qg 33 (.fad 23 (.t 32)) 30 false,
 qg 34 (.ld1 (.t 33)) 30 false,
 qg 35 (.nck (.t 34)) 30 false,
 qg 36 (.fad 4 (.t 35)) 30 false,
 qg 37 (.ld1 (.t 36)) 30 false,
 qg 38 (.bin .neq (.t 37) (qk 0)) 30 false,
 qo 39 (.pick (.t 30) qt (.t 38))])
 (.cond (.t 39) (.seq (.reg [qo 2 (.mv (qk 5))])
 .ret)
 .skip))
 (.seq (.reg [qm 40 0,
 qo 41 (.nck (.t 40)),
 qo 42 (.fad 23 (.t 41)),
 qo 43 (.ld1 (.t 42)),
 qo 44 (.nck (.t 43)),
 qo 45 (.fad 2 (.t 44)),
 qn (.st 1 (.t 45) qt)])
 (.seq (.reg [qo 2 (.mv (qk 0))])
 .ret)))),
[(.t 2)])
theorem irOk162 : convFn Tryz.prog Tryz.f162 = some ir162 := by kernel_rfl
def ir163 : Nat × C × List RV := (43,
(.seq (.reg [qo 2 (.mv (qk 0))])
 (.seq (.block 0 (.seq (.reg [qm 4 0,
 qo 5 (.nck (.t 4)),
 qo 6 (.fad 15 (.t 5)),
 qo 7 (.fad 2 (.t 6)),
 qo 8 (.ld1 (.t 7)),
 qo 9 (.call (.f 112) [(.t 8),(qk 1),(qk 9)]),
 qo 10 (.not (.t 9)),
 qm 3 10])
 (.cond (.t 3) (.seq (.reg [qo 2 (.mv (qk 1))])
 .ret)
 (.seq (.reg [qm 12 0,
 qo 13 (.nck (.t 12)),
 qo 14 (.fad 23 (.t 13)),
 qo 15 (.ld1 (.t 14)),
 qo 16 (.nck (.t 15)),
 qo 17 (.fad 2 (.t 16)),
 qo 18 (.ld1 (.t 17)),
 qo 19 (.not (.t 18)),
 qm 11 19])
 (.cond (.t 11) (.seq (.reg [qo 2 (.mv (qk 5))])
 .ret)
 .skip)))))
 (.seq (.regD [qm 20 0,
 qd 21 (.nck (.t 20)) [0],
 qd 22 (.fad 23 (.t 21)) [1,0],
 qd 23 (.ld1 (.t 22)) [2,1,0],
 qm 24 0,
 qd 25 (.nck (.t 24)) [4],
 qd 26 (.fad 23 (.t 25)) [5,4],
 qd 27 (.ld1 (.t 26)) [6,5,4],
 qm 28 0,
 qd 29 (.nck (.t 28)) [8],
 qd 30 (.fad 23 (.t 29)) [9,8],
 qd 31 (.ld1 (.t 30)) [10,9,8],
 qm 32 0,
 qd 33 (.nck (.t 32)) [12],
 qd 34 (.fad 15 (.t 33)) [13,12],
 qd 35 (.fad 2 (.t 34)) [14,13,12],
 qd 36 (.ld1 (.t 35)) [15,14,13,12],
 qd 37 (.nck (.t 23)) [3,2,1,0,7,6,5,4,11,10,9,8,12,13,14,15,16],
 qd 38 (.fad 3 (.t 37)) [17,3,2,1,0,7,6,5,4,11,10,9,8,12,13,14,15,16],
 ql (.st 1 (.t 38) (.t 36)) [18,17,3,2,1,0,7,6,5,4,11,10,9,8,12,13,14,15,16],
 qd 39 (.nck (.t 27)) [7,6,5,4,0,1,2,3,11,10,9,8,12,13,14,15,16,17,18,19],
 qd 40 (.fad 2 (.t 39)) [20,7,6,5,4,0,1,2,3,11,10,9,8,12,13,14,15,16,17,18,19],
 ql (.st 1 (.t 40) qf) [21,20,7,6,5,4,0,1,2,3,11,10,9,8,12,13,14,15,16,17,18,19],
 qd 41 (.nck (.t 31)) [11,10,9,8,0,1,2,3,4,5,6,7,12,13,14,15,16,17,18,19,20,21,22],
 qd 42 (.fad 1 (.t 41)) [23,11,10,9,8,0,1,2,3,4,5,6,7,12,13,14,15,16,17,18,19,20,21,22],
 ql (.st 1 (.t 42) qf) [24,23,11,10,9,8,0,1,2,3,4,5,6,7,12,13,14,15,16,17,18,19,20,21,22]])
 (.seq (.reg [qo 2 (.mv (qk 0))])
 .ret)))),
[(.t 2)])
theorem irOk163 : convFn Tryz.prog Tryz.f163 = some ir163 := by kernel_rfl
def ir152 : Nat × C × List RV := (36,
(.seq (.reg [qo 2 (.mv (qk 0))])
 (.seq (.block 0 (.seq (.reg [qm 4 0,
 qo 5 (.nck (.t 4)),
 qo 6 (.fad 15 (.t 5)),
 qo 7 (.fad 2 (.t 6)),
 qo 8 (.ld1 (.t 7)),
 qo 9 (.call (.f 112) [(.t 8),(qk 1),(qk 9)]),
 qo 10 (.not (.t 9)),
 qm 3 10])
 (.cond (.t 3) (.seq (.reg [qo 2 (.mv (qk 1))])
 .ret)
 (.seq (.reg [qm 12 0,
 qo 13 (.nck (.t 12)),
 qo 14 (.fad 23 (.t 13)),
 qo 15 (.ld1 (.t 14)),
 qo 16 (.nck (.t 15)),
 qo 17 (.fad 0 (.t 16)),
 qo 18 (.ld1 (.t 17)),
 qm 11 18])
 (.cond (.t 11) (.seq (.reg [qo 2 (.mv (qk 5))])
 .ret)
 .skip)))))
 (.seq (.regD [qm 19 0,
 qd 20 (.nck (.t 19)) [0],
 qd 21 (.fad 23 (.t 20)) [1,0],
 qd 22 (.ld1 (.t 21)) [2,1,0],
 qm 23 0,
 qd 24 (.nck (.t 23)) [4],
 qd 25 (.fad 23 (.t 24)) [5,4],
 qd 26 (.ld1 (.t 25)) [6,5,4],
 qm 27 0,
 qd 28 (.nck (.t 27)) [8],
 qd 29 (.fad 15 (.t 28)) [9,8],
 qd 30 (.fad 2 (.t 29)) [10,9,8],
 qd 31 (.ld1 (.t 30)) [11,10,9,8],
 qd 32 (.nck (.t 22)) [3,2,1,0,7,6,5,4,12,11,10,9,8],
 qd 33 (.fad 0 (.t 32)) [13,3,2,1,0,7,6,5,4,12,11,10,9,8],
 ql (.st 1 (.t 33) qt) [14,13,3,2,1,0,7,6,5,4,12,11,10,9,8],
 qd 34 (.nck (.t 26)) [7,6,5,4,0,1,2,3,8,9,10,11,12,13,14,15],
 qd 35 (.fad 3 (.t 34)) [16,7,6,5,4,0,1,2,3,8,9,10,11,12,13,14,15],
 ql (.st 1 (.t 35) (.t 31)) [17,16,7,6,5,4,0,1,2,3,8,9,10,11,12,13,14,15]])
 (.seq (.reg [qo 2 (.mv (qk 0))])
 .ret)))),
[(.t 2)])
theorem irOk152 : convFn Tryz.prog Tryz.f152 = some ir152 := by kernel_rfl
def ir151 : Nat × C × List RV := (40,
(.seq (.reg [qo 2 (.mv (qk 0))])
 (.seq (.seq (.reg [qm 3 0,
 qo 4 (.nck (.t 3)),
 qo 5 (.fad 23 (.t 4)),
 qo 6 (.ld1 (.t 5)),
 qo 7 (.nck (.t 6)),
 qo 8 (.fad 0 (.t 7)),
 qo 9 (.ld1 (.t 8)),
 qo 10 (.not (.t 9))])
 (.cond (.t 10) (.seq (.reg [qo 2 (.mv (qk 5))])
 .ret)
 .skip))
 (.seq (.seq (.reg [qm 11 0,
 qo 12 (.nck (.t 11)),
 qo 13 (.fad 23 (.t 12)),
 qo 14 (.ld1 (.t 13)),
 qo 15 (.nck (.t 14)),
 qo 16 (.fad 4 (.t 15)),
 qo 17 (.ld1 (.t 16)),
 qo 18 (.bin .neq (.t 17) (qk 0))])
 (.cond (.t 18) (.reg [qm 19 0,
 qm 20 0,
 qo 21 (.nck (.t 20)),
 qo 22 (.fad 23 (.t 21)),
 qo 23 (.ld1 (.t 22)),
 qo 24 (.nck (.t 23)),
 qo 25 (.fad 4 (.t 24)),
 qo 26 (.ld1 (.t 25)),
 qo 27 (.call (.f 219) [(.t 19),(.t 26),(qk 0)])])
 .skip))
 (.seq (.regD [qm 28 0,
 qd 29 (.nck (.t 28)) [0],
 qd 30 (.fad 23 (.t 29)) [1,0],
 qd 31 (.ld1 (.t 30)) [2,1,0],
 qm 32 0,
 qd 33 (.nck (.t 32)) [4],
 qd 34 (.fad 23 (.t 33)) [5,4],
 qd 35 (.ld1 (.t 34)) [6,5,4],
 qd 36 (.nck (.t 31)) [3,2,1,0,7,6,5,4],
 qd 37 (.fad 0 (.t 36)) [8,3,2,1,0,7,6,5,4],
 ql (.st 1 (.t 37) qf) [9,8,3,2,1,0,7,6,5,4],
 qd 38 (.nck (.t 35)) [7,6,5,4,0,1,2,3,8,9,10],
 qd 39 (.fad 2 (.t 38)) [11,7,6,5,4,0,1,2,3,8,9,10],
 ql (.st 1 (.t 39) qf) [12,11,7,6,5,4,0,1,2,3,8,9,10]])
 (.seq (.reg [qo 2 (.mv (qk 0))])
 .ret))))),
[(.t 2)])
theorem irOk151 : convFn Tryz.prog Tryz.f151 = some ir151 := by kernel_rfl
def ir223 : Nat × C × List RV := (21,
(.seq (.reg [qo 2 (.mv qf)])
 (.seq (.reg [qm 3 0,
 qo 4 (.nck (.t 3)),
 qo 5 (.fad 22 (.t 4)),
 qo 6 (.ld1 (.t 5)),
 qo 7 (.nck (.t 6)),
 qo 8 (.fad 6 (.t 7)),
 qo 9 (.ld1 (.t 8)),
 qo 10 (.bin .eql (.t 9) (qk 2)),
 qm 11 10,
 qg 12 (.mv (.t 0)) 11 false,
 qg 13 (.nck (.t 12)) 11 false,
 qg 14 (.fad 22 (.t 13)) 11 false,
 qg 15 (.ld1 (.t 14)) 11 false,
 qg 16 (.nck (.t 15)) 11 false,
 qg 17 (.fad 6 (.t 16)) 11 false,
 qg 18 (.ld1 (.t 17)) 11 false,
 qg 19 (.bin .eql (.t 18) (qk 3)) 11 false,
 qo 20 (.pick (.t 11) qt (.t 19)),
 qm 2 20])
 .ret)),
[(.t 2)])
theorem irOk223 : convFn Tryz.prog Tryz.f223 = some ir223 := by kernel_rfl
def ir146 : Nat × C × List RV := (18,
(.seq (.reg [qo 2 (.mv (qk 0))])
 (.seq (.seq (.reg [qm 3 0,
 qo 4 (.nck (.t 3)),
 qo 5 (.fad 22 (.t 4)),
 qo 6 (.ld1 (.t 5)),
 qo 7 (.nck (.t 6)),
 qo 8 (.fad 6 (.t 7)),
 qo 9 (.ld1 (.t 8)),
 qo 10 (.bin .eql (.t 9) (qk 4))])
 (.cond (.t 10) (.seq (.reg [qo 2 (.mv (qk 5))])
 .ret)
 .skip))
 (.seq (.reg [qm 11 0,
 qm 12 0,
 qo 13 (.nck (.t 12)),
 qo 14 (.fad 15 (.t 13)),
 qo 15 (.fad 1 (.t 14)),
 qo 16 (.ld1 (.t 15)),
 qo 17 (.call (.f 219) [(.t 11),(.t 16),(qk 4)])])
 (.seq (.reg [qo 2 (.mv (qk 0))])
 .ret)))),
[(.t 2)])
theorem irOk146 : convFn Tryz.prog Tryz.f146 = some ir146 := by kernel_rfl
def ir154 : Nat × C × List RV := (28,
(.seq (.reg [qo 2 (.mv (qk 0))])
 (.seq (.seq (.reg [qm 3 0,
 qo 4 (.nck (.t 3)),
 qo 5 (.fad 22 (.t 4)),
 qo 6 (.ld1 (.t 5)),
 qo 7 (.nck (.t 6)),
 qo 8 (.fad 6 (.t 7)),
 qo 9 (.ld1 (.t 8)),
 qo 10 (.bin .neq (.t 9) (qk 1))])
 (.cond (.t 10) (.seq (.reg [qo 2 (.mv (qk 5))])
 .ret)
 .skip))
 (.seq (.regD [qm 11 0,
 qd 12 (.nck (.t 11)) [0],
 qd 13 (.fad 22 (.t 12)) [1,0],
 qd 14 (.ld1 (.t 13)) [2,1,0],
 qm 15 0,
 qd 16 (.nck (.t 15)) [4],
 qd 17 (.fad 22 (.t 16)) [5,4],
 qd 18 (.ld1 (.t 17)) [6,5,4],
 qm 19 0,
 qd 20 (.nck (.t 19)) [8],
 qd 21 (.fad 15 (.t 20)) [9,8],
 qd 22 (.fad 2 (.t 21)) [10,9,8],
 qd 23 (.ld1 (.t 22)) [11,10,9,8],
 qd 24 (.nck (.t 14)) [3,2,1,0,7,6,5,4,12,11,10,9,8],
 qd 25 (.fad 6 (.t 24)) [13,3,2,1,0,7,6,5,4,12,11,10,9,8],
 ql (.st 1 (.t 25) (qk 2)) [14,13,3,2,1,0,7,6,5,4,12,11,10,9,8],
 qd 26 (.nck (.t 18)) [7,6,5,4,0,1,2,3,8,9,10,11,12,13,14,15],
 qd 27 (.fad 9 (.t 26)) [16,7,6,5,4,0,1,2,3,8,9,10,11,12,13,14,15],
 ql (.st 1 (.t 27) (.t 23)) [17,16,7,6,5,4,0,1,2,3,8,9,10,11,12,13,14,15]])
 (.seq (.reg [qo 2 (.mv (qk 0))])
 .ret)))),
[(.t 2)])
theorem irOk154 : convFn Tryz.prog Tryz.f154 = some ir154 := by kernel_rfl
def ir155 : Nat × C × List RV := (18,
(.seq (.reg [qo 2 (.mv (qk 0))])
 (.seq (.seq (.reg [qm 3 0,
 qo 4 (.nck (.t 3)),
 qo 5 (.fad 22 (.t 4)),
 qo 6 (.ld1 (.t 5)),
 qo 7 (.nck (.t 6)),
 qo 8 (.fad 6 (.t 7)),
 qo 9 (.ld1 (.t 8)),
 qo 10 (.bin .neq (.t 9) (qk 1))])
 (.cond (.t 10) (.seq (.reg [qo 2 (.mv (qk 5))])
 .ret)
 .skip))
 (.seq (.reg [qm 11 0,
 qm 12 0,
 qo 13 (.nck (.t 12)),
 qo 14 (.fad 15 (.t 13)),
 qo 15 (.fad 1 (.t 14)),
 qo 16 (.ld1 (.t 15)),
 qo 17 (.call (.f 219) [(.t 11),(.t 16),(qk 0)])])
 (.seq (.reg [qo 2 (.mv (qk 0))])
 .ret)))),
[(.t 2)])
theorem irOk155 : convFn Tryz.prog Tryz.f155 = some ir155 := by kernel_rfl
def ir156 : Nat × C × List RV := (48,
(.seq (.reg [qo 2 (.mv (qk 0))])
 (.seq (.block 0 (.seq (.reg [qm 4 0,
 qo 5 (.nck (.t 4)),
 qo 6 (.fad 22 (.t 5)),
 qo 7 (.ld1 (.t 6)),
 qo 8 (.nck (.t 7)),
 qo 9 (.fad 6 (.t 8)),
 qo 10 (.ld1 (.t 9)),
 qo 11 (.bin .neq (.t 10) (qk 2)),
 qm 3 11])
 (.cond (.t 3) (.seq (.reg [qo 2 (.mv (qk 5))])
 .ret)
 (.seq (.regD [qm 13 0,
 qd 14 (.nck (.t 13)) [0],
 qd 15 (.fad 9 (.t 14)) [1,0],
 qd 16 (.ldn 6 (.t 15)) [2,1,0],
 qm 17 0,
 qd 18 (.nck (.t 17)) [4],
 qd 19 (.fad 22 (.t 18)) [5,4],
 qd 20 (.ld1 (.t 19)) [6,5,4],
 qd 21 (.nck (.t 20)) [7,6,5,4],
 qd 22 (.fad 0 (.t 21)) [8,7,6,5,4],
 qd 23 (.ld1 (.t 22)) [9,8,7,6,5,4],
 qd 24 (.call (.f 115) [(.t 16),(.t 23)]) [3,2,1,0,10,9,8,7,6,5,4],
 qm 25 0,
 qd 26 (.nck (.t 25)) [12],
 qd 27 (.fad 0 (.t 26)) [13,12],
 qd 28 (.fad 2 (.t 27)) [14,13,12],
 qd 29 (.ld1 (.t 28)) [15,14,13,12],
 qd 30 (.bin .geq (.t 24) (.t 29)) [11,3,2,1,0,10,9,8,7,6,5,4,16,15,14,13,12],
 qd 12 (.mv (.t 30)) [17,11,3,2,1,0,10,9,8,7,6,5,4,16,15,14,13,12]])
 (.cond (.t 12) (.seq (.reg [qo 2 (.mv (qk 7))])
 .ret)
 .skip)))))
 (.seq (.regD [qm 31 0,
 qd 32 (.nck (.t 31)) [0],
 qd 33 (.fad 22 (.t 32)) [1,0],
 qd 34 (.ld1 (.t 33)) [2,1,0],
 qm 35 0,
 qd 36 (.nck (.t 35)) [4],
 qd 37 (.fad 22 (.t 36)) [5,4],
 qd 38 (.ld1 (.t 37)) [6,5,4],
 qm 39 0,
 qd 40 (.nck (.t 39)) [8],
 qd 41 (.fad 15 (.t 40)) [9,8],
 qd 42 (.fad 2 (.t 41)) [10,9,8],
 qd 43 (.ld1 (.t 42)) [11,10,9,8],
 qd 44 (.nck (.t 34)) [3,2,1,0,7,6,5,4,12,11,10,9,8],
 qd 45 (.fad 6 (.t 44)) [13,3,2,1,0,7,6,5,4,12,11,10,9,8],
 ql (.st 1 (.t 45) (qk 3)) [14,13,3,2,1,0,7,6,5,4,12,11,10,9,8],
 qd 46 (.nck (.t 38)) [7,6,5,4,0,1,2,3,8,9,10,11,12,13,14,15],
 qd 47 (.fad 10 (.t 46)) [16,7,6,5,4,0,1,2,3,8,9,10,11,12,13,14,15],
 ql (.st 1 (.t 47) (.t 43)) [17,16,7,6,5,4,0,1,2,3,8,9,10,11,12,13,14,15]])
 (.seq (.reg [qo 2 (.mv (qk 0))])
 .ret)))),
[(.t 2)])
theorem irOk156 : convFn Tryz.prog Tryz.f156 = some ir156 := by kernel_rfl
def ir157 : Nat × C × List RV := (47,
(.seq (.reg [qo 2 (.mv (qk 0))])
 (.seq (.block 0 (.seq (.reg [qm 4 0,
 qo 5 (.call (.f 223) [(.t 4)]),
 qo 6 (.not (.t 5)),
 qm 3 6])
 (.cond (.t 3) (.seq (.reg [qo 2 (.mv (qk 5))])
 .ret)
 (.seq (.regD [qm 8 0,
 qd 9 (.nck (.t 8)) [0],
 qd 10 (.fad 15 (.t 9)) [1,0],
 qd 11 (.fad 2 (.t 10)) [2,1,0],
 qd 12 (.ld1 (.t 11)) [3,2,1,0],
 qm 13 0,
 qd 14 (.nck (.t 13)) [5],
 qd 15 (.fad 22 (.t 14)) [6,5],
 qd 16 (.ld1 (.t 15)) [7,6,5],
 qd 17 (.nck (.t 16)) [8,7,6,5],
 qd 18 (.fad 7 (.t 17)) [9,8,7,6,5],
 qd 19 (.ld1 (.t 18)) [10,9,8,7,6,5],
 qd 20 (.bin .neq (.t 12) (.t 19)) [4,3,2,1,0,11,10,9,8,7,6,5],
 qd 21 (.mv (.t 20)) [12,4,3,2,1,0,11,10,9,8,7,6,5],
 qe 22 (.mv (.t 0)) 21 false [13,12,4,3,2,1,0,11,10,9,8,7,6,5],
 qe 23 (.nck (.t 22)) 21 false [14,13,12,4,3,2,1,0,11,10,9,8,7,6,5],
 qe 24 (.fad 15 (.t 23)) 21 false [15,14,13,12,4,3,2,1,0,11,10,9,8,7,6,5],
 qe 25 (.fad 2 (.t 24)) 21 false [16,15,14,13,12,4,3,2,1,0,11,10,9,8,7,6,5],
 qe 26 (.ld1 (.t 25)) 21 false [17,16,15,14,13,12,4,3,2,1,0,11,10,9,8,7,6,5],
 qe 27 (.mv (.t 0)) 21 false [13,12,4,3,2,1,0,11,10,9,8,7,6,5],
 qe 28 (.nck (.t 27)) 21 false [19,13,12,4,3,2,1,0,11,10,9,8,7,6,5],
 qe 29 (.fad 22 (.t 28)) 21 false [20,19,13,12,4,3,2,1,0,11,10,9,8,7,6,5],
 qe 30 (.ld1 (.t 29)) 21 false [21,20,19,13,12,4,3,2,1,0,11,10,9,8,7,6,5],
 qe 31 (.nck (.t 30)) 21 false [22,21,20,19,13,12,4,3,2,1,0,11,10,9,8,7,6,5],
 qe 32 (.fad 11 (.t 31)) 21 false [23,22,21,20,19,13,12,4,3,2,1,0,11,10,9,8,7,6,5],
 qe 33 (.ld1 (.t 32)) 21 false [24,23,22,21,20,19,13,12,4,3,2,1,0,11,10,9,8,7,6,5],
 qe 34 (.bin .leq (.t 26) (.t 33)) 21 false [18,17,16,15,14,13,12,4,3,2,1,0,11,10,9,8,7,6,5,25,24,23,22,21,20,19],
 qd 35 (.pick (.t 21) qt (.t 34)) [13,12,4,3,2,1,0,11,10,9,8,7,6,5,26,18,17,16,15,14,25,24,23,22,21,20,19],
 qd 7 (.mv (.t 35)) [27,13,12,4,3,2,1,0,11,10,9,8,7,6,5,26,18,17,16,15,14,25,24,23,22,21,20,19]])
 (.cond (.t 7) (.seq (.reg [qo 2 (.mv (qk 6))])
 .ret)
 .skip)))))
 (.seq (.regD [qm 36 0,
 qd 37 (.nck (.t 36)) [0],
 qd 38 (.fad 22 (.t 37)) [1,0],
 qd 39 (.ld1 (.t 38)) [2,1,0],
 qm 40 0,
 qd 41 (.nck (.t 40)) [4],
 qd 42 (.fad 15 (.t 41)) [5,4],
 qd 43 (.fad 2 (.t 42)) [6,5,4],
 qd 44 (.ld1 (.t 43)) [7,6,5,4],
 qd 45 (.nck (.t 39)) [3,2,1,0,4,5,6,7,8],
 qd 46 (.fad 11 (.t 45)) [9,3,2,1,0,4,5,6,7,8],
 ql (.st 1 (.t 46) (.t 44)) [10,9,3,2,1,0,4,5,6,7,8]])
 (.seq (.reg [qo 2 (.mv (qk 0))])
 .ret)))),
[(.t 2)])
theorem irOk157 : convFn Tryz.prog Tryz.f157 = some ir157 := by kernel_rfl
def ir158 : Nat × C × List RV := (18,
(.seq (.reg [qo 2 (.mv (qk 0))])
 (.seq (.seq (.reg [qm 3 0,
 qo 4 (.nck (.t 3)),
 qo 5 (.fad 22 (.t 4)),
 qo 6 (.ld1 (.t 5)),
 qo 7 (.nck (.t 6)),
 qo 8 (.fad 6 (.t 7)),
 qo 9 (.ld1 (.t 8)),
 qo 10 (.bin .neq (.t 9) (qk 3))])
 (.cond (.t 10) (.seq (.reg [qo 2 (.mv (qk 5))])
 .ret)
 .skip))
 (.seq (.reg [qm 11 0,
 qm 12 0,
 qo 13 (.nck (.t 12)),
 qo 14 (.fad 15 (.t 13)),
 qo 15 (.fad 1 (.t 14)),
 qo 16 (.ld1 (.t 15)),
 qo 17 (.call (.f 219) [(.t 11),(.t 16),(qk 0)])])
 (.seq (.reg [qo 2 (.mv (qk 0))])
 .ret)))),
[(.t 2)])
theorem irOk158 : convFn Tryz.prog Tryz.f158 = some ir158 := by kernel_rfl
def ir159 : Nat × C × List RV := (13,
(.seq (.reg [qo 2 (.mv (qk 0))])
 (.seq (.seq (.reg [qm 3 0,
 qo 4 (.call (.f 223) [(.t 3)]),
 qo 5 (.not (.t 4))])
 (.cond (.t 5) (.seq (.reg [qo 2 (.mv (qk 5))])
 .ret)
 .skip))
 (.seq (.reg [qm 6 0,
 qm 7 0,
 qo 8 (.nck (.t 7)),
 qo 9 (.fad 15 (.t 8)),
 qo 10 (.fad 1 (.t 9)),
 qo 11 (.ld1 (.t 10)),
 qo 12 (.call (.f 219) [(.t 6),(.t 11),(qk 4)])])
 (.seq (.reg [qo 2 (.mv (qk 0))])
 .ret)))),
[(.t 2)])
theorem irOk159 : convFn Tryz.prog Tryz.f159 = some ir159 := by kernel_rfl


def fitsS0 (s : StateD) (j : JobD) (nodes : Int) (f : Nat) (kv : Nat × Int) : St := ⟨[(2, .int nodes), (3, .fn (.func f) [] []), (9, .int kv.2), (36, nodesV s.nodes), (37, .int s.nodes.length), (38, .int kv.1)], [some (.box 30 [nodesV s.nodes, jobsV s.jobs, .int s.goal, .int s.prior, .int s.mode, .int s.term]), some (.box 119 [.int j.queue, .int j.prio, .int j.min, .int j.max, .int j.work, .int j.pin, .int j.phase, .int j.inc, .int j.nodes, .int j.since, .int j.til, .int j.epoch])]⟩
theorem fits0_tri (s : StateD) (j : JobD) (nodes : Int) (f : Nat) (takes : NodeD → Bool) (hn : s.nodes.length ≤ 6) (hT : ∀ n, Tri Tryz.prog G f [nodeV n] [] (.bool (takes n)) []) :
    Tri Tryz.prog G 196 [stateV s, jobV j, .int nodes, .fn (.func f) [] []] [] (.bool (fitsB s.nodes j nodes takes)) [] := by
  refine tri_W0 Tryz.func196 (by decide) irOk196 (Nat.le_of_ble_eq_true rfl) rfl ?_
  have hp : (2 : Int) ^ s.nodes.length ≤ 64 ∧ 1 ≤ (2 : Int) ^ s.nodes.length := by
    have : s.nodes.length = 0 ∨ s.nodes.length = 1 ∨ s.nodes.length = 2 ∨ s.nodes.length = 3 ∨ s.nodes.length = 4 ∨ s.nodes.length = 5 ∨ s.nodes.length = 6 := by omega
    rcases this with h | h | h | h | h | h | h <;> rw [h] <;> decide
  have hw := shl_one s.nodes.length hn
  simp only [ir196,go_sem,simprocAttr,hw]
  unfold fitsB
  have none : ∀ {x y : Prop} [Decidable x] [Decidable y] {b : Bool}, x ∨ y → (if x ∨ y then false else b) = false := fun h => by rw [if_pos h]
  refine WGD_split (fun h1 => ?_) (fun h1 => ?_) <;> simp only [h1,go_sem,simprocAttr] <;> (try simp only [beq_iff_eq,beq_eq_false_iff_ne,bne_iff_ne,ne_eq,decide_eq_true_eq,decide_eq_false_iff_not,Bool.not_true,Bool.not_false,Bool.not_eq_true,Bool.not_eq_false,bne_eq_false_iff_eq,Decidable.not_not] at h1)
  · simp only [hw]
    refine WGD_split (fun h2 => ?_) (fun h2 => ?_) <;> simp only [h2,go_sem,simprocAttr] <;> (try simp only [beq_iff_eq,beq_eq_false_iff_ne,bne_iff_ne,ne_eq,decide_eq_true_eq,decide_eq_false_iff_not,Bool.not_true,Bool.not_false,Bool.not_eq_true,Bool.not_eq_false,bne_eq_false_iff_eq,Decidable.not_not] at h2)
    · obtain ⟨m, rfl⟩ := Int.eq_ofNat_of_zero_le (show 0 ≤ nodes by omega)
      have hm : m < 64 := by omega
      have hwu : IntKind.u64.wrap (m : Int) = m := by simp [IntKind.wrap,IntKind.bits,IntKind.signed]; omega
      rw [if_neg (by omega)]
      simp only [hwu]
      refine WD_calld (ones_tri m hm) rfl rfl rfl rfl ?_; simp only [go_sem,simprocAttr]
      refine WD_calld (within_tri _ _ _) rfl rfl rfl rfl ?_; simp only [go_sem,simprocAttr]
      cases hb : withinB (many m) j.min j.max with
      | false => simp only [go_sem,simprocAttr]
      | true =>
        simp only [go_sem,simprocAttr]
        generalize hF0 : fitsLoop m takes s.nodes 0 j.pin = r
        refine W_loopI [2, 3, 9, 36, 37, 38] [] (fun kv : Nat × Int => kv.1 ≤ s.nodes.length ∧ fitsLoop m takes (s.nodes.drop kv.1) kv.1 kv.2 = r) (fun kv => s.nodes.length - kv.1) (fitsS0 s j m f) (0, j.pin) ?_ ⟨Nat.zero_le _, hF0⟩ ?_
        · simp only [fitsS0,go_sem,simprocAttr,Int.natCast_zero]
        rintro ⟨k, v⟩ ⟨hk, hF⟩
        dsimp only at hk hF
        simp only [fitsS0,go_sem,simprocAttr]
        refine WC_split (fun h => ?_) (fun h => ?_)
        · have h := lt_of_dec h
          rw [List.drop_eq_getElem_cons h] at hF
          unfold fitsLoop at hF
          simp only [get_map h,go_sem,simprocAttr,bit_eq0 (m : Int) k (by omega)]
          have go : ∀ v', fitsLoop m takes (s.nodes.drop (k + 1)) (k + 1) v' = r → (k + 1, v').1 ≤ s.nodes.length ∧ fitsLoop m takes (s.nodes.drop (k + 1, v').1) (k + 1, v').1 (k + 1, v').2 = r := fun v' h' => ⟨h, h'⟩
          cases hb1 : hasB (m : Int) k with
          | false =>
            rw [if_pos hb1] at hF
            simp only [go_sem,simprocAttr]
            refine W_lpI (k + 1, v) ?_ ?_ (go _ hF) (by dsimp only; omega)
            · simp only [go_sem,simprocAttr]
            · simp only [fitsS0,go_sem,simprocAttr,wrap_succ (show k < 9223372036854775807 by omega)]
          | true =>
            rw [if_neg (by simp [hb1])] at hF
            simp only [go_sem,simprocAttr]
            refine WC_split (fun hv => ?_) (fun hv => ?_) <;> simp only [hv,go_sem,simprocAttr] <;> (try simp only [beq_iff_eq,beq_eq_false_iff_ne,bne_iff_ne,ne_eq,decide_eq_true_eq,decide_eq_false_iff_not,Bool.not_true,Bool.not_false,Bool.not_eq_true,Bool.not_eq_false,bne_eq_false_iff_eq,Decidable.not_not] at hv)
            · rw [if_pos hv] at hF
              refine W_calld (hT s.nodes[k]) rfl rfl rfl rfl ?_; simp only [go_sem,simprocAttr]
              cases ht : takes s.nodes[k] with
              | false =>
                rw [if_neg (by simp [ht])] at hF
                simp only [go_sem,simprocAttr,← hF]
              | true =>
                by_cases hq : s.nodes[k].version = s.nodes[k].version
                · rw [if_pos ⟨ht, hq⟩] at hF
                  have hq1 : (s.nodes[k].version != s.nodes[k].version) = false := by simp [← hq]
                  simp only [go_sem,simprocAttr,hq1]
                  refine W_lpI (k + 1, s.nodes[k].version) ?_ ?_ (go _ hF) (by dsimp only; omega)
                  · simp only [go_sem,simprocAttr]
                  · simp only [fitsS0,go_sem,simprocAttr,wrap_succ (show k < 9223372036854775807 by omega)]
                · rw [if_neg (fun h' => hq h'.2)] at hF
                  have hq1 : (s.nodes[k].version != s.nodes[k].version) = true := bne_iff_ne.2 hq
                  simp only [go_sem,simprocAttr,hq1,← hF]
            · rw [if_neg hv] at hF
              refine W_calld (hT s.nodes[k]) rfl rfl rfl rfl ?_; simp only [go_sem,simprocAttr]
              cases ht : takes s.nodes[k] with
              | false =>
                rw [if_neg (by simp [ht])] at hF
                simp only [go_sem,simprocAttr,← hF]
              | true =>
                by_cases hq : s.nodes[k].version = v
                · rw [if_pos ⟨ht, hq⟩] at hF
                  have hq1 : (s.nodes[k].version != v) = false := by simp [← hq]
                  simp only [go_sem,simprocAttr,hq1]
                  refine W_lpI (k + 1, v) ?_ ?_ (go _ hF) (by dsimp only; omega)
                  · simp only [go_sem,simprocAttr]
                  · simp only [fitsS0,go_sem,simprocAttr,wrap_succ (show k < 9223372036854775807 by omega)]
                · rw [if_neg (fun h' => hq h'.2)] at hF
                  have hq1 : (s.nodes[k].version != v) = true := bne_iff_ne.2 hq
                  simp only [go_sem,simprocAttr,hq1,← hF]
        · obtain rfl := eq_of_dec h hk
          rw [List.drop_length] at hF
          simp only [go_sem,simprocAttr,← hF,fitsLoop]
    · rw [if_pos (.inr h2)]
  · rw [if_pos (.inl h1)]

theorem free_tri (n : NodeD) : Tri Tryz.prog G 222 [nodeV n] [] (.bool (freeB n)) [] := by
  refine tri_W0 Tryz.func222 (by decide) irOk222 (Nat.le_of_ble_eq_true rfl) rfl ?_
  simp only [ir222,go_sem,simprocAttr]
  unfold freeB
  cases h1 : n.up <;> cases h2 : n.cordon <;> cases h3 : n.moving <;> simp only [h1,h2,h3,go_sem,simprocAttr] <;> rfl

section
variable (c : ConfD) (s : StateD) (o : OpD) (i : Nat) (hi : i < s.nodes.length) (ha : o.a = i)
include hi ha
theorem cordon_tri : Tri Tryz.prog G 160 [.ptr 0 0] (workO c s o noP (.rp 1 s.nodes.length 5 i 0)) (.int (cordonD s o).2) (workO c (cordonD s o).1 o noP (.rp 1 s.nodes.length 5 i 0)) := by
  refine tri_WP Tryz.func160 (by decide) irOk160 (Nat.le_of_ble_eq_true rfl) rfl rfl rfl ?_
  simp only [ir160,go_sem,simprocAttr]
  have hg := get_mapD (f := nodeR) zeroNode hi
  have ha2 : o.a.toNat = i := by omega
  have hN : nodeA s o.a = s.nodes.getD i zeroNode := by unfold nodeA; rw [ha2]
  generalize s.nodes.getD i zeroNode = n at *
  cases hu : n.up <;> cases hc : n.cordon <;> simp only [hg,hu,hc,go_sem,simprocAttr] <;> simp only [cordonD,hu,hc,setN,hN,ha2,List.map_set,List.length_set,List.set_set,go_sem,simprocAttr,Bool.true_eq_false,Bool.false_eq_true,ne_eq,not_true,not_false_eq_true,or_self]
theorem uncordon_tri : Tri Tryz.prog G 161 [.ptr 0 0] (workO c s o noP (.rp 1 s.nodes.length 5 i 0)) (.int (uncordonD s o).2) (workO c (uncordonD s o).1 o noP (.rp 1 s.nodes.length 5 i 0)) := by
  refine tri_WP Tryz.func161 (by decide) irOk161 (Nat.le_of_ble_eq_true rfl) rfl rfl rfl ?_
  simp only [ir161,go_sem,simprocAttr]
  have hg := get_mapD (f := nodeR) zeroNode hi
  have ha2 : o.a.toNat = i := by omega
  have hN : nodeA s o.a = s.nodes.getD i zeroNode := by unfold nodeA; rw [ha2]
  generalize s.nodes.getD i zeroNode = n at *
  cases hu : n.moving <;> cases hc : n.cordon <;> simp only [hg,hu,hc,go_sem,simprocAttr] <;> simp only [uncordonD,hu,hc,setN,hN,ha2,List.map_set,List.length_set,List.set_set,go_sem,simprocAttr,Bool.true_eq_false,Bool.false_eq_true,ne_eq,not_true,not_false_eq_true,or_self]
theorem move_tri : Tri Tryz.prog G 162 [.ptr 0 0] (workO c s o noP (.rp 1 s.nodes.length 5 i 0)) (.int (moveD s o).2) (workO c (moveD s o).1 o noP (.rp 1 s.nodes.length 5 i 0)) := by
  refine tri_WP Tryz.func162 (by decide) irOk162 (Nat.le_of_ble_eq_true rfl) rfl rfl rfl ?_
  simp only [ir162,go_sem,simprocAttr]
  have hg := get_mapD (f := nodeR) zeroNode hi
  have ha2 : o.a.toNat = i := by omega
  have hN : nodeA s o.a = s.nodes.getD i zeroNode := by unfold nodeA; rw [ha2]
  generalize s.nodes.getD i zeroNode = n at *
  cases hu : n.up <;> cases hc : n.cordon <;> cases hm : n.moving <;> cases hj : (n.job != 0) <;> simp only [hg,hu,hc,hm,hj,go_sem,simprocAttr] <;> (simp only [beq_iff_eq,beq_eq_false_iff_ne,bne_iff_ne,ne_eq,decide_eq_true_eq,decide_eq_false_iff_not,Bool.not_true,Bool.not_false,Bool.not_eq_true,Bool.not_eq_false,bne_eq_false_iff_eq,Decidable.not_not] at hj) <;> simp only [moveD,hu,hc,hm,hj,setN,hN,ha2,List.map_set,List.length_set,List.set_set,go_sem,simprocAttr,Bool.true_eq_false,Bool.false_eq_true,ne_eq,not_true,not_false_eq_true,or_self]
theorem moved_tri : Tri Tryz.prog G 163 [.ptr 0 0] (workO c s o noP (.rp 1 s.nodes.length 5 i 0)) (.int (movedD s o).2) (workO c (movedD s o).1 o noP (.rp 1 s.nodes.length 5 i 0)) := by
  refine tri_WP Tryz.func163 (by decide) irOk163 (Nat.le_of_ble_eq_true rfl) rfl rfl rfl ?_
  simp only [ir163,go_sem,simprocAttr]
  have hg := get_mapD (f := nodeR) zeroNode hi
  have ha2 : o.a.toNat = i := by omega
  have hN : nodeA s o.a = s.nodes.getD i zeroNode := by unfold nodeA; rw [ha2]
  generalize s.nodes.getD i zeroNode = n at *
  refine W_calld (within_tri _ _ _) rfl rfl rfl rfl ?_; simp only [go_sem,simprocAttr]
  cases hw : withinB o.b 1 9 with
  | false => simp only [hg,go_sem,simprocAttr]; simp only [movedD,hw,setN,hN,ha2,List.map_set,List.length_set,List.set_set,go_sem,simprocAttr,Bool.true_eq_false,Bool.false_eq_true,ne_eq,not_true,not_false_eq_true,or_self]
  | true =>
    cases hm : n.moving with
    | false => simp only [hg,hm,go_sem,simprocAttr]; simp only [movedD,hw,hm,setN,hN,ha2,List.map_set,List.length_set,List.set_set,go_sem,simprocAttr,Bool.true_eq_false,Bool.false_eq_true,ne_eq,not_true,not_false_eq_true,or_self]
    | true =>
      simp only [hg,hm,hi,List.getElem?_set_self,List.length_map,List.length_set,go_sem,simprocAttr]
      refine W_opsD_end rfl ?_
      simp only [movedD,hw,hm,setN,hN,ha2,List.map_set,List.length_set,List.set_set,go_sem,simprocAttr,Bool.true_eq_false,Bool.false_eq_true,ne_eq,not_true,not_false_eq_true,or_self]
theorem up_tri : Tri Tryz.prog G 152 [.ptr 0 0] (workO c s o noP (.rp 1 s.nodes.length 5 i 0)) (.int (upD s o).2) (workO c (upD s o).1 o noP (.rp 1 s.nodes.length 5 i 0)) := by
  refine tri_WP Tryz.func152 (by decide) irOk152 (Nat.le_of_ble_eq_true rfl) rfl rfl rfl ?_
  simp only [ir152,go_sem,simprocAttr]
  have hg := get_mapD (f := nodeR) zeroNode hi
  have ha2 : o.a.toNat = i := by omega
  have hN : nodeA s o.a = s.nodes.getD i zeroNode := by unfold nodeA; rw [ha2]
  generalize s.nodes.getD i zeroNode = n at *
  refine W_calld (within_tri _ _ _) rfl rfl rfl rfl ?_; simp only [go_sem,simprocAttr]
  cases hw : withinB o.b 1 9 with
  | false => simp only [hg,go_sem,simprocAttr]; simp only [upD,hw,setN,hN,ha2,List.map_set,List.length_set,List.set_set,go_sem,simprocAttr,Bool.true_eq_false,Bool.false_eq_true,ne_eq,not_true,not_false_eq_true,or_self]
  | true =>
    cases hm : n.up with
    | true => simp only [hg,hm,go_sem,simprocAttr]; simp only [upD,hw,hm,setN,hN,ha2,List.map_set,List.length_set,List.set_set,go_sem,simprocAttr,Bool.true_eq_false,Bool.false_eq_true,ne_eq,not_true,not_false_eq_true,or_self]
    | false =>
      simp only [hg,hm,hi,List.getElem?_set_self,List.length_map,List.length_set,go_sem,simprocAttr]
      refine W_opsD_end rfl ?_
      simp only [upD,hw,hm,setN,hN,ha2,List.map_set,List.length_set,List.set_set,go_sem,simprocAttr,Bool.true_eq_false,Bool.false_eq_true,ne_eq,not_true,not_false_eq_true,or_self]
end
end Dv

namespace Dv
open Go Go.Proofs
variable {G : Nat → Option (List DV)}

theorem runs_tri (c : ConfD) (s : StateD) (o : OpD) (k : Nat) (hk : k < s.jobs.length) (ha : o.a = k + 1) : Tri Tryz.prog G 223 [.ptr 0 0] (workO c s o (.rp 2 s.jobs.length 12 k 0) noP) (.bool (runsB (jobA s o.a))) (workO c s o (.rp 2 s.jobs.length 12 k 0) noP) := by
  refine tri_WP Tryz.func223 (by decide) irOk223 (Nat.le_of_ble_eq_true rfl) rfl rfl rfl ?_
  simp only [ir223,go_sem,simprocAttr]
  have hg := get_mapD (f := jobR) zeroJob hk
  have ha2 : (o.a - 1).toNat = k := by omega
  have hJ : jobA s o.a = s.jobs.getD k zeroJob := by unfold jobA; rw [ha2]
  generalize s.jobs.getD k zeroJob = j at *
  simp only [hg,go_sem,simprocAttr]
  refine WG_split (fun h => ?_) (fun h => ?_) <;> simp only [h,go_sem,simprocAttr] <;> (try simp only [beq_iff_eq,beq_eq_false_iff_ne,bne_iff_ne,ne_eq,decide_eq_true_eq,decide_eq_false_iff_not,Bool.not_true,Bool.not_false,Bool.not_eq_true,Bool.not_eq_false,bne_eq_false_iff_eq,Decidable.not_not] at h)
  · have e1 : (j.phase == 2) = false := by simpa using h
    simp only [hg,hJ,runsB,h,e1,go_sem,simprocAttr]
    rfl
  · have e1 : (j.phase == 2) = true := by simpa using h
    simp only [hJ,runsB,h,e1,go_sem,simprocAttr]
theorem cancel_tri (c : ConfD) (s : StateD) (o : OpD) (k : Nat) (hk : k < s.jobs.length) (ha : o.a = k + 1) (hn : s.nodes.length ≤ 1000) (hj : s.jobs.length ≤ 1000) : Tri Tryz.prog G 146 [.ptr 0 0] (workO c s o (.rp 2 s.jobs.length 12 k 0) noP) (.int (cancelD s o).2) (workO c (cancelD s o).1 o (.rp 2 s.jobs.length 12 k 0) noP) := by
  refine tri_WP Tryz.func146 (by decide) irOk146 (Nat.le_of_ble_eq_true rfl) rfl rfl rfl ?_
  simp only [ir146,go_sem,simprocAttr]
  have hg := get_mapD (f := jobR) zeroJob hk
  have ha2 : (o.a - 1).toNat = k := by omega
  have hJ : jobA s o.a = s.jobs.getD k zeroJob := by unfold jobA; rw [ha2]
  generalize s.jobs.getD k zeroJob = j at *
  simp only [hg,go_sem,simprocAttr]
  refine WC_split (fun h => ?_) (fun h => ?_) <;> simp only [h,go_sem,simprocAttr] <;> (try simp only [beq_iff_eq,beq_eq_false_iff_ne,bne_iff_ne,ne_eq,decide_eq_true_eq,decide_eq_false_iff_not,Bool.not_true,Bool.not_false,Bool.not_eq_true,Bool.not_eq_false,bne_eq_false_iff_eq,Decidable.not_not] at h)
  · simp only [cancelD,h,setJ,hJ,ha2,List.map_set,List.length_set,List.set_set,go_sem,simprocAttr,Bool.true_eq_false,Bool.false_eq_true,ne_eq,not_true,not_false_eq_true,or_self]
  · refine W_callo [0, 1, 2] (release_tri c s o (.rp 2 s.jobs.length 12 k 0) noP o.a 4 rfl rfl (by omega) (by omega) hn hj) rfl (by simp only [argRs,argR,List.map_cons,List.map_nil,go_sem,simprocAttr,workO]) (by decide) (by simp only [go_sem,simprocAttr,workO]) (by simp only [go_sem,simprocAttr,List.all_cons,List.all_nil,workO]) (by simp) ?_; simp only [go_sem,simprocAttr,workO]
    simp only [cancelD,h,setJ,hJ,ha2,List.map_set,List.length_set,List.set_set,go_sem,simprocAttr,Bool.true_eq_false,Bool.false_eq_true,ne_eq,not_true,not_false_eq_true,or_self]
theorem unhold_tri (c : ConfD) (s : StateD) (o : OpD) (k : Nat) (hk : k < s.jobs.length) (ha : o.a = k + 1) (hn : s.nodes.length ≤ 1000) (hj : s.jobs.length ≤ 1000) : Tri Tryz.prog G 155 [.ptr 0 0] (workO c s o (.rp 2 s.jobs.length 12 k 0) noP) (.int (unholdD s o).2) (workO c (unholdD s o).1 o (.rp 2 s.jobs.length 12 k 0) noP) := by
  refine tri_WP Tryz.func155 (by decide) irOk155 (Nat.le_of_ble_eq_true rfl) rfl rfl rfl ?_
  simp only [ir155,go_sem,simprocAttr]
  have hg := get_mapD (f := jobR) zeroJob hk
  have ha2 : (o.a - 1).toNat = k := by omega
  have hJ : jobA s o.a = s.jobs.getD k zeroJob := by unfold jobA; rw [ha2]
  generalize s.jobs.getD k zeroJob = j at *
  simp only [hg,go_sem,simprocAttr]
  refine WC_split (fun h => ?_) (fun h => ?_) <;> simp only [h,go_sem,simprocAttr] <;> (try simp only [beq_iff_eq,beq_eq_false_iff_ne,bne_iff_ne,ne_eq,decide_eq_true_eq,decide_eq_false_iff_not,Bool.not_true,Bool.not_false,Bool.not_eq_true,Bool.not_eq_false,bne_eq_false_iff_eq,Decidable.not_not] at h)
  · simp only [unholdD,h,setJ,hJ,ha2,List.map_set,List.length_set,List.set_set,go_sem,simprocAttr,Bool.true_eq_false,Bool.false_eq_true,ne_eq,not_true,not_false_eq_true,or_self]
  · refine W_callo [0, 1, 2] (release_tri c s o (.rp 2 s.jobs.length 12 k 0) noP o.a 0 rfl rfl (by omega) (by omega) hn hj) rfl (by simp only [argRs,argR,List.map_cons,List.map_nil,go_sem,simprocAttr,workO]) (by decide) (by simp only [go_sem,simprocAttr,workO]) (by simp only [go_sem,simprocAttr,List.all_cons,List.all_nil,workO]) (by simp) ?_; simp only [go_sem,simprocAttr,workO]
    simp only [unholdD,h,setJ,hJ,ha2,List.map_set,List.length_set,List.set_set,go_sem,simprocAttr,Bool.true_eq_false,Bool.false_eq_true,ne_eq,not_true,not_false_eq_true,or_self]
theorem evict_tri (c : ConfD) (s : StateD) (o : OpD) (k : Nat) (hk : k < s.jobs.length) (ha : o.a = k + 1) (hn : s.nodes.length ≤ 1000) (hj : s.jobs.length ≤ 1000) : Tri Tryz.prog G 158 [.ptr 0 0] (workO c s o (.rp 2 s.jobs.length 12 k 0) noP) (.int (evictD s o).2) (workO c (evictD s o).1 o (.rp 2 s.jobs.length 12 k 0) noP) := by
  refine tri_WP Tryz.func158 (by decide) irOk158 (Nat.le_of_ble_eq_true rfl) rfl rfl rfl ?_
  simp only [ir158,go_sem,simprocAttr]
  have hg := get_mapD (f := jobR) zeroJob hk
  have ha2 : (o.a - 1).toNat = k := by omega
  have hJ : jobA s o.a = s.jobs.getD k zeroJob := by unfold jobA; rw [ha2]
  generalize s.jobs.getD k zeroJob = j at *
  simp only [hg,go_sem,simprocAttr]
  refine WC_split (fun h => ?_) (fun h => ?_) <;> simp only [h,go_sem,simprocAttr] <;> (try simp only [beq_iff_eq,beq_eq_false_iff_ne,bne_iff_ne,ne_eq,decide_eq_true_eq,decide_eq_false_iff_not,Bool.not_true,Bool.not_false,Bool.not_eq_true,Bool.not_eq_false,bne_eq_false_iff_eq,Decidable.not_not] at h)
  · simp only [evictD,h,setJ,hJ,ha2,List.map_set,List.length_set,List.set_set,go_sem,simprocAttr,Bool.true_eq_false,Bool.false_eq_true,ne_eq,not_true,not_false_eq_true,or_self]
  · refine W_callo [0, 1, 2] (release_tri c s o (.rp 2 s.jobs.length 12 k 0) noP o.a 0 rfl rfl (by omega) (by omega) hn hj) rfl (by simp only [argRs,argR,List.map_cons,List.map_nil,go_sem,simprocAttr,workO]) (by decide) (by simp only [go_sem,simprocAttr,workO]) (by simp only [go_sem,simprocAttr,List.all_cons,List.all_nil,workO]) (by simp) ?_; simp only [go_sem,simprocAttr,workO]
    simp only [evictD,h,setJ,hJ,ha2,List.map_set,List.length_set,List.set_set,go_sem,simprocAttr,Bool.true_eq_false,Bool.false_eq_true,ne_eq,not_true,not_false_eq_true,or_self]
theorem done_tri9 (c : ConfD) (s : StateD) (o : OpD) (k : Nat) (hk : k < s.jobs.length) (ha : o.a = k + 1) (hn : s.nodes.length ≤ 1000) (hj : s.jobs.length ≤ 1000) : Tri Tryz.prog G 159 [.ptr 0 0] (workO c s o (.rp 2 s.jobs.length 12 k 0) noP) (.int (doneD s o).2) (workO c (doneD s o).1 o (.rp 2 s.jobs.length 12 k 0) noP) := by
  refine tri_WP Tryz.func159 (by decide) irOk159 (Nat.le_of_ble_eq_true rfl) rfl rfl rfl ?_
  simp only [ir159,go_sem,simprocAttr]
  have hg := get_mapD (f := jobR) zeroJob hk
  have ha2 : (o.a - 1).toNat = k := by omega
  have hJ : jobA s o.a = s.jobs.getD k zeroJob := by unfold jobA; rw [ha2]
  generalize s.jobs.getD k zeroJob = j at *
  refine W_callo [0, 1, 2] (runs_tri c s o k hk ha) rfl (by simp only [argRs,argR,List.map_cons,List.map_nil,go_sem,simprocAttr,workO]) (by decide) (by simp only [go_sem,simprocAttr,workO]) (by simp only [go_sem,simprocAttr,List.all_cons,List.all_nil,workO]) (by simp) ?_; simp only [go_sem,simprocAttr,workO]
  simp only [hJ]
  cases h : runsB j with
  | false => simp only [go_sem,simprocAttr]; simp only [doneD,h,setJ,hJ,ha2,List.map_set,List.length_set,List.set_set,go_sem,simprocAttr,Bool.true_eq_false,Bool.false_eq_true,ne_eq,not_true,not_false_eq_true,or_self]
  | true =>
    simp only [go_sem,simprocAttr]
    refine W_callo [0, 1, 2] (release_tri c s o (.rp 2 s.jobs.length 12 k 0) noP o.a 4 rfl rfl (by omega) (by omega) hn hj) rfl (by simp only [argRs,argR,List.map_cons,List.map_nil,go_sem,simprocAttr,workO]) (by decide) (by simp only [go_sem,simprocAttr,workO]) (by simp only [go_sem,simprocAttr,List.all_cons,List.all_nil,workO]) (by simp) ?_; simp only [go_sem,simprocAttr,workO]
    simp only [doneD,h,setJ,hJ,ha2,List.map_set,List.length_set,List.set_set,go_sem,simprocAttr,Bool.true_eq_false,Bool.false_eq_true,ne_eq,not_true,not_false_eq_true,or_self]
theorem start_tri (c : ConfD) (s : StateD) (o : OpD) (k : Nat) (hk : k < s.jobs.length) (ha : o.a = k + 1) : Tri Tryz.prog G 154 [.ptr 0 0] (workO c s o (.rp 2 s.jobs.length 12 k 0) noP) (.int (startD s o).2) (workO c (startD s o).1 o (.rp 2 s.jobs.length 12 k 0) noP) := by
  refine tri_WP Tryz.func154 (by decide) irOk154 (Nat.le_of_ble_eq_true rfl) rfl rfl rfl ?_
  simp only [ir154,go_sem,simprocAttr]
  have hg := get_mapD (f := jobR) zeroJob hk
  have ha2 : (o.a - 1).toNat = k := by omega
  have hJ : jobA s o.a = s.jobs.getD k zeroJob := by unfold jobA; rw [ha2]
  generalize s.jobs.getD k zeroJob = j at *
  simp only [hg,go_sem,simprocAttr]
  refine WC_split (fun h => ?_) (fun h => ?_) <;> simp only [h,go_sem,simprocAttr] <;> (try simp only [beq_iff_eq,beq_eq_false_iff_ne,bne_iff_ne,ne_eq,decide_eq_true_eq,decide_eq_false_iff_not,Bool.not_true,Bool.not_false,Bool.not_eq_true,Bool.not_eq_false,bne_eq_false_iff_eq,Decidable.not_not] at h)
  · simp only [startD,h,setJ,hJ,ha2,List.map_set,List.length_set,List.set_set,go_sem,simprocAttr,Bool.true_eq_false,Bool.false_eq_true,ne_eq,not_true,not_false_eq_true,or_self]
  · simp only [hg,hk,List.getElem?_set_self,List.length_map,List.length_set,go_sem,simprocAttr]
    refine W_opsD_end rfl ?_
    simp only [startD,h,setJ,hJ,ha2,List.map_set,List.length_set,List.set_set,go_sem,simprocAttr,Bool.true_eq_false,Bool.false_eq_true,ne_eq,not_true,not_false_eq_true,or_self]
theorem saved_tri (c : ConfD) (s : StateD) (o : OpD) (k : Nat) (hk : k < s.jobs.length) (ha : o.a = k + 1) : Tri Tryz.prog G 157 [.ptr 0 0] (workO c s o (.rp 2 s.jobs.length 12 k 0) noP) (.int (savedD s o).2) (workO c (savedD s o).1 o (.rp 2 s.jobs.length 12 k 0) noP) := by
  refine tri_WP Tryz.func157 (by decide) irOk157 (Nat.le_of_ble_eq_true rfl) rfl rfl rfl ?_
  simp only [ir157,go_sem,simprocAttr]
  have hg := get_mapD (f := jobR) zeroJob hk
  have ha2 : (o.a - 1).toNat = k := by omega
  have hJ : jobA s o.a = s.jobs.getD k zeroJob := by unfold jobA; rw [ha2]
  generalize s.jobs.getD k zeroJob = j at *
  refine W_callo [0, 1, 2] (runs_tri c s o k hk ha) rfl (by simp only [argRs,argR,List.map_cons,List.map_nil,go_sem,simprocAttr,workO]) (by decide) (by simp only [go_sem,simprocAttr,workO]) (by simp only [go_sem,simprocAttr,List.all_cons,List.all_nil,workO]) (by simp) ?_; simp only [go_sem,simprocAttr,workO]
  simp only [hJ]
  cases h : runsB j with
  | false => simp only [go_sem,simprocAttr]; simp only [savedD,h,setJ,hJ,ha2,List.map_set,List.length_set,List.set_set,go_sem,simprocAttr,Bool.true_eq_false,Bool.false_eq_true,ne_eq,not_true,not_false_eq_true,or_self]
  | true =>
    simp only [hg,go_sem,simprocAttr]
    refine WGD_split (fun h1 => ?_) (fun h1 => ?_) <;> simp only [h1,go_sem,simprocAttr] <;> (try simp only [beq_iff_eq,beq_eq_false_iff_ne,bne_iff_ne,ne_eq,decide_eq_true_eq,decide_eq_false_iff_not,Bool.not_true,Bool.not_false,Bool.not_eq_true,Bool.not_eq_false,bne_eq_false_iff_eq,Decidable.not_not] at h1)
    · simp only [hg,go_sem,simprocAttr]
      rw [h1]
      refine WC_split (fun h2 => ?_) (fun h2 => ?_) <;> simp only [h2,go_sem,simprocAttr] <;> (try simp only [beq_iff_eq,beq_eq_false_iff_ne,bne_iff_ne,ne_eq,decide_eq_true_eq,decide_eq_false_iff_not,Bool.not_true,Bool.not_false,Bool.not_eq_true,Bool.not_eq_false,bne_eq_false_iff_eq,Decidable.not_not] at h2)
      · simp only [savedD,h,h1,h2,or_true,true_or,setJ,hJ,ha2,List.map_set,List.length_set,List.set_set,go_sem,simprocAttr,Bool.true_eq_false,Bool.false_eq_true,ne_eq,not_true,not_false_eq_true,or_self]
      · simp only [hg,go_sem,simprocAttr]
        refine W_opsD_end rfl ?_
        simp only [savedD,h,h1,h2,or_true,true_or,setJ,hJ,ha2,List.map_set,List.length_set,List.set_set,go_sem,simprocAttr,Bool.true_eq_false,Bool.false_eq_true,ne_eq,not_true,not_false_eq_true,or_self]
    · simp only [savedD,h,h1,or_true,true_or,setJ,hJ,ha2,List.map_set,List.length_set,List.set_set,go_sem,simprocAttr,Bool.true_eq_false,Bool.false_eq_true,ne_eq,not_true,not_false_eq_true,or_self]
theorem drain_tri9 (c : ConfD) (s : StateD) (o : OpD) (k : Nat) (hk : k < s.jobs.length) (ha : o.a = k + 1) (hj : s.jobs.length ≤ 1000) : Tri Tryz.prog G 156 [.ptr 0 0] (workO c s o (.rp 2 s.jobs.length 12 k 0) noP) (.int (drainD c s o).2) (workO c (drainD c s o).1 o (.rp 2 s.jobs.length 12 k 0) noP) := by
  refine tri_WP Tryz.func156 (by decide) irOk156 (Nat.le_of_ble_eq_true rfl) rfl rfl rfl ?_
  simp only [ir156,go_sem,simprocAttr]
  have hg := get_mapD (f := jobR) zeroJob hk
  have ha2 : (o.a - 1).toNat = k := by omega
  have hJ : jobA s o.a = s.jobs.getD k zeroJob := by unfold jobA; rw [ha2]
  generalize s.jobs.getD k zeroJob = j at *
  simp only [hg,go_sem,simprocAttr]
  refine WC_split (fun h => ?_) (fun h => ?_) <;> simp only [h,go_sem,simprocAttr] <;> (try simp only [beq_iff_eq,beq_eq_false_iff_ne,bne_iff_ne,ne_eq,decide_eq_true_eq,decide_eq_false_iff_not,Bool.not_true,Bool.not_false,Bool.not_eq_true,Bool.not_eq_false,bne_eq_false_iff_eq,Decidable.not_not] at h)
  · simp only [drainD,h,setJ,hJ,ha2,List.map_set,List.length_set,List.set_set,go_sem,simprocAttr,Bool.true_eq_false,Bool.false_eq_true,ne_eq,not_true,not_false_eq_true,or_self]
  · simp only [hg,go_sem,simprocAttr]
    refine WD_callz [1, 2] (drains_tri s j.queue (by omega)) rfl (by simp [argRs,argR,rowsAt,objL,List.take_of_length_le,go_sem,simprocAttr]) (by simp [objL]) rfl rfl ?_; simp only [go_sem,simprocAttr]
    refine WC_split (fun h2 => ?_) (fun h2 => ?_) <;> simp only [h2,go_sem,simprocAttr] <;> (try simp only [beq_iff_eq,beq_eq_false_iff_ne,bne_iff_ne,ne_eq,decide_eq_true_eq,decide_eq_false_iff_not,Bool.not_true,Bool.not_false,Bool.not_eq_true,Bool.not_eq_false,bne_eq_false_iff_eq,Decidable.not_not] at h2)
    · simp only [drainD,h,h2,ge_iff_le,setJ,hJ,ha2,List.map_set,List.length_set,List.set_set,go_sem,simprocAttr,Bool.true_eq_false,Bool.false_eq_true,ne_eq,not_true,not_false_eq_true,or_self]
    · simp only [hg,hk,List.getElem?_set_self,List.length_map,List.length_set,go_sem,simprocAttr]
      refine W_opsD_end rfl ?_
      simp only [drainD,h,h2,ge_iff_le,setJ,hJ,ha2,List.map_set,List.length_set,List.set_set,go_sem,simprocAttr,Bool.true_eq_false,Bool.false_eq_true,ne_eq,not_true,not_false_eq_true,or_self]
theorem down_tri (c : ConfD) (s : StateD) (o : OpD) (i : Nat) (hi : i < s.nodes.length) (ha : o.a = i) (hn : s.nodes.length ≤ 1000) (hj : s.jobs.length ≤ 1000) (hb : 0 ≤ (nodeA s o.a).job ∧ (nodeA s o.a).job ≤ s.jobs.length) :
    Tri Tryz.prog G 151 [.ptr 0 0] (workO c s o noP (.rp 1 s.nodes.length 5 i 0)) (.int (downD s o).2) (workO c (downD s o).1 o noP (.rp 1 s.nodes.length 5 i 0)) := by
  refine tri_WP Tryz.func151 (by decide) irOk151 (Nat.le_of_ble_eq_true rfl) rfl rfl rfl ?_
  simp only [ir151,go_sem,simprocAttr]
  have hg := get_mapD (f := nodeR) zeroNode hi
  have ha2 : o.a.toNat = i := by omega
  have hN : nodeA s o.a = s.nodes.getD i zeroNode := by unfold nodeA; rw [ha2]
  generalize s.nodes.getD i zeroNode = n at *
  rw [hN] at hb
  cases hu : n.up with
  | false => simp only [hg,hu,go_sem,simprocAttr]; simp only [downD,hu,setN,hN,ha2,List.map_set,List.length_set,List.set_set,go_sem,simprocAttr,Bool.true_eq_false,Bool.false_eq_true,ne_eq,not_true,not_false_eq_true,or_self]
  | true =>
    simp only [hg,hu,go_sem,simprocAttr]
    refine WC_split (fun h => ?_) (fun h => ?_) <;> simp only [h,go_sem,simprocAttr] <;> (try simp only [beq_iff_eq,beq_eq_false_iff_ne,bne_iff_ne,ne_eq,decide_eq_true_eq,decide_eq_false_iff_not,Bool.not_true,Bool.not_false,Bool.not_eq_true,Bool.not_eq_false,bne_eq_false_iff_eq,Decidable.not_not] at h)
    · simp only [hg,go_sem,simprocAttr]
      refine W_callo [0, 1, 2] (release_tri c s o noP (.rp 1 s.nodes.length 5 i 0) n.job 0 rfl rfl (by omega) (by omega) hn hj) rfl (by simp only [argRs,argR,List.map_cons,List.map_nil,go_sem,simprocAttr,workO]) (by decide) (by simp only [go_sem,simprocAttr,workO]) (by simp only [go_sem,simprocAttr,List.all_cons,List.all_nil,workO]) (by simp) ?_; simp only [go_sem,simprocAttr,workO]
      have hg2 : ((releaseD s n.job 0).nodes.map nodeR)[i]? = some (nodeR (nodeA (releaseD s n.job 0) o.a)) := by
        unfold nodeA; rw [ha2]; exact get_mapD zeroNode (by simp [releaseD]; exact hi)
      have hl : (releaseD s n.job 0).nodes.length = s.nodes.length := by simp [releaseD]
      have hi2 : i < (releaseD s n.job 0).nodes.length := by omega
      generalize hm : nodeA (releaseD s n.job 0) o.a = m at *
      simp only [hg2,hl,hi,List.getElem?_set_self,List.length_map,List.length_set,go_sem,simprocAttr]
      refine W_opsD_end rfl ?_
      simp only [downD,hu,h,hm,hl,setN,hN,ha2,List.map_set,List.length_set,List.set_set,go_sem,simprocAttr,Bool.true_eq_false,Bool.false_eq_true,ne_eq,not_true,not_false_eq_true,or_self]
    · simp only [hg,hi,List.getElem?_set_self,List.length_map,List.length_set,go_sem,simprocAttr]
      refine W_opsD_end rfl ?_
      simp only [downD,hu,h,setN,hN,ha2,List.map_set,List.length_set,List.set_set,go_sem,simprocAttr,Bool.true_eq_false,Bool.false_eq_true,ne_eq,not_true,not_false_eq_true,or_self]
end Dv

namespace Dv
open Go Go.Proofs
variable {G : Nat → Option (List DV)}

def ir153 : Nat × C × List RV := (100,
(.seq (.reg [qo 2 (.mv (qk 0))])
 (.seq (.block 0 (.seq (.reg [qm 5 0,
 qo 6 (.nck (.t 5)),
 qo 7 (.fad 22 (.t 6)),
 qo 8 (.ld1 (.t 7)),
 qo 9 (.nck (.t 8)),
 qo 10 (.fad 6 (.t 9)),
 qo 11 (.ld1 (.t 10)),
 qo 12 (.bin .neq (.t 11) (qk 0)),
 qm 4 12])
 (.cond (.t 4) (.seq (.reg [qo 2 (.mv (qk 5))])
 .ret)
 (.seq (.regD [qm 14 0,
 qd 15 (.nck (.t 14)) [0],
 qd 16 (.fad 9 (.t 15)) [1,0],
 qd 17 (.ldn 6 (.t 16)) [2,1,0],
 qm 18 0,
 qd 19 (.nck (.t 18)) [4],
 qd 20 (.fad 22 (.t 19)) [5,4],
 qd 21 (.ld1 (.t 20)) [6,5,4],
 qd 22 (.nck (.t 21)) [7,6,5,4],
 qd 23 (.ldn 12 (.t 22)) [8,7,6,5,4],
 qm 24 0,
 qd 25 (.nck (.t 24)) [10],
 qd 26 (.fad 15 (.t 25)) [11,10],
 qd 27 (.fad 2 (.t 26)) [12,11,10],
 qd 28 (.ld1 (.t 27)) [13,12,11,10],
 qd 29 (.call (.f 196) [(.t 17),(.t 23),(.t 28),(.f 222)]) [3,2,1,0,9,8,7,6,5,4,14,13,12,11,10],
 qd 30 (.not (.t 29)) [15,3,2,1,0,9,8,7,6,5,4,14,13,12,11,10],
 qd 31 (.mv (.t 30)) [16,15,3,2,1,0,9,8,7,6,5,4,14,13,12,11,10],
 qe 32 (.mv (.t 0)) 31 false [17,16,15,3,2,1,0,9,8,7,6,5,4,14,13,12,11,10],
 qe 33 (.nck (.t 32)) 31 false [18,17,16,15,3,2,1,0,9,8,7,6,5,4,14,13,12,11,10],
 qe 34 (.fad 22 (.t 33)) 31 false [19,18,17,16,15,3,2,1,0,9,8,7,6,5,4,14,13,12,11,10],
 qe 35 (.ld1 (.t 34)) 31 false [20,19,18,17,16,15,3,2,1,0,9,8,7,6,5,4,14,13,12,11,10],
 qe 36 (.nck (.t 35)) 31 false [21,20,19,18,17,16,15,3,2,1,0,9,8,7,6,5,4,14,13,12,11,10],
 qe 37 (.fad 7 (.t 36)) 31 false [22,21,20,19,18,17,16,15,3,2,1,0,9,8,7,6,5,4,14,13,12,11,10],
 qe 38 (.ld1 (.t 37)) 31 false [23,22,21,20,19,18,17,16,15,3,2,1,0,9,8,7,6,5,4,14,13,12,11,10],
 qe 39 (.bin .geq (.t 38) (qk 1000000)) 31 false [24,23,22,21,20,19,18,17,16,15,3,2,1,0,9,8,7,6,5,4,14,13,12,11,10],
 qd 40 (.pick (.t 31) qt (.t 39)) [17,16,15,3,2,1,0,9,8,7,6,5,4,14,13,12,11,10,25,24,23,22,21,20,19,18],
 qd 13 (.mv (.t 40)) [26,17,16,15,3,2,1,0,9,8,7,6,5,4,14,13,12,11,10,25,24,23,22,21,20,19,18]])
 (.cond (.t 13) (.seq (.reg [qo 2 (.mv (qk 8))])
 .ret)
 .skip)))))
 (.seq (.regD [qm 41 0,
 qd 42 (.nck (.t 41)) [0],
 qd 43 (.fad 22 (.t 42)) [1,0],
 qd 44 (.ld1 (.t 43)) [2,1,0],
 qm 45 0,
 qd 46 (.nck (.t 45)) [4],
 qd 47 (.fad 22 (.t 46)) [5,4],
 qd 48 (.ld1 (.t 47)) [6,5,4],
 qm 49 0,
 qd 50 (.nck (.t 49)) [8],
 qd 51 (.fad 15 (.t 50)) [9,8],
 qd 52 (.fad 2 (.t 51)) [10,9,8],
 qd 53 (.ld1 (.t 52)) [11,10,9,8],
 qd 54 (.nck (.t 44)) [3,2,1,0,7,6,5,4,12,11,10,9,8],
 qd 55 (.fad 6 (.t 54)) [13,3,2,1,0,7,6,5,4,12,11,10,9,8],
 ql (.st 1 (.t 55) (qk 1)) [14,13,3,2,1,0,7,6,5,4,12,11,10,9,8],
 qd 56 (.nck (.t 48)) [7,6,5,4,0,1,2,3,8,9,10,11,12,13,14,15],
 qd 57 (.fad 8 (.t 56)) [16,7,6,5,4,0,1,2,3,8,9,10,11,12,13,14,15],
 ql (.st 1 (.t 57) (.t 53)) [17,16,7,6,5,4,0,1,2,3,8,9,10,11,12,13,14,15]])
 (.seq (.reg [qm 58 0,
 qo 59 (.nck (.t 58)),
 qo 60 (.fad 22 (.t 59)),
 qo 61 (.ld1 (.t 60)),
 qo 62 (.nck (.t 61)),
 qo 63 (.fad 7 (.t 62)),
 qo 64 (.ld1 (.t 63)),
 qo 65 (.bin .add (.t 64) (qk 1)),
 qo 66 (.nck (.t 61)),
 qo 67 (.fad 7 (.t 66)),
 qn (.st 1 (.t 67) (.t 65))])
 (.seq (.seq (.reg [qm 68 0,
 qo 69 (.nck (.t 68)),
 qo 70 (.fad 9 (.t 69)),
 qo 71 (.fad 0 (.t 70)),
 qo 72 (.ld1 (.t 71)),
 qo 73 (.len (.t 72)),
 qo 74 (.mv (qk 0))])
 (.block 1 (.loop (.seq (.reg [qo 75 (.bin .lss (.t 74) (.t 73))])
 (.seq (.cond (.t 75) .skip
 (.exit 1))
 (.seq (.block 2 (.seq (.reg [qm 76 74,
 qm 3 76])
 (.seq (.reg [qm 77 0,
 qo 78 (.nck (.t 77)),
 qo 79 (.fad 15 (.t 78)),
 qo 80 (.fad 2 (.t 79)),
 qo 81 (.ld1 (.t 80)),
 qm 82 3,
 qo 83 (.bin .shr (.t 81) (.t 82)),
 qo 84 (.bin .and (.t 83) (qk 1)),
 qo 85 (.bin .eql (.t 84) (qk 1))])
 (.cond (.t 85) (.regD [qm 86 0,
 qd 87 (.nck (.t 86)) [0],
 qd 88 (.fad 9 (.t 87)) [1,0],
 qd 89 (.fad 0 (.t 88)) [2,1,0],
 qd 90 (.ld1 (.t 89)) [3,2,1,0],
 qm 91 3,
 qm 92 0,
 qd 93 (.nck (.t 92)) [6],
 qd 94 (.fad 15 (.t 93)) [7,6],
 qd 95 (.fad 1 (.t 94)) [8,7,6],
 qd 96 (.ld1 (.t 95)) [9,8,7,6],
 qd 97 (.ixa 5 (.t 90) (.t 91)) [4,3,2,1,0,5,6,7,8,9,10],
 qd 98 (.fad 4 (.t 97)) [11,4,3,2,1,0,5,6,7,8,9,10],
 ql (.st 1 (.t 98) (.t 96)) [12,11,4,3,2,1,0,5,6,7,8,9,10]])
 .skip))))
 (.reg [qo 99 (.bin .add (.t 74) (qk 1)),
 qm 74 99])))))))
 (.seq (.reg [qo 2 (.mv (qk 0))])
 .ret)))))),
[(.t 2)])
theorem irOk153 : convFn Tryz.prog Tryz.f153 = some ir153 := by kernel_rfl
def ir164 : Nat × C × List RV := (92,
(.seq (.reg [qo 2 (.mv (qk 0))])
 (.seq (.block 0 (.seq (.regD [qm 4 0,
 qd 5 (.nck (.t 4)) [0],
 qd 6 (.fad 15 (.t 5)) [1,0],
 qd 7 (.fad 2 (.t 6)) [2,1,0],
 qd 8 (.ld1 (.t 7)) [3,2,1,0],
 qm 9 0,
 qd 10 (.nck (.t 9)) [5],
 qd 11 (.fad 9 (.t 10)) [6,5],
 qd 12 (.fad 0 (.t 11)) [7,6,5],
 qd 13 (.ld1 (.t 12)) [8,7,6,5],
 qd 14 (.len (.t 13)) [9,8,7,6,5],
 qd 15 (.bin .geq (.t 8) (.t 14)) [4,3,2,1,0,10,9,8,7,6,5],
 qd 3 (.mv (.t 15)) [11,4,3,2,1,0,10,9,8,7,6,5]])
 (.cond (.t 3) (.seq (.reg [qo 2 (.mv (qk 4))])
 .ret)
 (.seq (.reg [qm 17 0,
 qo 18 (.nck (.t 17)),
 qo 19 (.fad 22 (.t 18)),
 qo 20 (.ld1 (.t 19)),
 qo 21 (.nck (.t 20)),
 qo 22 (.fad 6 (.t 21)),
 qo 23 (.ld1 (.t 22)),
 qo 24 (.bin .neq (.t 23) (qk 2)),
 qm 16 24])
 (.cond (.t 16) (.seq (.reg [qo 2 (.mv (qk 5))])
 .ret)
 (.seq (.regD [qm 26 0,
 qd 27 (.nck (.t 26)) [0],
 qd 28 (.fad 9 (.t 27)) [1,0],
 qd 29 (.fad 0 (.t 28)) [2,1,0],
 qd 30 (.ld1 (.t 29)) [3,2,1,0],
 qm 31 0,
 qd 32 (.nck (.t 31)) [5],
 qd 33 (.fad 15 (.t 32)) [6,5],
 qd 34 (.fad 2 (.t 33)) [7,6,5],
 qd 35 (.ld1 (.t 34)) [8,7,6,5],
 qd 36 (.ixa 5 (.t 30) (.t 35)) [4,3,2,1,0,9,8,7,6,5],
 qd 37 (.fad 4 (.t 36)) [10,4,3,2,1,0,9,8,7,6,5],
 qd 38 (.ld1 (.t 37)) [11,10,4,3,2,1,0,9,8,7,6,5],
 qm 39 0,
 qd 40 (.nck (.t 39)) [13],
 qd 41 (.fad 15 (.t 40)) [14,13],
 qd 42 (.fad 1 (.t 41)) [15,14,13],
 qd 43 (.ld1 (.t 42)) [16,15,14,13],
 qd 44 (.bin .neq (.t 38) (.t 43)) [12,11,10,4,3,2,1,0,9,8,7,6,5,17,16,15,14,13],
 qd 45 (.mv (.t 44)) [18,12,11,10,4,3,2,1,0,9,8,7,6,5,17,16,15,14,13],
 qe 46 (.mv (.t 0)) 45 false [19,18,12,11,10,4,3,2,1,0,9,8,7,6,5,17,16,15,14,13],
 qe 47 (.nck (.t 46)) 45 false [20,19,18,12,11,10,4,3,2,1,0,9,8,7,6,5,17,16,15,14,13],
 qe 48 (.fad 22 (.t 47)) 45 false [21,20,19,18,12,11,10,4,3,2,1,0,9,8,7,6,5,17,16,15,14,13],
 qe 49 (.ld1 (.t 48)) 45 false [22,21,20,19,18,12,11,10,4,3,2,1,0,9,8,7,6,5,17,16,15,14,13],
 qe 50 (.nck (.t 49)) 45 false [23,22,21,20,19,18,12,11,10,4,3,2,1,0,9,8,7,6,5,17,16,15,14,13],
 qe 51 (.fad 8 (.t 50)) 45 false [24,23,22,21,20,19,18,12,11,10,4,3,2,1,0,9,8,7,6,5,17,16,15,14,13],
 qe 52 (.ld1 (.t 51)) 45 false [25,24,23,22,21,20,19,18,12,11,10,4,3,2,1,0,9,8,7,6,5,17,16,15,14,13],
 qe 53 (.cvt .u64 (.t 52)) 45 false [26,25,24,23,22,21,20,19,18,12,11,10,4,3,2,1,0,9,8,7,6,5,17,16,15,14,13],
 qe 54 (.call (.f 224) [(.t 53)]) 45 false [27,26,25,24,23,22,21,20,19,18,12,11,10,4,3,2,1,0,9,8,7,6,5,17,16,15,14,13],
 qe 55 (.mv (.t 0)) 45 false [19,18,12,11,10,4,3,2,1,0,9,8,7,6,5,17,16,15,14,13],
 qe 56 (.nck (.t 55)) 45 false [29,19,18,12,11,10,4,3,2,1,0,9,8,7,6,5,17,16,15,14,13],
 qe 57 (.fad 22 (.t 56)) 45 false [30,29,19,18,12,11,10,4,3,2,1,0,9,8,7,6,5,17,16,15,14,13],
 qe 58 (.ld1 (.t 57)) 45 false [31,30,29,19,18,12,11,10,4,3,2,1,0,9,8,7,6,5,17,16,15,14,13],
 qe 59 (.nck (.t 58)) 45 false [32,31,30,29,19,18,12,11,10,4,3,2,1,0,9,8,7,6,5,17,16,15,14,13],
 qe 60 (.fad 2 (.t 59)) 45 false [33,32,31,30,29,19,18,12,11,10,4,3,2,1,0,9,8,7,6,5,17,16,15,14,13],
 qe 61 (.ld1 (.t 60)) 45 false [34,33,32,31,30,29,19,18,12,11,10,4,3,2,1,0,9,8,7,6,5,17,16,15,14,13],
 qe 62 (.bin .leq (.t 54) (.t 61)) 45 false [28,27,26,25,24,23,22,21,20,19,18,12,11,10,4,3,2,1,0,9,8,7,6,5,17,16,15,14,13,35,34,33,32,31,30,29],
 qd 63 (.pick (.t 45) qt (.t 62)) [19,18,12,11,10,4,3,2,1,0,9,8,7,6,5,17,16,15,14,13,36,28,27,26,25,24,23,22,21,20,35,34,33,32,31,30,29],
 qd 25 (.mv (.t 63)) [37,19,18,12,11,10,4,3,2,1,0,9,8,7,6,5,17,16,15,14,13,36,28,27,26,25,24,23,22,21,20,35,34,33,32,31,30,29]])
 (.cond (.t 25) (.seq (.reg [qo 2 (.mv (qk 8))])
 .ret)
 .skip)))))))
 (.seq (.regD [qm 64 0,
 qd 65 (.nck (.t 64)) [0],
 qd 66 (.fad 22 (.t 65)) [1,0],
 qd 67 (.ld1 (.t 66)) [2,1,0],
 qd 68 (.nck (.t 67)) [3,2,1,0],
 qd 69 (.fad 8 (.t 68)) [4,3,2,1,0],
 qd 70 (.ld1 (.t 69)) [5,4,3,2,1,0],
 qm 71 0,
 qd 72 (.nck (.t 71)) [7],
 qd 73 (.fad 15 (.t 72)) [8,7],
 qd 74 (.fad 2 (.t 73)) [9,8,7],
 qd 75 (.ld1 (.t 74)) [10,9,8,7],
 qd 76 (.bin .shl (qk 1) (.t 75)) [11,10,9,8,7],
 qd 77 (.bin .andNot (.t 70) (.t 76)) [6,5,4,3,2,1,0,12,11,10,9,8,7],
 qd 78 (.nck (.t 67)) [3,2,1,0,4,5,6,7,8,9,10,11,12,13],
 qd 79 (.fad 8 (.t 78)) [14,3,2,1,0,4,5,6,7,8,9,10,11,12,13],
 ql (.st 1 (.t 79) (.t 77)) [15,14,3,2,1,0,4,5,6,7,8,9,10,11,12,13]])
 (.seq (.regD [qm 80 0,
 qd 81 (.nck (.t 80)) [0],
 qd 82 (.fad 9 (.t 81)) [1,0],
 qd 83 (.fad 0 (.t 82)) [2,1,0],
 qd 84 (.ld1 (.t 83)) [3,2,1,0],
 qm 85 0,
 qd 86 (.nck (.t 85)) [5],
 qd 87 (.fad 15 (.t 86)) [6,5],
 qd 88 (.fad 2 (.t 87)) [7,6,5],
 qd 89 (.ld1 (.t 88)) [8,7,6,5],
 qd 90 (.ixa 5 (.t 84) (.t 89)) [4,3,2,1,0,9,8,7,6,5],
 qd 91 (.fad 4 (.t 90)) [10,4,3,2,1,0,9,8,7,6,5],
 ql (.st 1 (.t 91) (qk 0)) [11,10,4,3,2,1,0,9,8,7,6,5]])
 (.seq (.reg [qo 2 (.mv (qk 0))])
 .ret))))),
[(.t 2)])
theorem irOk164 : convFn Tryz.prog Tryz.f164 = some ir164 := by kernel_rfl


def holdS (c : ConfD) (s : StateD) (o : OpD) (k0 : Nat) (j' : JobD) (k : Nat) : St := ⟨[(0, .ptr 0 0), (73, .int s.nodes.length), (74, .int k)],
  [some (.box 133 [.int c.nodes, .int c.queues, .int c.quota, .int c.wave, .int c.lease, .int c.retry, .int c.deadline, .int c.room, .int c.disk,
    .sl 1 s.nodes.length 5 0 s.nodes.length, .sl 2 s.jobs.length 12 0 s.jobs.length, .int s.goal, .int s.prior, .int s.mode, .int s.term,
    .int o.kind, .int o.a, .int o.b, .int o.c, .int o.d, .int o.e, .int o.f, .rp 2 s.jobs.length 12 k0 0, noP]),
   some (.dat 102 5 ((updTo (takesA o.b o.a) s.nodes k).map nodeR)), some (.dat 119 12 ((s.jobs.set k0 j').map jobR))]⟩
theorem hold_tri (c : ConfD) (s : StateD) (o : OpD) (k : Nat) (hk : k < s.jobs.length) (ha : o.a = k + 1) (hn : s.nodes.length ≤ 6) (hj : s.jobs.length ≤ 1000) (hinc : 0 ≤ (jobA s o.a).inc) :
    Tri Tryz.prog G 153 [.ptr 0 0] (workO c s o (.rp 2 s.jobs.length 12 k 0) noP) (.int (holdD s o).2) (workO c (holdD s o).1 o (.rp 2 s.jobs.length 12 k 0) noP) := by
  refine tri_WP Tryz.func153 (by decide) irOk153 (Nat.le_of_ble_eq_true rfl) rfl rfl rfl ?_
  simp only [ir153,go_sem,simprocAttr]
  have hg := get_mapD (f := jobR) zeroJob hk
  have ha2 : (o.a - 1).toNat = k := by omega
  have hJ : jobA s o.a = s.jobs.getD k zeroJob := by unfold jobA; rw [ha2]
  generalize s.jobs.getD k zeroJob = j at *
  rw [hJ] at hinc
  simp only [hg,go_sem,simprocAttr]
  refine WC_split (fun h => ?_) (fun h => ?_) <;> simp only [h,go_sem,simprocAttr] <;> (try simp only [beq_iff_eq,beq_eq_false_iff_ne,bne_iff_ne,ne_eq,decide_eq_true_eq,decide_eq_false_iff_not,Bool.not_true,Bool.not_false,Bool.not_eq_true,Bool.not_eq_false,bne_eq_false_iff_eq,Decidable.not_not] at h)
  · simp only [holdD,h,setJ,hJ,ha2,List.map_set,List.length_set,List.set_set,go_sem,simprocAttr,Bool.true_eq_false,Bool.false_eq_true,ne_eq,not_true,not_false_eq_true,or_self]
  · simp only [hg,go_sem,simprocAttr]
    refine WD_callz [1, 2] (fits0_tri s j o.b 222 freeB hn free_tri) rfl (by simp [argRs,argR,rowsAt,objL,List.take_of_length_le,go_sem,simprocAttr]) (by simp [objL]) rfl rfl ?_; simp only [go_sem,simprocAttr]
    have fin : (fitsB s.nodes j o.b freeB = false ∨ 1000000 ≤ j.inc) → holdD s o = (s, 8) := fun h' => by
      simp only [holdD,hJ,h,h',ne_eq,not_true,if_false,if_true]
    cases hf : fitsB s.nodes j o.b freeB with
    | false =>
      simp only [go_sem,simprocAttr,fin (.inl hf)]
    | true =>
      simp only [hg,go_sem,simprocAttr]
      refine WC_split (fun hi => ?_) (fun hi => ?_) <;> simp only [hi,go_sem,simprocAttr] <;> (try simp only [beq_iff_eq,beq_eq_false_iff_ne,bne_iff_ne,ne_eq,decide_eq_true_eq,decide_eq_false_iff_not,Bool.not_true,Bool.not_false,Bool.not_eq_true,Bool.not_eq_false,bne_eq_false_iff_eq,Decidable.not_not] at hi)
      · simp only [go_sem,simprocAttr,fin (.inr hi)]
      · have hw : IntKind.i64.wrap (j.inc + 1) = j.inc + 1 := wrap_in (by omega) (by omega)
        have fin2 : holdD s o = ({ setJ s o.a { j with phase := 1, inc := j.inc + 1, nodes := o.b } with nodes := s.nodes.mapIdx (takesA o.b o.a) }, 0) := by
          unfold holdD
          rw [hJ, if_neg (by simpa using h), if_neg (by simp [hf]; omega)]
        simp only [hg,hk,List.getElem?_set_self,List.length_map,List.length_set,List.set_set,go_sem,simprocAttr]
        refine W_opsD_end rfl ?_
        simp only [hg,hk,hw,List.getElem?_set_self,List.length_map,List.length_set,List.set_set,go_sem,simprocAttr]
        refine W_loopI [0, 73, 74] [] (fun q : Nat => q ≤ s.nodes.length) (fun q => s.nodes.length - q) (holdS c s o k { j with phase := 1, inc := j.inc + 1, nodes := o.b }) 0 ?_ (Nat.zero_le _) (fun q hq => ?_)
        · simp only [holdS,updTo_zero,Int.natCast_zero,setJ,ha2,List.map_set,go_sem,simprocAttr]
        simp only [holdS,setJ,List.length_set,go_sem,simprocAttr]
        refine WC_split (fun h => ?_) (fun h => ?_)
        · have h := lt_of_dec h
          have hg2 : ((updTo (takesA o.b o.a) s.nodes q).map nodeR)[q]? = some (nodeR s.nodes[q]) := by rw [List.getElem?_map, updTo_at _ _ h]; rfl
          simp only [bit_eq o.b q (by omega),go_sem,simprocAttr]
          cases hb : hasB o.b q with
          | true =>
            have hs : ((updTo (takesA o.b o.a) s.nodes q).map nodeR).set q (nodeR { s.nodes[q] with job := o.a }) = (updTo (takesA o.b o.a) s.nodes (q + 1)).map nodeR := by
              rw [← List.map_set, updTo_set _ _ h (by simp only [takesA,hb,if_true])]
            simp only [nodeR] at hs
            simp only [h,hg2,updTo_length,go_sem,simprocAttr]
            refine W_opsD_end rfl ?_
            simp only [go_sem,simprocAttr]
            refine W_lpI (q + 1) ?_ ?_ (by omega) (by omega)
            · simp only [go_sem,simprocAttr]
            · simp only [holdS,setJ,List.length_set,go_sem,simprocAttr,wrap_succ (show q < 9223372036854775807 by omega),hs]
          | false =>
            have hs := updTo_same (takesA o.b o.a) s.nodes h (by simp only [takesA,hb,Bool.false_eq_true,if_false])
            simp only [go_sem,simprocAttr]
            refine W_lpI (q + 1) ?_ ?_ (by omega) (by omega)
            · simp only [go_sem,simprocAttr]
            · simp only [holdS,setJ,List.length_set,go_sem,simprocAttr,wrap_succ (show q < 9223372036854775807 by omega),hs]
        · obtain rfl := eq_of_dec h hq
          simp only [updTo_full,fin2,setJ,ha2,List.length_mapIdx,List.length_set,go_sem,simprocAttr]

theorem less_eq (m b : Nat) (hm : m < 64) (hb : b < 6) : andNotI .i64 (m : Int) (2 ^ b) = lessD m b := by
  have : ∀ m : Nat, m < 64 → ∀ b : Nat, b < 6 → andNotI .i64 (m : Int) (2 ^ b) = lessD m b := by decide +kernel
  exact this m hm b hb
theorem shrink_tri (c : ConfD) (s : StateD) (o : OpD) (k : Nat) (hk : k < s.jobs.length) (ha : o.a = k + 1) (hn : s.nodes.length ≤ 6) (hj : s.jobs.length ≤ 1000) (hb0 : 0 ≤ o.b) (hm : 0 ≤ (jobA s o.a).nodes ∧ (jobA s o.a).nodes < 64) :
    Tri Tryz.prog G 164 [.ptr 0 0] (workO c s o (.rp 2 s.jobs.length 12 k 0) noP) (.int (shrinkD s o).2) (workO c (shrinkD s o).1 o (.rp 2 s.jobs.length 12 k 0) noP) := by
  refine tri_WP Tryz.func164 (by decide) irOk164 (Nat.le_of_ble_eq_true rfl) rfl rfl rfl ?_
  simp only [ir164,go_sem,simprocAttr]
  have hg := get_mapD (f := jobR) zeroJob hk
  have ha2 : (o.a - 1).toNat = k := by omega
  have hJ : jobA s o.a = s.jobs.getD k zeroJob := by unfold jobA; rw [ha2]
  generalize s.jobs.getD k zeroJob = j at *
  rw [hJ] at hm
  obtain ⟨m, hm1⟩ := Int.eq_ofNat_of_zero_le hm.1
  have hmu : IntKind.u64.wrap (m : Int) = m := by simp [IntKind.wrap,IntKind.bits,IntKind.signed]; omega
  obtain ⟨b, hb⟩ := Int.eq_ofNat_of_zero_le hb0
  rw [hb]
  refine WC_split (fun h1 => ?_) (fun h1 => ?_) <;> simp only [h1,go_sem,simprocAttr] <;> (try simp only [beq_iff_eq,beq_eq_false_iff_ne,bne_iff_ne,ne_eq,decide_eq_true_eq,decide_eq_false_iff_not,Bool.not_true,Bool.not_false,Bool.not_eq_true,Bool.not_eq_false,bne_eq_false_iff_eq,Decidable.not_not] at h1)
  · simp only [shrinkD,hb,h1,ge_iff_le,setJ,hJ,ha2,List.map_set,List.length_set,List.set_set,go_sem,simprocAttr,Bool.true_eq_false,Bool.false_eq_true,ne_eq,not_true,not_false_eq_true,or_self]
  · have hbl : b < s.nodes.length := by omega
    simp only [hg,go_sem,simprocAttr]
    refine WC_split (fun h2 => ?_) (fun h2 => ?_) <;> simp only [h2,go_sem,simprocAttr] <;> (try simp only [beq_iff_eq,beq_eq_false_iff_ne,bne_iff_ne,ne_eq,decide_eq_true_eq,decide_eq_false_iff_not,Bool.not_true,Bool.not_false,Bool.not_eq_true,Bool.not_eq_false,bne_eq_false_iff_eq,Decidable.not_not] at h2)
    · simp only [shrinkD,hb,h1,h2,ge_iff_le,setJ,hJ,ha2,List.map_set,List.length_set,List.set_set,go_sem,simprocAttr,Bool.true_eq_false,Bool.false_eq_true,ne_eq,not_true,not_false_eq_true,or_self]
    · have hgn := get_mapD (f := nodeR) zeroNode hbl
      have hN : nodeA s o.b = s.nodes.getD b zeroNode := by unfold nodeA; rw [hb]; rfl
      have hN' : nodeA s (b : Int) = s.nodes.getD b zeroNode := rfl
      generalize s.nodes.getD b zeroNode = n at *
      have h1' : ¬ ((s.nodes.length : Int) ≤ b) := by omega
      have fin : (n.job ≠ o.a ∨ many j.nodes ≤ j.min) → shrinkD s o = (s, 8) := fun h' => by
        unfold shrinkD
        rw [hb, if_neg h1', hJ, if_neg (by simpa using h2), hN', if_pos h']
      simp only [hgn,hbl,go_sem,simprocAttr]
      refine WGD_split (fun h3 => ?_) (fun h3 => ?_) <;> simp only [h3,go_sem,simprocAttr] <;> (try simp only [beq_iff_eq,beq_eq_false_iff_ne,bne_iff_ne,ne_eq,decide_eq_true_eq,decide_eq_false_iff_not,Bool.not_true,Bool.not_false,Bool.not_eq_true,Bool.not_eq_false,bne_eq_false_iff_eq,Decidable.not_not] at h3)
      · have h3' : n.job = o.a := h3
        simp only [hg,hm1,hmu,go_sem,simprocAttr]
        refine WD_calld (ones_tri m (by omega)) rfl rfl rfl rfl ?_; simp only [go_sem,simprocAttr]
        simp only [hg,go_sem,simprocAttr]
        refine WC_split (fun h4 => ?_) (fun h4 => ?_) <;> simp only [h4,go_sem,simprocAttr] <;> (try simp only [beq_iff_eq,beq_eq_false_iff_ne,bne_iff_ne,ne_eq,decide_eq_true_eq,decide_eq_false_iff_not,Bool.not_true,Bool.not_false,Bool.not_eq_true,Bool.not_eq_false,bne_eq_false_iff_eq,Decidable.not_not] at h4)
        · simp only [go_sem,simprocAttr,fin (.inr (by rw [hm1]; exact h4)), hb]
        · have fin2 : shrinkD s o = (setN (setJ s o.a { j with nodes := lessD j.nodes o.b }) o.b { n with job := 0 }, 0) := by
            unfold shrinkD
            rw [hb, if_neg h1', hJ, if_neg (by simpa using h2), hN', if_neg (by rw [hm1]; simp [h3']; omega)]
          have hle : andNotI .i64 (m : Int) (shlI .i64 1 b) = lessD m b := by rw [shl_one b (by omega), less_eq m b (by omega) (by omega)]
          simp only [hg,hm1,hle,go_sem,simprocAttr]
          refine W_opsD_end rfl ?_
          simp only [hgn,hbl,go_sem,simprocAttr]
          refine W_opsD_end rfl ?_
          simp only [fin2,setN,setJ,hm1,hb,ha2,List.map_set,List.length_set,go_sem,simprocAttr]
      · simp only [go_sem,simprocAttr,fin (.inl h3),hb]
end Dv

namespace Dv
open Go Go.Proofs
variable {G : Nat → Option (List DV)}

def ir141 : Nat × C × List RV := (12,
(.seq (.reg [qo 2 (.mv (.c (.val (.string ⟨#[]⟩))))])
 (.seq (.seq (.reg [qm 3 0,
 qo 4 (.bin .lss (.t 3) (qk 0)),
 qm 5 4,
 qg 6 (.mv (.t 0)) 5 false,
 qg 7 (.bin .geq (.t 6) (qk 22)) 5 false,
 qo 8 (.pick (.t 5) qt (.t 7))])
 (.cond (.t 8) (.seq (.reg [qo 2 (.mv (.c (.val (.string ⟨#[]⟩))))])
 .ret)
 .skip))
 (.seq (.reg [qm 9 0,
 qo 10 (.ixr 22 1 (.g 1) (.t 9)),
 qo 11 (.ld1 (.t 10)),
 qm 2 11])
 .ret))),
[(.t 2)])
theorem irOk141 : convFn Tryz.prog Tryz.f141 = some ir141 := by kernel_rfl
def ir142 : Nat × C × List RV := (16,
(.seq (.reg [qo 1 (.box 37 (.t 0)),
 qo 2 (.new 236 [q0,q0,q0,q0,q0,q0])])
 (.seq (.reg [qo 3 (.fad 1 (.t 1)),
 qo 4 (.ld1 (.t 3)),
 qo 5 (.fad 2 (.t 1)),
 qo 6 (.ld1 (.t 5)),
 qo 7 (.fad 3 (.t 1)),
 qo 8 (.ld1 (.t 7)),
 qo 9 (.fad 4 (.t 1)),
 qo 10 (.ld1 (.t 9)),
 qo 11 (.fad 5 (.t 1)),
 qo 12 (.ld1 (.t 11)),
 qo 13 (.fad 6 (.t 1)),
 qo 14 (.ld1 (.t 13)),
 qo 15 (.build [q0,q0,q0,q0,q0,q0] [(0,1,(.t 4)),(1,1,(.t 6)),(2,1,(.t 8)),(3,1,(.t 10)),(4,1,(.t 12)),(5,1,(.t 14))]),
 qn (.st 6 (.t 2) (.t 15))])
 .ret)),
[(.cn 2 6)])
theorem irOk142 : convFn Tryz.prog Tryz.f142 = some ir142 := by kernel_rfl
def ir72 : Nat × C × List RV := (34,
(.seq (.reg [qo 1 (.box 37 (.t 0)),
 qo 2 (.mv qf)])
 (.seq (.seq (.reg [qo 5 (.fad 0 (.t 1)),
 qo 6 (.ld1 (.t 5)),
 qo 7 (.call (.f 141) [(.t 6)]),
 qo 8 (.bin .eql (.t 7) (.c (.val (.string ⟨#[]⟩))))])
 (.cond (.t 8) (.seq (.reg [qo 2 (.mv qf)])
 .ret)
 .skip))
 (.seq (.seq (.reg [qo 9 (.ldn 7 (.t 1)),
 qo 10 (.call (.f 142) [(.t 9)]),
 qo 11 (.mv (qk 0))])
 (.block 0 (.loop (.seq (.reg [qo 12 (.bin .lss (.t 11) (qk 6))])
 (.seq (.cond (.t 12) .skip
 (.exit 0))
 (.seq (.block 1 (.seq (.reg [qm 13 11,
 qo 14 (.ix1 6 (.t 10) (.t 11)),
 qm 3 13,
 qm 4 14])
 (.seq (.reg [qm 15 4,
 qo 16 (.bin .lss (.t 15) (qk 0)),
 qm 17 16,
 qg 18 (.mv (.t 4)) 17 false,
 qg 19 (.bin .gtr (.t 18) (qk 1000000)) 17 false,
 qo 20 (.pick (.t 17) qt (.t 19)),
 qm 21 20,
 qg 22 (.mv (.t 3)) 21 false,
 qg 23 (.fad 0 (.t 1)) 21 false,
 qg 24 (.ld1 (.t 23)) 21 false,
 qg 25 (.ixr 22 1 (.g 0) (.t 24)) 21 false,
 qg 26 (.ld1 (.t 25)) 21 false,
 qg 27 (.bin .geq (.t 22) (.t 26)) 21 false,
 qg 28 (.mv (.t 27)) 21 false,
 qg 29 (.mv (.t 4)) 28 true,
 qg 30 (.bin .neq (.t 29) (qk 0)) 28 true,
 qg 31 (.pick (.t 28) (.t 30) qf) 21 false,
 qo 32 (.pick (.t 21) qt (.t 31))])
 (.cond (.t 32) (.seq (.reg [qo 2 (.mv qf)])
 .ret)
 .skip))))
 (.reg [qo 33 (.bin .add (.t 11) (qk 1)),
 qm 11 33])))))))
 (.seq (.reg [qo 2 (.mv qt)])
 .ret)))),
[(.t 2)])
theorem irOk72 : convFn Tryz.prog Tryz.f72 = some ir72 := by kernel_rfl
def ir74 : Nat × C × List RV := (23,
(.seq (.reg [qo 0 (.new 137 [(.val .nilFunc),(.val (.bool false)),(.val (.bool false)),(.val .nilFunc),(.val (.bool false)),(.val (.bool false)),(.val .nilFunc),(.val (.bool false)),(.val (.bool false)),(.val .nilFunc),(.val (.bool false)),(.val (.bool false)),(.val .nilFunc),(.val (.bool false)),(.val (.bool false)),(.val .nilFunc),(.val (.bool false)),(.val (.bool false)),(.val .nilFunc),(.val (.bool false)),(.val (.bool false)),(.val .nilFunc),(.val (.bool false)),(.val (.bool false)),(.val .nilFunc),(.val (.bool false)),(.val (.bool false)),(.val .nilFunc),(.val (.bool false)),(.val (.bool false)),(.val .nilFunc),(.val (.bool false)),(.val (.bool false)),(.val .nilFunc),(.val (.bool false)),(.val (.bool false)),(.val .nilFunc),(.val (.bool false)),(.val (.bool false)),(.val .nilFunc),(.val (.bool false)),(.val (.bool false)),(.val .nilFunc),(.val (.bool false)),(.val (.bool false)),(.val .nilFunc),(.val (.bool false)),(.val (.bool false)),(.val .nilFunc),(.val (.bool false)),(.val (.bool false)),(.val .nilFunc),(.val (.bool false)),(.val (.bool false)),(.val .nilFunc),(.val (.bool false)),(.val (.bool false)),(.val .nilFunc),(.val (.bool false)),(.val (.bool false)),(.val .nilFunc),(.val (.bool false)),(.val (.bool false)),(.val .nilFunc),(.val (.bool false)),(.val (.bool false))])])
 (.seq (.reg [qo 1 (.build [(.val .nilFunc),(.val (.bool false)),(.val (.bool false))] [(0,1,(.f 145))]),
 qo 2 (.build [(.val .nilFunc),(.val (.bool false)),(.val (.bool false))] [(0,1,(.f 146)),(1,1,qt),(2,1,qf)]),
 qo 3 (.build [(.val .nilFunc),(.val (.bool false)),(.val (.bool false))] [(0,1,(.f 147))]),
 qo 4 (.build [(.val .nilFunc),(.val (.bool false)),(.val (.bool false))] [(0,1,(.f 148))]),
 qo 5 (.build [(.val .nilFunc),(.val (.bool false)),(.val (.bool false))] [(0,1,(.f 149))]),
 qo 6 (.build [(.val .nilFunc),(.val (.bool false)),(.val (.bool false))] [(0,1,(.f 150))]),
 qo 7 (.build [(.val .nilFunc),(.val (.bool false)),(.val (.bool false))] [(0,1,(.f 151)),(1,1,qf),(2,1,qt)]),
 qo 8 (.build [(.val .nilFunc),(.val (.bool false)),(.val (.bool false))] [(0,1,(.f 152)),(1,1,qf),(2,1,qt)]),
 qo 9 (.build [(.val .nilFunc),(.val (.bool false)),(.val (.bool false))] [(0,1,(.f 153)),(1,1,qt),(2,1,qf)]),
 qo 10 (.build [(.val .nilFunc),(.val (.bool false)),(.val (.bool false))] [(0,1,(.f 154)),(1,1,qt),(2,1,qf)]),
 qo 11 (.build [(.val .nilFunc),(.val (.bool false)),(.val (.bool false))] [(0,1,(.f 155)),(1,1,qt),(2,1,qf)]),
 qo 12 (.build [(.val .nilFunc),(.val (.bool false)),(.val (.bool false))] [(0,1,(.f 156)),(1,1,qt),(2,1,qf)]),
 qo 13 (.build [(.val .nilFunc),(.val (.bool false)),(.val (.bool false))] [(0,1,(.f 157)),(1,1,qt),(2,1,qf)]),
 qo 14 (.build [(.val .nilFunc),(.val (.bool false)),(.val (.bool false))] [(0,1,(.f 158)),(1,1,qt),(2,1,qf)]),
 qo 15 (.build [(.val .nilFunc),(.val (.bool false)),(.val (.bool false))] [(0,1,(.f 159)),(1,1,qt),(2,1,qf)]),
 qo 16 (.build [(.val .nilFunc),(.val (.bool false)),(.val (.bool false))] [(0,1,(.f 160)),(1,1,qf),(2,1,qt)]),
 qo 17 (.build [(.val .nilFunc),(.val (.bool false)),(.val (.bool false))] [(0,1,(.f 161)),(1,1,qf),(2,1,qt)]),
 qo 18 (.build [(.val .nilFunc),(.val (.bool false)),(.val (.bool false))] [(0,1,(.f 162)),(1,1,qf),(2,1,qt)]),
 qo 19 (.build [(.val .nilFunc),(.val (.bool false)),(.val (.bool false))] [(0,1,(.f 163)),(1,1,qf),(2,1,qt)]),
 qo 20 (.build [(.val .nilFunc),(.val (.bool false)),(.val (.bool false))] [(0,1,(.f 164)),(1,1,qt),(2,1,qf)]),
 qo 21 (.build [(.val .nilFunc),(.val (.bool false)),(.val (.bool false))] [(0,1,(.f 165))]),
 qo 22 (.build [(.val .nilFunc),(.val (.bool false)),(.val (.bool false)),(.val .nilFunc),(.val (.bool false)),(.val (.bool false)),(.val .nilFunc),(.val (.bool false)),(.val (.bool false)),(.val .nilFunc),(.val (.bool false)),(.val (.bool false)),(.val .nilFunc),(.val (.bool false)),(.val (.bool false)),(.val .nilFunc),(.val (.bool false)),(.val (.bool false)),(.val .nilFunc),(.val (.bool false)),(.val (.bool false)),(.val .nilFunc),(.val (.bool false)),(.val (.bool false)),(.val .nilFunc),(.val (.bool false)),(.val (.bool false)),(.val .nilFunc),(.val (.bool false)),(.val (.bool false)),(.val .nilFunc),(.val (.bool false)),(.val (.bool false)),(.val .nilFunc),(.val (.bool false)),(.val (.bool false)),(.val .nilFunc),(.val (.bool false)),(.val (.bool false)),(.val .nilFunc),(.val (.bool false)),(.val (.bool false)),(.val .nilFunc),(.val (.bool false)),(.val (.bool false)),(.val .nilFunc),(.val (.bool false)),(.val (.bool false)),(.val .nilFunc),(.val (.bool false)),(.val (.bool false)),(.val .nilFunc),(.val (.bool false)),(.val (.bool false)),(.val .nilFunc),(.val (.bool false)),(.val (.bool false)),(.val .nilFunc),(.val (.bool false)),(.val (.bool false)),(.val .nilFunc),(.val (.bool false)),(.val (.bool false)),(.val .nilFunc),(.val (.bool false)),(.val (.bool false))] [(3,3,(.t 1)),(6,3,(.t 2)),(9,3,(.t 3)),(12,3,(.t 4)),(15,3,(.t 5)),(18,3,(.t 6)),(21,3,(.t 7)),(24,3,(.t 8)),(27,3,(.t 9)),(30,3,(.t 10)),(33,3,(.t 11)),(36,3,(.t 12)),(39,3,(.t 13)),(42,3,(.t 14)),(45,3,(.t 15)),(48,3,(.t 16)),(51,3,(.t 17)),(54,3,(.t 18)),(57,3,(.t 19)),(60,3,(.t 20)),(63,3,(.t 21))]),
 qn (.st 66 (.t 0) (.t 22))])
 .ret)),
[(.cn 0 66)])
theorem irOk74 : convFn Tryz.prog Tryz.f74 = some ir74 := by kernel_rfl


def numsL (o : OpD) : List Int := [o.a, o.b, o.c, o.d, o.e, o.f]
def opOkL (m : Nat) : List Int → Nat → Bool
  | [], _ => true
  | n :: l, i => numOk n (decide (i < m)) && opOkL m l (i + 1)
theorem opOkB_eq (o : OpD) : opOkB o = (decide (1 ≤ o.kind ∧ o.kind ≤ 21) && opOkL (manyK o.kind) (numsL o) 0) := by
  unfold opOkB numsL
  simp only [opOkL,Bool.and_true,Bool.and_assoc]
def manyL : List Int := [0, 6, 1, 1, 0, 0, 0, 1, 2, 2, 2, 1, 2, 2, 1, 1, 1, 1, 1, 2, 2, 0]
def namesL : List ByteArray := [⟨#[]⟩, ⟨#[115, 117, 98, 109, 105, 116]⟩, ⟨#[99, 97, 110, 99, 101, 108]⟩, ⟨#[116, 97, 114, 103, 101, 116]⟩, ⟨#[112, 97, 117, 115, 101]⟩, ⟨#[114, 101, 115, 117, 109, 101]⟩, ⟨#[97, 98, 111, 114, 116]⟩, ⟨#[100, 111, 119, 110]⟩, ⟨#[117, 112]⟩, ⟨#[104, 111, 108, 100]⟩, ⟨#[115, 116, 97, 114, 116]⟩, ⟨#[117, 110, 104, 111, 108, 100]⟩, ⟨#[100, 114, 97, 105, 110]⟩, ⟨#[115, 97, 118, 101, 100]⟩, ⟨#[101, 118, 105, 99, 116]⟩, ⟨#[100, 111, 110, 101]⟩, ⟨#[99, 111, 114, 100, 111, 110]⟩, ⟨#[117, 110, 99, 111, 114, 100, 111, 110]⟩, ⟨#[109, 111, 118, 101]⟩, ⟨#[109, 111, 118, 101, 100]⟩, ⟨#[115, 104, 114, 105, 110, 107]⟩, ⟨#[110, 101, 119, 116, 101, 114, 109]⟩]
def manyR : List DV := manyL.map i64
def namesR : List DV := namesL.map fun s => .val (.string s)
def bookG : Nat → Option (List DV) := fun n => if n = 0 then some manyR else if n = 1 then some namesR else none
theorem bookG_many : bookG 0 = some manyR := rfl
theorem bookG_names : bookG 1 = some namesR := rfl
theorem many_at (k : Int) (h : 1 ≤ k ∧ k ≤ 21) : manyR[k.toNat]? = some (i64 (manyK k : Nat)) := by
  have h : k = 1 ∨ k = 2 ∨ k = 3 ∨ k = 4 ∨ k = 5 ∨ k = 6 ∨ k = 7 ∨ k = 8 ∨ k = 9 ∨ k = 10 ∨ k = 11 ∨ k = 12 ∨ k = 13 ∨ k = 14 ∨ k = 15 ∨ k = 16 ∨ k = 17 ∨ k = 18 ∨ k = 19 ∨ k = 20 ∨ k = 21 := by omega
  rcases h with h | h | h | h | h | h | h | h | h | h | h | h | h | h | h | h | h | h | h | h | h <;> subst h <;> rfl
def nameOf (k : Int) : ByteArray := if 1 ≤ k ∧ k ≤ 21 then namesL.getD k.toNat ⟨#[]⟩ else ⟨#[]⟩
theorem name_at (k : Int) (h : 0 ≤ k ∧ k ≤ 21) : namesR[k.toNat]? = some (.val (.string (nameOf k))) := by
  have h : k = 0 ∨ k = 1 ∨ k = 2 ∨ k = 3 ∨ k = 4 ∨ k = 5 ∨ k = 6 ∨ k = 7 ∨ k = 8 ∨ k = 9 ∨ k = 10 ∨ k = 11 ∨ k = 12 ∨ k = 13 ∨ k = 14 ∨ k = 15 ∨ k = 16 ∨ k = 17 ∨ k = 18 ∨ k = 19 ∨ k = 20 ∨ k = 21 := by omega
  rcases h with h | h | h | h | h | h | h | h | h | h | h | h | h | h | h | h | h | h | h | h | h | h <;> subst h <;> rfl
theorem name_none (k : Int) (h : ¬ (1 ≤ k ∧ k ≤ 21)) : nameOf k = ⟨#[]⟩ := by unfold nameOf; rw [if_neg h]
theorem name_some (k : Int) (h : 1 ≤ k ∧ k ≤ 21) : ((nameOf k).toList == (⟨#[]⟩ : ByteArray).toList) = false := by
  have h : k = 1 ∨ k = 2 ∨ k = 3 ∨ k = 4 ∨ k = 5 ∨ k = 6 ∨ k = 7 ∨ k = 8 ∨ k = 9 ∨ k = 10 ∨ k = 11 ∨ k = 12 ∨ k = 13 ∨ k = 14 ∨ k = 15 ∨ k = 16 ∨ k = 17 ∨ k = 18 ∨ k = 19 ∨ k = 20 ∨ k = 21 := by omega
  rcases h with h | h | h | h | h | h | h | h | h | h | h | h | h | h | h | h | h | h | h | h | h <;> subst h <;> decide +kernel

theorem name_tri (k : Int) : Tri Tryz.prog bookG 141 [.int k] [] (.d (.val (.string (nameOf k)))) [] := by
  refine tri_W0 Tryz.func141 (by decide) irOk141 (Nat.le_of_ble_eq_true rfl) rfl ?_
  simp only [ir141,go_sem,simprocAttr]
  refine WG_split (fun h1 => ?_) (fun h1 => ?_) <;> simp only [h1,go_sem,simprocAttr] <;> (try simp only [beq_iff_eq,beq_eq_false_iff_ne,bne_iff_ne,ne_eq,decide_eq_true_eq,decide_eq_false_iff_not,Bool.not_true,Bool.not_false,Bool.not_eq_true,Bool.not_eq_false,bne_eq_false_iff_eq,Decidable.not_not] at h1)
  · refine WC_split (fun h2 => ?_) (fun h2 => ?_) <;> simp only [h2,go_sem,simprocAttr] <;> (try simp only [beq_iff_eq,beq_eq_false_iff_ne,bne_iff_ne,ne_eq,decide_eq_true_eq,decide_eq_false_iff_not,Bool.not_true,Bool.not_false,Bool.not_eq_true,Bool.not_eq_false,bne_eq_false_iff_eq,Decidable.not_not] at h2)
    · rw [name_none k (by omega)]
    · have h3 : 0 ≤ k := by omega
      have h4 : k.toNat < 22 := by omega
      simp only [bookG_names,h3,h4,Nat.mul_one,name_at k (by omega),go_sem,simprocAttr]
  · rw [name_none k (by omega)]
theorem row_tri (o : OpD) : Tri Tryz.prog G 142 [opV o] [] (.agg ((numsL o).map LV.int)) [] := by
  refine tri_W0 Tryz.func142 (by decide) irOk142 (Nat.le_of_ble_eq_true rfl) rfl ?_
  simp only [ir142,go_sem,simprocAttr]
  simp only [numsL,go_sem,simprocAttr]
def opsS (o : OpD) (k : Nat) : St := ⟨[(1, .ptr 0 0), (10, .agg ((numsL o).map LV.int)), (11, .int k)], [some (.box 37 [.int o.kind, .int o.a, .int o.b, .int o.c, .int o.d, .int o.e, .int o.f])]⟩
theorem numOk_eq (n : Int) (k m : Nat) : numOk n (decide (k < m)) = !(decide (n < 0) || decide (n > 1000000) || (decide ((k : Int) ≥ (m : Int)) && (n != 0))) := by
  unfold numOk
  rw [Bool.eq_iff_iff]
  by_cases h4 : n = 0
  · subst h4; simp
  · have e : (n != 0) = true := by simpa using h4
    simp only [e,h4,Bool.and_eq_true,Bool.or_eq_true,decide_eq_true_eq,Bool.not_eq_true',Bool.or_eq_false_iff,Bool.and_eq_false_iff,decide_eq_false_iff_not,decide_false,Bool.or_false,Bool.and_true]
    omega
theorem opsRight_tri (o : OpD) : Tri Tryz.prog bookG 72 [opV o] [] (.bool (opOkB o)) [] := by
  refine tri_W0 Tryz.func72 (by decide) irOk72 (Nat.le_of_ble_eq_true rfl) rfl ?_
  simp only [ir72,go_sem,simprocAttr]
  rw [opOkB_eq]
  refine W_calld (name_tri o.kind) rfl rfl rfl rfl ?_; simp only [go_sem,simprocAttr]
  by_cases hk : 1 ≤ o.kind ∧ o.kind ≤ 21
  · simp only [name_some _ hk,go_sem,simprocAttr]
    refine W_calld (row_tri o) rfl rfl rfl rfl ?_
    simp only [go_sem,simprocAttr,hk]
    generalize hq : opOkL (manyK o.kind) (numsL o) 0 = r
    have hl : (numsL o).length = 6 := rfl
    have hk0 : 0 ≤ o.kind := by omega
    have hk1 : o.kind.toNat < 22 := by omega
    refine W_loopI [1, 10, 11] [] (fun k : Nat => k ≤ 6 ∧ opOkL (manyK o.kind) ((numsL o).drop k) k = r) (fun k => 6 - k) (opsS o) 0 ?_ ⟨by omega, hq⟩ ?_
    · simp only [opsS,go_sem,simprocAttr,Int.natCast_zero]
    rintro k ⟨hk6, hF⟩
    simp only [opsS,go_sem,simprocAttr]
    refine WC_split (fun h => ?_) (fun h => ?_) <;> simp only [h,go_sem,simprocAttr] <;> (try simp only [beq_iff_eq,beq_eq_false_iff_ne,bne_iff_ne,ne_eq,decide_eq_true_eq,decide_eq_false_iff_not,Bool.not_true,Bool.not_false,Bool.not_eq_true,Bool.not_eq_false,bne_eq_false_iff_eq,Decidable.not_not] at h)
    · have hkl : k < (numsL o).length := by omega
      have hk6' : k < 6 := by omega
      rw [List.drop_eq_getElem_cons hkl, opOkL, numOk_eq] at hF
      have hg : ((numsL o).map LV.int)[k]? = some (LV.int (numsL o)[k]) := get_map hkl
      simp only [hg,hk6',go_sem,simprocAttr]
      generalize (numsL o)[k] = n at *
      refine WG_split (fun h1 => ?_) (fun h1 => ?_) <;> simp only [h1,go_sem,simprocAttr] <;> (try simp only [beq_iff_eq,beq_eq_false_iff_ne,bne_iff_ne,ne_eq,decide_eq_true_eq,decide_eq_false_iff_not,Bool.not_true,Bool.not_false,Bool.not_eq_true,Bool.not_eq_false,bne_eq_false_iff_eq,Decidable.not_not] at h1)
      · have h1' : decide (n < 0) = false := by simp; omega
        refine WG_split (fun h2 => ?_) (fun h2 => ?_) <;> simp only [h2,go_sem,simprocAttr] <;> (try simp only [beq_iff_eq,beq_eq_false_iff_ne,bne_iff_ne,ne_eq,decide_eq_true_eq,decide_eq_false_iff_not,Bool.not_true,Bool.not_false,Bool.not_eq_true,Bool.not_eq_false,bne_eq_false_iff_eq,Decidable.not_not] at h2)
        · have h2' : decide (n > 1000000) = false := by simp; omega
          simp only [bookG_many,hk0,hk1,many_at _ hk,Nat.mul_one,go_sem,simprocAttr]
          refine WG_split (fun h3 => ?_) (fun h3 => ?_) <;> simp only [h3,go_sem,simprocAttr] <;> (try simp only [beq_iff_eq,beq_eq_false_iff_ne,bne_iff_ne,ne_eq,decide_eq_true_eq,decide_eq_false_iff_not,Bool.not_true,Bool.not_false,Bool.not_eq_true,Bool.not_eq_false,bne_eq_false_iff_eq,Decidable.not_not] at h3)
          · have h3' : decide ((k : Int) ≥ (manyK o.kind : Int)) = true := by simpa using h3
            cases h4 : (n != 0) with
            | true =>
              rw [h1', h2', h3', h4] at hF
              simp only [go_sem,simprocAttr] at hF
              simp only [go_sem,simprocAttr,← hF]
            | false =>
              rw [h1', h2', h3', h4] at hF
              simp only [go_sem,simprocAttr] at hF
              simp only [go_sem,simprocAttr]
              refine W_lpI (k + 1) ?_ ?_ ⟨by omega, hF⟩ (by omega)
              · simp only [go_sem,simprocAttr]; rfl
              · simp only [opsS,go_sem,simprocAttr,wrap_succ (show k < 9223372036854775807 by omega)]
          · have h3' : decide ((k : Int) ≥ (manyK o.kind : Int)) = false := by simpa using h3
            rw [h1', h2', h3'] at hF
            simp only [go_sem,simprocAttr] at hF
            refine W_lpI (k + 1) ?_ ?_ ⟨by omega, hF⟩ (by omega)
            · simp only [go_sem,simprocAttr]; rfl
            · simp only [opsS,go_sem,simprocAttr,wrap_succ (show k < 9223372036854775807 by omega)]
        · have h2' : decide (n > 1000000) = true := by simpa using h2
          rw [h1', h2'] at hF
          simp only [go_sem,simprocAttr] at hF
          simp only [go_sem,simprocAttr,← hF]
      · have h1' : decide (n < 0) = true := by simpa using h1
        rw [h1'] at hF
        simp only [go_sem,simprocAttr] at hF
        simp only [go_sem,simprocAttr,← hF]
    · obtain rfl : k = 6 := by omega
      simp only [numsL,List.drop_succ_cons,List.drop_zero,opOkL] at hF
      simp only [go_sem,simprocAttr,← hF]
  · simp only [name_none _ hk,hk,go_sem,simprocAttr]


def deedV (f : Option Nat) (j n : Bool) : List LV := [match f with | some k => .d (.fn (.func k) [] []) | none => .d (.val .nilFunc), .bool j, .bool n]
def deedsL : List LV := deedV none false false ++ deedV (some 145) false false ++ deedV (some 146) true false ++ deedV (some 147) false false ++ deedV (some 148) false false ++ deedV (some 149) false false ++ deedV (some 150) false false
  ++ deedV (some 151) false true ++ deedV (some 152) false true ++ deedV (some 153) true false ++ deedV (some 154) true false ++ deedV (some 155) true false ++ deedV (some 156) true false ++ deedV (some 157) true false
  ++ deedV (some 158) true false ++ deedV (some 159) true false ++ deedV (some 160) false true ++ deedV (some 161) false true ++ deedV (some 162) false true ++ deedV (some 163) false true ++ deedV (some 164) true false ++ deedV (some 165) false false
theorem deeds_tri : Tri Tryz.prog G 74 [] [] (.agg deedsL) [] := by
  refine tri_W0 Tryz.func74 (by decide) irOk74 (Nat.le_of_ble_eq_true rfl) rfl ?_
  simp only [ir74,go_sem,simprocAttr]
  rfl
end Dv

namespace Dv
open Go Go.Proofs
variable {G : Nat → Option (List DV)}

def ir24 : Nat × C × List RV := (96,
(.seq (.reg [qo 3 (.box 23 (.t 0)),
 qo 4 (.box 30 (.t 1)),
 qo 5 (.box 37 (.t 2)),
 qo 6 (.new 30 [(.val (.slice none 0 0)),(.val (.slice none 0 0)),q0,q0,q0,q0]),
 qo 7 (.mv (qk 0))])
 (.seq (.seq (.reg [qo 11 (.ldn 9 (.t 3)),
 qo 12 (.ldn 6 (.t 4)),
 qo 13 (.call (.f 42) [(.t 11),(.t 12)]),
 qo 14 (.not (.t 13))])
 (.cond (.t 14) (.seq (.reg [qo 15 (.build [(.val (.slice none 0 0)),(.val (.slice none 0 0)),q0,q0,q0,q0] []),
 qn (.st 6 (.t 6) (.t 15)),
 qo 7 (.mv (qk 1))])
 .ret)
 .skip))
 (.seq (.seq (.reg [qo 16 (.ldn 7 (.t 5)),
 qo 17 (.call (.f 72) [(.t 16)]),
 qo 18 (.not (.t 17))])
 (.cond (.t 18) (.seq (.reg [qo 19 (.ldn 6 (.t 4)),
 qo 20 (.call (.f 73) [(.t 19)]),
 qn (.st 6 (.t 6) (.t 20)),
 qo 7 (.mv (qk 1))])
 .ret)
 .skip))
 (.seq (.regD [qo 21 (.ldn 9 (.t 3)),
 qo 22 (.ldn 6 (.t 4)),
 qd 23 (.call (.f 73) [(.t 22)]) [1],
 qo 24 (.ldn 7 (.t 5)),
 qd 25 (.build [q0,q0,q0,q0,q0,q0,q0,q0,q0,(.val (.slice none 0 0)),(.val (.slice none 0 0)),q0,q0,q0,q0,q0,q0,q0,q0,q0,q0,q0,(.val (.pointer none)),(.val (.pointer none))] [(0,9,(.t 21)),(9,6,(.t 23)),(15,7,(.t 24))]) [0,2,1,3],
 qd 26 (.box 133 (.t 25)) [4,0,2,1,3],
 qd 8 (.mv (.t 26)) [5,4,0,2,1,3]])
 (.seq (.regD [qo 27 (.call (.f 74) []),
 qo 28 (.fad 0 (.t 5)),
 qd 29 (.ld1 (.t 28)) [1],
 qd 30 (.ixn 22 3 (.t 27) (.t 29)) [0,2,1],
 qo 9 (.new 136 [(.val .nilFunc),(.val (.bool false)),(.val (.bool false))]),
 ql (.st 3 (.t 9) (.t 30)) [4,3,0,2,1]])
 (.seq (.seq (.reg [qo 31 (.fad 1 (.t 9)),
 qo 32 (.ld1 (.t 31))])
 (.cond (.t 32) (.seq (.seq (.reg [qo 33 (.fad 1 (.t 5)),
 qo 34 (.ld1 (.t 33)),
 qo 35 (.bin .lss (.t 34) (qk 1)),
 qm 36 35,
 qg 37 (.fad 1 (.t 5)) 36 false,
 qg 38 (.ld1 (.t 37)) 36 false,
 qg 39 (.fad 1 (.t 4)) 36 false,
 qg 40 (.ld1 (.t 39)) 36 false,
 qg 41 (.len (.t 40)) 36 false,
 qg 42 (.bin .gtr (.t 38) (.t 41)) 36 false,
 qo 43 (.pick (.t 36) qt (.t 42))])
 (.cond (.t 43) (.seq (.reg [qm 44 8,
 qo 45 (.nck (.t 44)),
 qo 46 (.fad 9 (.t 45)),
 qo 47 (.ldn 6 (.t 46)),
 qn (.st 6 (.t 6) (.t 47)),
 qo 7 (.mv (qk 4))])
 .ret)
 .skip))
 (.regD [qm 48 8,
 qm 49 8,
 qd 50 (.nck (.t 49)) [1],
 qd 51 (.fad 9 (.t 50)) [2,1],
 qd 52 (.fad 1 (.t 51)) [3,2,1],
 qd 53 (.ld1 (.t 52)) [4,3,2,1],
 qo 54 (.fad 1 (.t 5)),
 qd 55 (.ld1 (.t 54)) [6],
 qd 56 (.bin .sub (.t 55) (qk 1)) [7,6],
 qd 57 (.ixa 12 (.t 53) (.t 56)) [5,4,3,2,1,8,7,6],
 qd 58 (.nck (.t 48)) [0,1,2,3,4,5,6,7,8,9],
 qd 59 (.fad 22 (.t 58)) [10,0,1,2,3,4,5,6,7,8,9],
 ql (.st 1 (.t 59) (.t 57)) [11,10,0,1,2,3,4,5,6,7,8,9]]))
 .skip))
 (.seq (.seq (.reg [qo 60 (.fad 2 (.t 9)),
 qo 61 (.ld1 (.t 60))])
 (.cond (.t 61) (.seq (.seq (.reg [qo 62 (.fad 1 (.t 5)),
 qo 63 (.ld1 (.t 62)),
 qo 64 (.fad 0 (.t 4)),
 qo 65 (.ld1 (.t 64)),
 qo 66 (.len (.t 65)),
 qo 67 (.bin .geq (.t 63) (.t 66))])
 (.cond (.t 67) (.seq (.reg [qm 68 8,
 qo 69 (.nck (.t 68)),
 qo 70 (.fad 9 (.t 69)),
 qo 71 (.ldn 6 (.t 70)),
 qn (.st 6 (.t 6) (.t 71)),
 qo 7 (.mv (qk 4))])
 .ret)
 .skip))
 (.regD [qm 72 8,
 qm 73 8,
 qd 74 (.nck (.t 73)) [1],
 qd 75 (.fad 9 (.t 74)) [2,1],
 qd 76 (.fad 0 (.t 75)) [3,2,1],
 qd 77 (.ld1 (.t 76)) [4,3,2,1],
 qo 78 (.fad 1 (.t 5)),
 qd 79 (.ld1 (.t 78)) [6],
 qd 80 (.ixa 5 (.t 77) (.t 79)) [5,4,3,2,1,7,6],
 qd 81 (.nck (.t 72)) [0,1,2,3,4,5,6,7,8],
 qd 82 (.fad 23 (.t 81)) [9,0,1,2,3,4,5,6,7,8],
 ql (.st 1 (.t 82) (.t 80)) [10,9,0,1,2,3,4,5,6,7,8]]))
 .skip))
 (.seq (.seq (.reg [qo 83 (.fad 0 (.t 9)),
 qo 84 (.ld1 (.t 83)),
 qm 85 8,
 qo 86 (.call (.t 84) [(.t 85)]),
 qm 10 86])
 (.seq (.reg [qm 87 10,
 qo 88 (.bin .neq (.t 87) (qk 0))])
 (.cond (.t 88) (.seq (.reg [qo 89 (.ldn 6 (.t 4)),
 qo 90 (.call (.f 73) [(.t 89)]),
 qm 91 10,
 qn (.st 6 (.t 6) (.t 90)),
 qm 7 91])
 .ret)
 .skip)))
 (.seq (.reg [qm 92 8,
 qo 93 (.nck (.t 92)),
 qo 94 (.fad 9 (.t 93)),
 qo 95 (.ldn 6 (.t 94)),
 qn (.st 6 (.t 6) (.t 95)),
 qo 7 (.mv (qk 0))])
 .ret))))))))),
[(.cn 6 6),(.t 7)])
theorem irOk24 : convFn Tryz.prog Tryz.f24 = some ir24 := by kernel_rfl


theorem app_none {c : ConfD} {s : StateD} {o : OpD} (hr : rightB c s = true) (h : opOkB o = true) (h1 : jobK o.kind = false) (h2 : nodeK o.kind = false) : applyD c s o = deedD c s o := by
  unfold applyD appD
  rw [if_neg (by simp [hr]), if_neg (by simp [h]), if_neg (by simp [h1]), if_neg (by simp [h2])]
theorem app_job {c : ConfD} {s : StateD} {o : OpD} (hr : rightB c s = true) (h : opOkB o = true) (h1 : jobK o.kind = true) (h2 : nodeK o.kind = false) : applyD c s o = if o.a < 1 ∨ (s.jobs.length : Int) < o.a then (s, 4) else deedD c s o := by
  unfold applyD appD
  rw [if_neg (by simp [hr]), if_neg (by simp [h])]
  by_cases hq : o.a < 1 ∨ (s.jobs.length : Int) < o.a
  · rw [if_pos ⟨h1, hq⟩, if_pos hq]
  · rw [if_neg (fun h => hq h.2), if_neg (by simp [h2]), if_neg hq]
theorem app_node {c : ConfD} {s : StateD} {o : OpD} (hr : rightB c s = true) (h : opOkB o = true) (h1 : jobK o.kind = false) (h2 : nodeK o.kind = true) : applyD c s o = if (s.nodes.length : Int) ≤ o.a then (s, 4) else deedD c s o := by
  unfold applyD appD
  rw [if_neg (by simp [hr]), if_neg (by simp [h]), if_neg (by simp [h1])]
  by_cases hq : (s.nodes.length : Int) ≤ o.a
  · rw [if_pos ⟨h2, hq⟩, if_pos hq]
  · rw [if_neg (fun h => hq h.2), if_neg hq]
def ErrSame (s : StateD) (p : StateD × Int) : Prop := p.2 ≠ 0 → p.1 = s
theorem err_ite {s : StateD} {P : Prop} [Decidable P] {a b : StateD × Int} (h1 : ErrSame s a) (h2 : ErrSame s b) : ErrSame s (if P then a else b) := by
  split
  · exact h1
  · exact h2
theorem err_same (s : StateD) (e : Int) : ErrSame s (s, e) := fun _ => rfl
theorem err_ok (s t : StateD) : ErrSame s (t, 0) := fun h => absurd rfl h
theorem deed_err (c : ConfD) (s : StateD) (o : OpD) : ErrSame s (deedD c s o) := by
  unfold deedD submitD cancelD targetD turnD downD upD holdD startD unholdD drainD savedD evictD doneD cordonD uncordonD moveD movedD shrinkD newtermD
  repeat' (first | exact err_same _ _ | exact err_ok _ _ | apply err_ite)
theorem opOk_nums {o : OpD} (h : opOkB o = true) : (1 ≤ o.kind ∧ o.kind ≤ 21) ∧ (0 ≤ o.a ∧ o.a ≤ 1000000) ∧ (0 ≤ o.b ∧ o.b ≤ 1000000) := by
  unfold opOkB numOk at h
  simp only [Bool.and_eq_true,decide_eq_true_eq] at h
  exact ⟨h.1.1.1.1.1.1, h.1.1.1.1.1.2.1, h.1.1.1.1.2.1⟩

theorem deed_none {c : ConfD} {s : StateD} {o : OpD} (hp : RightP c s) (hcf : 1 ≤ c.queues ∧ c.queues ≤ 1000) (hk : o.kind = 1 ∨ o.kind = 3 ∨ o.kind = 4 ∨ o.kind = 5 ∨ o.kind = 6 ∨ o.kind = 21) : ∃ f, List.take 3 (List.drop (o.kind.toNat * 3) deedsL) = [.d (.fn (.func f) [] []), .bool false, .bool false] ∧ Tri Tryz.prog bookG f [.ptr 0 0] (workO c s o noP noP) (.int (deedD c s o).2) (workO c (deedD c s o).1 o noP noP) := by
  have hln := hp.len
  have hlj := hp.jobs
  have ht := hp.term
  rcases hk with hk | hk | hk | hk | hk | hk <;> refine ⟨_, by rw [hk]; rfl, ?_⟩ <;> simp only [deedD,hk,Int.reduceEq,if_true,if_false]
  · exact submit_tri c s o hcf (by omega)
  · exact target_tri c s o (by omega) (by omega)
  · exact pause_tri c s o
  · exact resume_tri c s o
  · exact abort_tri c s o
  · exact newterm_tri c s o (by omega) ht.1
theorem deed_job {c : ConfD} {s : StateD} {o : OpD} (hp : RightP c s) (hb : 0 ≤ o.b) (hk : o.kind = 2 ∨ o.kind = 9 ∨ o.kind = 10 ∨ o.kind = 11 ∨ o.kind = 12 ∨ o.kind = 13 ∨ o.kind = 14 ∨ o.kind = 15 ∨ o.kind = 20) {k : Nat} (hkl : k < s.jobs.length) (ha : o.a = k + 1) (hJ : jobA s o.a = joA s k) (hm : 0 ≤ (joA s k).nodes ∧ (joA s k).nodes < 64) : ∃ f, List.take 3 (List.drop (o.kind.toNat * 3) deedsL) = [.d (.fn (.func f) [] []), .bool true, .bool false] ∧ Tri Tryz.prog bookG f [.ptr 0 0] (workO c s o (.rp 2 s.jobs.length 12 k 0) noP) (.int (deedD c s o).2) (workO c (deedD c s o).1 o (.rp 2 s.jobs.length 12 k 0) noP) := by
  have hln := hp.len
  have hlj := hp.jobs
  rcases hk with hk | hk | hk | hk | hk | hk | hk | hk | hk <;> refine ⟨_, by rw [hk]; rfl, ?_⟩ <;> simp only [deedD,hk,Int.reduceEq,if_true,if_false]
  · exact cancel_tri c s o k hkl ha (by omega) (by omega)
  · exact hold_tri c s o k hkl ha (by omega) (by omega) (by rw [hJ]; exact (hp.num k hkl).inc.1)
  · exact start_tri c s o k hkl ha
  · exact unhold_tri c s o k hkl ha (by omega) (by omega)
  · exact drain_tri9 c s o k hkl ha (by omega)
  · exact saved_tri c s o k hkl ha
  · exact evict_tri c s o k hkl ha (by omega) (by omega)
  · exact done_tri9 c s o k hkl ha (by omega) (by omega)
  · exact shrink_tri c s o k hkl ha (by omega) (by omega) hb (by rw [hJ]; exact hm)
theorem deed_node {c : ConfD} {s : StateD} {o : OpD} (hp : RightP c s) (hk : o.kind = 7 ∨ o.kind = 8 ∨ o.kind = 16 ∨ o.kind = 17 ∨ o.kind = 18 ∨ o.kind = 19) {i : Nat} (hil : i < s.nodes.length) (ha : o.a = i) (hN : nodeA s o.a = noA s i) : ∃ f, List.take 3 (List.drop (o.kind.toNat * 3) deedsL) = [.d (.fn (.func f) [] []), .bool false, .bool true] ∧ Tri Tryz.prog bookG f [.ptr 0 0] (workO c s o noP (.rp 1 s.nodes.length 5 i 0)) (.int (deedD c s o).2) (workO c (deedD c s o).1 o noP (.rp 1 s.nodes.length 5 i 0)) := by
  have hln := hp.len
  have hlj := hp.jobs
  rcases hk with hk | hk | hk | hk | hk | hk <;> refine ⟨_, by rw [hk]; rfl, ?_⟩ <;> simp only [deedD,hk,Int.reduceEq,if_true,if_false]
  · exact down_tri c s o i hil ha (by omega) (by omega) (by rw [hN]; exact hp.job i hil)
  · exact up_tri c s o i hil ha
  · exact cordon_tri c s o i hil ha
  · exact uncordon_tri c s o i hil ha
  · exact move_tri c s o i hil ha
  · exact moved_tri c s o i hil ha
set_option maxHeartbeats 1600000 in
theorem apply_tri (c : ConfD) (s : StateD) (o : OpD) : Tri Tryz.prog bookG 24 [confV c, stateV s, opV o] [] (.tup [stateV (applyD c s o).1, .int (applyD c s o).2]) [] := by
  refine tri_W Tryz.func24 (by decide) irOk24 (Nat.le_of_ble_eq_true rfl) ?_
  simp only [ir24,go_sem,simprocAttr]
  refine W_calld (right_tri c s) rfl rfl rfl rfl ?_; simp only [go_sem,simprocAttr]
  cases hr : rightB c s with
  | false =>
    have hA : applyD c s o = (zeroState, 1) := by unfold applyD; rw [if_pos hr]
    rw [hA]
    simp only [go_sem,simprocAttr]
    exact BackZ [] rfl (by simp) (by simp [St.obj,objL,oneOr,St.get,getE,argR,argRs,rowsAt,zeroState,LV.int])
  | true =>
  have hp := (right_iff c s).1 hr
  have hln := hp.len
  have hlj := hp.jobs
  have hcf := (right_ok hr).conf
  simp only [go_sem,simprocAttr]
  refine W_calld (opsRight_tri o) rfl rfl rfl rfl ?_; simp only [go_sem,simprocAttr]
  cases ho : opOkB o with
  | false =>
    have hA : applyD c s o = (s, 1) := by unfold applyD appD; rw [if_neg (by simp [hr]), if_pos ho]
    rw [hA]
    simp only [go_sem,simprocAttr]
    refine W_calln (copy_tri s (by omega) (by omega)) rfl rfl rfl ?_
    simp only [go_sem,simprocAttr]
    exact BackZ [4, 5] rfl (by simp [St.obj,objL]) (by simp [St.obj,objL,oneOr,St.get,getE,argR,argRs,rowsAt,LV.int,List.take_of_length_le])
  | true =>
  have hkn := opOk_nums ho
  obtain ⟨hkk, hka, hkb⟩ := hkn
  simp only [go_sem,simprocAttr]
  refine WD_calln (copy_tri s (by omega) (by omega)) rfl rfl rfl ?_
  simp only [go_sem,simprocAttr]
  refine W_opsD_end rfl ?_
  simp only [go_sem,simprocAttr]
  refine WD_calld deeds_tri rfl rfl rfl rfl ?_
  simp only [go_sem,simprocAttr]
  have hE := deed_err c s o
  have hK : 0 ≤ o.kind ∧ o.kind.toNat < 22 := by omega
  have hkg : (o.kind = 1 ∨ o.kind = 3 ∨ o.kind = 4 ∨ o.kind = 5 ∨ o.kind = 6 ∨ o.kind = 21) ∨ (o.kind = 2 ∨ o.kind = 9 ∨ o.kind = 10 ∨ o.kind = 11 ∨ o.kind = 12 ∨ o.kind = 13 ∨ o.kind = 14 ∨ o.kind = 15 ∨ o.kind = 20) ∨ (o.kind = 7 ∨ o.kind = 8 ∨ o.kind = 16 ∨ o.kind = 17 ∨ o.kind = 18 ∨ o.kind = 19) := by omega
  rcases hkg with hk | hk | hk
  · obtain ⟨f, hx, hT⟩ := deed_none hp (by omega) hk
    have hA : applyD c s o = deedD c s o := by
      rcases hk with hk | hk | hk | hk | hk | hk <;> exact app_none hr ho (by rw [hk]; rfl) (by rw [hk]; rfl)
    rw [hA]
    simp only [hK,hx,go_sem,simprocAttr]
    refine W_opsD_end rfl ?_
    simp only [go_sem,simprocAttr]
    refine W_callo [6, 4, 5] (hT) rfl (by simp only [argRs,argR,List.map_cons,List.map_nil,go_sem,simprocAttr,workO]) (by decide) (by simp only [go_sem,simprocAttr,workO]) (by simp only [go_sem,simprocAttr,List.all_cons,List.all_nil,workO]) (by simp) ?_; simp only [go_sem,simprocAttr,workO]
    generalize deedD c s o = p at *
    cases he : (p.2 != 0) with
    | true =>
      simp only [he,go_sem,simprocAttr]
      refine W_calln (copy_tri s (by omega) (by omega)) rfl rfl rfl ?_
      simp only [go_sem,simprocAttr]
      have hs : p.1 = s := hE (by simpa using he)
      rw [hs]
      exact BackZ [8, 9] rfl (by simp [St.obj,objL]) (by simp [St.obj,objL,oneOr,St.get,getE,argR,argRs,rowsAt,LV.int,List.take_of_length_le])
    | false =>
      have he2 : p.2 = 0 := by simpa using he
      simp only [he,go_sem,simprocAttr]
      exact BackZ [4, 5] rfl (by simp [St.obj,objL]) (by simp [St.obj,objL,oneOr,St.get,getE,argR,argRs,rowsAt,LV.int,List.take_of_length_le,he2])
  · have hA : applyD c s o = if o.a < 1 ∨ (s.jobs.length : Int) < o.a then (s, 4) else deedD c s o := by
      rcases hk with hk | hk | hk | hk | hk | hk | hk | hk | hk <;> exact app_job hr ho (by rw [hk]; rfl) (by rw [hk]; rfl)
    have hx : ∃ f, List.take 3 (List.drop (o.kind.toNat * 3) deedsL) = [.d (.fn (.func f) [] []), .bool true, .bool false] := by
      rcases hk with hk | hk | hk | hk | hk | hk | hk | hk | hk <;> exact ⟨_, by rw [hk]; rfl⟩
    obtain ⟨f, hx⟩ := hx
    rw [hA]
    simp only [hK,hx,go_sem,simprocAttr]
    refine W_opsD_end rfl ?_
    simp only [go_sem,simprocAttr]
    by_cases hq : o.a < 1 ∨ (s.jobs.length : Int) < o.a
    · rw [if_pos hq]
      refine WG_split (fun h1 => ?_) (fun h1 => ?_) <;> simp only [h1,go_sem,simprocAttr] <;> (try simp only [beq_iff_eq,beq_eq_false_iff_ne,bne_iff_ne,ne_eq,decide_eq_true_eq,decide_eq_false_iff_not,Bool.not_true,Bool.not_false,Bool.not_eq_true,Bool.not_eq_false,bne_eq_false_iff_eq,Decidable.not_not] at h1)
      · refine WC_split (fun h2 => ?_) (fun h2 => ?_) <;> simp only [h2,go_sem,simprocAttr] <;> (try simp only [beq_iff_eq,beq_eq_false_iff_ne,bne_iff_ne,ne_eq,decide_eq_true_eq,decide_eq_false_iff_not,Bool.not_true,Bool.not_false,Bool.not_eq_true,Bool.not_eq_false,bne_eq_false_iff_eq,Decidable.not_not] at h2)
        · exact BackZ [4, 5] rfl (by simp [St.obj,objL]) (by simp [St.obj,objL,oneOr,St.get,getE,argR,argRs,rowsAt,LV.int,List.take_of_length_le])
        · omega
      · exact BackZ [4, 5] rfl (by simp [St.obj,objL]) (by simp [St.obj,objL,oneOr,St.get,getE,argR,argRs,rowsAt,LV.int,List.take_of_length_le])
    rw [if_neg hq]
    have q1 : decide (o.a < 1) = false := by simp; omega
    have q2 : decide (o.a > (s.jobs.length : Int)) = false := by simp; omega
    have hw : IntKind.i64.wrap (o.a - 1) = o.a - 1 := wrap_in (by omega) (by omega)
    have q3 : 0 ≤ o.a - 1 := by omega
    obtain ⟨k, hkq⟩ : ∃ k : Nat, (o.a - 1).toNat = k := ⟨_, rfl⟩
    have hkl : k < s.jobs.length := by omega
    have hka2 : o.a = k + 1 := by omega
    have hJ : jobA s o.a = joA s k := by unfold jobA joA; rw [hkq]
    obtain ⟨f2, hx2, hT⟩ := deed_job hp hkb.1 hk hkl hka2 hJ ((right_ok hr).bits hkl)
    rw [hx2] at hx
    simp only [List.cons.injEq,LV.d.injEq,DV.fn.injEq,Fn.func.injEq,and_true] at hx
    obtain rfl := hx
    simp only [q1,q2,q3,hw,hkq,hkl,go_sem,simprocAttr]
    refine W_opsD_end rfl ?_
    simp only [go_sem,simprocAttr]
    refine W_callo [6, 4, 5] (hT) rfl (by simp only [argRs,argR,List.map_cons,List.map_nil,go_sem,simprocAttr,workO]) (by decide) (by simp only [go_sem,simprocAttr,workO]) (by simp only [go_sem,simprocAttr,List.all_cons,List.all_nil,workO]) (by simp) ?_; simp only [go_sem,simprocAttr,workO]
    generalize deedD c s o = p at *
    cases he : (p.2 != 0) with
    | true =>
      simp only [he,go_sem,simprocAttr]
      refine W_calln (copy_tri s (by omega) (by omega)) rfl rfl rfl ?_
      simp only [go_sem,simprocAttr]
      have hs : p.1 = s := hE (by simpa using he)
      rw [hs]
      exact BackZ [8, 9] rfl (by simp [St.obj,objL]) (by simp [St.obj,objL,oneOr,St.get,getE,argR,argRs,rowsAt,LV.int,List.take_of_length_le])
    | false =>
      have he2 : p.2 = 0 := by simpa using he
      simp only [he,go_sem,simprocAttr]
      exact BackZ [4, 5] rfl (by simp [St.obj,objL]) (by simp [St.obj,objL,oneOr,St.get,getE,argR,argRs,rowsAt,LV.int,List.take_of_length_le,he2])
  · have hA : applyD c s o = if (s.nodes.length : Int) ≤ o.a then (s, 4) else deedD c s o := by
      rcases hk with hk | hk | hk | hk | hk | hk <;> exact app_node hr ho (by rw [hk]; rfl) (by rw [hk]; rfl)
    have hx : ∃ f, List.take 3 (List.drop (o.kind.toNat * 3) deedsL) = [.d (.fn (.func f) [] []), .bool false, .bool true] := by
      rcases hk with hk | hk | hk | hk | hk | hk <;> exact ⟨_, by rw [hk]; rfl⟩
    obtain ⟨f, hx⟩ := hx
    rw [hA]
    simp only [hK,hx,go_sem,simprocAttr]
    refine W_opsD_end rfl ?_
    simp only [go_sem,simprocAttr]
    by_cases hq : (s.nodes.length : Int) ≤ o.a
    · rw [if_pos hq]
      have q1 : decide (o.a ≥ (s.nodes.length : Int)) = true := by simpa using hq
      simp only [q1,go_sem,simprocAttr]
      exact BackZ [4, 5] rfl (by simp [St.obj,objL]) (by simp [St.obj,objL,oneOr,St.get,getE,argR,argRs,rowsAt,LV.int,List.take_of_length_le])
    rw [if_neg hq]
    have q1 : decide (o.a ≥ (s.nodes.length : Int)) = false := by simp; omega
    have q3 : 0 ≤ o.a := hka.1
    obtain ⟨i, hiq⟩ : ∃ i : Nat, o.a.toNat = i := ⟨_, rfl⟩
    have hil : i < s.nodes.length := by omega
    have hia : o.a = i := by omega
    have hN : nodeA s o.a = noA s i := by unfold nodeA noA; rw [hiq]
    obtain ⟨f2, hx2, hT⟩ := deed_node hp hk hil hia hN
    rw [hx2] at hx
    simp only [List.cons.injEq,LV.d.injEq,DV.fn.injEq,Fn.func.injEq,and_true] at hx
    obtain rfl := hx
    simp only [q1,q3,hiq,hil,go_sem,simprocAttr]
    refine W_opsD_end rfl ?_
    simp only [go_sem,simprocAttr]
    refine W_callo [6, 4, 5] (hT) rfl (by simp only [argRs,argR,List.map_cons,List.map_nil,go_sem,simprocAttr,workO]) (by decide) (by simp only [go_sem,simprocAttr,workO]) (by simp only [go_sem,simprocAttr,List.all_cons,List.all_nil,workO]) (by simp) ?_; simp only [go_sem,simprocAttr,workO]
    generalize deedD c s o = p at *
    cases he : (p.2 != 0) with
    | true =>
      simp only [he,go_sem,simprocAttr]
      refine W_calln (copy_tri s (by omega) (by omega)) rfl rfl rfl ?_
      simp only [go_sem,simprocAttr]
      have hs : p.1 = s := hE (by simpa using he)
      rw [hs]
      exact BackZ [8, 9] rfl (by simp [St.obj,objL]) (by simp [St.obj,objL,oneOr,St.get,getE,argR,argRs,rowsAt,LV.int,List.take_of_length_le])
    | false =>
      have he2 : p.2 = 0 := by simpa using he
      simp only [he,go_sem,simprocAttr]
      exact BackZ [4, 5] rfl (by simp [St.obj,objL]) (by simp [St.obj,objL,oneOr,St.get,getE,argR,argRs,rowsAt,LV.int,List.take_of_length_le,he2])
end Dv
