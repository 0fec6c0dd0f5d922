/- trail.At, trail.Of, and the document's. -/
import Derived.Test.YtkalnfkokkjliaaGreatDoorQ9
import Derived.Test.YtkalnfkokkjliaaGreatDoorD7
import Derived.Test.YtkalnfkokkjliaaGreatDoorD19
set_option linter.unusedVariables false
set_option linter.unusedSimpArgs false
namespace Dv
open Go Go.Proofs
variable {G : Nat → Option (List DV)}

def ir70 : Nat × C × List RV := (6,
(.seq (.reg [qo 2 (.box 23 (.t 0)),
 qo 3 (.box 33 (.t 1)),
 qo 4 (.mv (.c (.val .nilFunc)))])
 (.seq (.reg [qo 5 (.mkf (.func 140) [] [(.t 3),(.t 2)]),
 qm 4 5])
 .ret)),
[(.t 4)])
theorem irOk70 : convFn Tryz.prog Tryz.f70 = some ir70 := by kernel_rfl
def ir140 : Nat × C × List RV := (46,
(.seq (.reg [qo 8 (.fad 1 (.t 1)),
 qo 9 (.ldn 6 (.t 8)),
 qo 10 (.call (.f 73) [(.t 9)]),
 qo 4 (.new 30 [(.val (.slice none 0 0)),(.val (.slice none 0 0)),q0,q0,q0,q0]),
 qn (.st 6 (.t 4) (.t 10))])
 (.seq (.seq (.reg [qm 11 0,
 qo 12 (.fad 0 (.t 1)),
 qo 13 (.ld1 (.t 12)),
 qo 14 (.ldn 6 (.t 4)),
 qo 15 (.call (.t 11) [(.t 13),(.t 14)]),
 qo 16 (.not (.t 15))])
 (.cond (.t 16) .ret
 .skip))
 (.seq (.reg [qo 17 (.fad 7 (.t 1)),
 qo 18 (.ld1 (.t 17)),
 qo 19 (.len (.t 18)),
 qo 20 (.mv (qk 0))])
 (.block 0 (.loop (.seq (.reg [qo 21 (.bin .lss (.t 20) (.t 19))])
 (.seq (.cond (.t 21) .skip
 (.exit 0))
 (.seq (.block 1 (.seq (.reg [qm 22 20,
 qo 23 (.ixa 7 (.t 18) (.t 20)),
 qo 24 (.ldn 7 (.t 23)),
 qo 6 (.new 37 [q0,q0,q0,q0,q0,q0,q0]),
 qm 5 22,
 qn (.st 7 (.t 6) (.t 24))])
 (.seq (.reg [qo 7 (.mv (qk 0))])
 (.seq (.reg [qo 26 (.ldn 9 (.t 2)),
 qo 27 (.ldn 6 (.t 4)),
 qo 28 (.ldn 7 (.t 6)),
 qo 29 (.call (.f 24) [(.t 26),(.t 27),(.t 28)]),
 qm 25 29,
 qo 30 (.ext (.t 25) 0),
 qo 31 (.ext (.t 25) 1),
 qn (.st 6 (.t 4) (.t 30)),
 qm 7 31])
 (.seq (.reg [qm 32 7,
 qo 33 (.bin .neq (.t 32) (qk 0)),
 qm 34 33,
 qg 35 (.mv (.t 0)) 34 false,
 qg 36 (.fad 0 (.t 1)) 34 false,
 qg 37 (.ld1 (.t 36)) 34 false,
 qg 38 (.mv (.t 5)) 34 false,
 qg 39 (.bin .add (.t 37) (.t 38)) 34 false,
 qg 40 (.bin .add (.t 39) (qk 1)) 34 false,
 qg 41 (.ldn 6 (.t 4)) 34 false,
 qg 42 (.call (.t 35) [(.t 40),(.t 41)]) 34 false,
 qg 43 (.not (.t 42)) 34 false,
 qo 44 (.pick (.t 34) qt (.t 43))])
 (.cond (.t 44) .ret
 .skip))))))
 (.reg [qo 45 (.bin .add (.t 20) (qk 1)),
 qm 20 45]))))))))),
[])
theorem irOk140 : convFn Tryz.prog Tryz.f140 = some ir140 := by kernel_rfl
def ir18 : Nat × C × List RV := (20,
(.seq (.reg [qo 3 (.box 23 (.t 0)),
 qo 4 (.box 33 (.t 1)),
 qo 5 (.box 3 (.t 2)),
 qo 6 (.new 30 [(.val (.slice none 0 0)),(.val (.slice none 0 0)),q0,q0,q0,q0]),
 qo 7 (.new 4 [(.val (.bool false))])])
 (.seq (.seq (.reg [qo 10 (.ldn 9 (.t 3)),
 qo 11 (.ldn 8 (.t 4)),
 qo 12 (.call (.f 70) [(.t 10),(.t 11)])])
 (.block 0 (.rfn (.t 12) [13,14] (.seq (.reg [qm 8 13])
 (.reg [qo 9 (.new 30 [(.val (.slice none 0 0)),(.val (.slice none 0 0)),q0,q0,q0,q0]),
 qn (.st 6 (.t 9) (.t 14))]))
 (.block 1 (.seq (.reg [qm 15 8,
 qo 16 (.ld1 (.t 5)),
 qo 17 (.bin .eql (.t 15) (.t 16))])
 (.cond (.t 17) (.seq (.reg [qo 18 (.ldn 6 (.t 9)),
 qn (.st 6 (.t 6) (.t 18)),
 qn (.st 1 (.t 7) qt)])
 .ret)
 .skip))))))
 (.seq (.reg [qo 19 (.build [(.val (.slice none 0 0)),(.val (.slice none 0 0)),q0,q0,q0,q0] []),
 qn (.st 6 (.t 6) (.t 19)),
 qn (.st 1 (.t 7) qf)])
 .ret))),
[(.cn 6 6),(.c1 7)])
theorem irOk18 : convFn Tryz.prog Tryz.f18 = some ir18 := by kernel_rfl
def ir71 : Nat × C × List RV := (21,
(.seq (.reg [qo 2 (.box 37 (.t 0)),
 qo 4 (.mv qf)])
 (.seq (.seq (.reg [qo 5 (.fad 0 (.t 2)),
 qo 6 (.ld1 (.t 5))])
 (.block 0 (.seq (.seq (.reg [qo 8 (.bin .eql (.t 6) (qk 2)),
 qm 7 8])
 (.cond (.t 7) .skip
 (.seq (.reg [qo 9 (.bin .eql (.t 6) (qk 9)),
 qm 7 9])
 (.cond (.t 7) .skip
 (.seq (.reg [qo 10 (.bin .eql (.t 6) (qk 10)),
 qm 7 10])
 (.cond (.t 7) .skip
 (.seq (.reg [qo 11 (.bin .eql (.t 6) (qk 11)),
 qm 7 11])
 (.cond (.t 7) .skip
 (.seq (.reg [qo 12 (.bin .eql (.t 6) (qk 12)),
 qm 7 12])
 (.cond (.t 7) .skip
 (.seq (.reg [qo 13 (.bin .eql (.t 6) (qk 13)),
 qm 7 13])
 (.cond (.t 7) .skip
 (.seq (.reg [qo 14 (.bin .eql (.t 6) (qk 14)),
 qm 7 14])
 (.cond (.t 7) .skip
 (.seq (.reg [qo 15 (.bin .eql (.t 6) (qk 15)),
 qm 7 15])
 (.cond (.t 7) .skip
 (.reg [qo 16 (.bin .eql (.t 6) (qk 20)),
 qm 7 16])))))))))))))))))
 (.cond (.t 7) (.seq (.reg [qo 17 (.fad 1 (.t 2)),
 qo 18 (.ld1 (.t 17)),
 qm 19 1,
 qo 20 (.bin .eql (.t 18) (.t 19)),
 qm 4 20])
 .ret)
 .skip))))
 (.seq (.reg [qo 4 (.mv qf)])
 .ret))),
[(.t 4)])
theorem irOk71 : convFn Tryz.prog Tryz.f71 = some ir71 := by kernel_rfl
def ir22 : Nat × C × List RV := (28,
(.seq (.reg [qo 2 (.box 33 (.t 0)),
 qo 4 (.mv (.c (.val (.slice none 0 0))))])
 (.seq (.reg [qo 5 (.mv (.c (.val (.slice none 0 0))))])
 (.seq (.seq (.reg [qo 8 (.fad 7 (.t 2)),
 qo 9 (.ld1 (.t 8)),
 qo 10 (.len (.t 9)),
 qo 11 (.mv (qk 0))])
 (.block 0 (.loop (.seq (.reg [qo 12 (.bin .lss (.t 11) (.t 10))])
 (.seq (.cond (.t 12) .skip
 (.exit 0))
 (.seq (.block 1 (.seq (.reg [qm 13 11,
 qo 14 (.ixa 7 (.t 9) (.t 11)),
 qo 15 (.ldn 7 (.t 14)),
 qo 7 (.new 37 [q0,q0,q0,q0,q0,q0,q0]),
 qm 6 13,
 qn (.st 7 (.t 7) (.t 15))])
 (.seq (.reg [qo 16 (.ldn 7 (.t 7)),
 qm 17 1,
 qo 18 (.call (.f 71) [(.t 16),(.t 17)])])
 (.cond (.t 18) (.reg [qm 19 5,
 qo 20 (.fad 0 (.t 2)),
 qo 21 (.ld1 (.t 20)),
 qm 22 6,
 qo 23 (.bin .add (.t 21) (.t 22)),
 qo 24 (.bsl 3 1 [(.t 23)]),
 qo 25 (.app 3 1 8 (.t 19) (.t 24)),
 qm 5 25])
 .skip))))
 (.reg [qo 26 (.bin .add (.t 11) (qk 1)),
 qm 11 26])))))))
 (.seq (.reg [qm 27 5,
 qm 4 27])
 .ret)))),
[(.t 4)])
theorem irOk22 : convFn Tryz.prog Tryz.f22 = some ir22 := by kernel_rfl
def ir19 : Nat × C × List RV := (48,
(.seq (.reg [qo 3 (.box 23 (.t 0)),
 qo 4 (.box 33 (.t 1)),
 qo 6 (.new 30 [(.val (.slice none 0 0)),(.val (.slice none 0 0)),q0,q0,q0,q0]),
 qo 7 (.mv qf)])
 (.seq (.seq (.reg [qm 10 2,
 qo 11 (.fad 0 (.t 4)),
 qo 12 (.ld1 (.t 11)),
 qo 13 (.bin .lss (.t 10) (.t 12)),
 qm 14 13,
 qg 15 (.mv (.t 2)) 14 false,
 qg 16 (.fad 0 (.t 4)) 14 false,
 qg 17 (.ld1 (.t 16)) 14 false,
 qg 18 (.fad 7 (.t 4)) 14 false,
 qg 19 (.ld1 (.t 18)) 14 false,
 qg 20 (.len (.t 19)) 14 false,
 qg 21 (.bin .add (.t 17) (.t 20)) 14 false,
 qg 22 (.bin .gtr (.t 15) (.t 21)) 14 false,
 qo 23 (.pick (.t 14) qt (.t 22))])
 (.cond (.t 23) (.seq (.reg [qo 24 (.build [(.val (.slice none 0 0)),(.val (.slice none 0 0)),q0,q0,q0,q0] []),
 qn (.st 6 (.t 6) (.t 24)),
 qo 7 (.mv qf)])
 .ret)
 .skip))
 (.seq (.reg [qo 25 (.fad 1 (.t 4)),
 qo 26 (.ldn 6 (.t 25)),
 qo 27 (.call (.f 65) [(.t 26)]),
 qo 8 (.new 30 [(.val (.slice none 0 0)),(.val (.slice none 0 0)),q0,q0,q0,q0]),
 qn (.st 6 (.t 8) (.t 27))])
 (.seq (.seq (.reg [qo 9 (.mv (qk 0))])
 (.block 0 (.loop (.seq (.seq (.reg [qm 28 9,
 qm 29 2,
 qo 30 (.fad 0 (.t 4)),
 qo 31 (.ld1 (.t 30)),
 qo 32 (.bin .sub (.t 29) (.t 31)),
 qo 33 (.bin .lss (.t 28) (.t 32))])
 (.cond (.t 33) .skip
 (.exit 0)))
 (.seq (.block 1 (.regD [qo 37 (.ldn 9 (.t 3)),
 qo 38 (.ldn 6 (.t 8)),
 qo 39 (.fad 7 (.t 4)),
 qd 40 (.ld1 (.t 39)) [2],
 qm 41 9,
 qd 42 (.ixa 7 (.t 40) (.t 41)) [3,2,4],
 qd 43 (.ldn 7 (.t 42)) [5,3,2,4],
 qd 44 (.call (.f 17) [(.t 37),(.t 38),(.t 43)]) [0,1,6,5,3,2,4],
 qd 36 (.mv (.t 44)) [7,0,1,6,5,3,2,4],
 qd 45 (.ext (.t 36) 0) [8,7,0,1,6,5,3,2,4],
 qd 46 (.ext (.t 36) 1) [8,7,0,1,6,5,3,2,4],
 ql (.st 6 (.t 8) (.t 45)) [9,8,7,0,1,6,5,3,2,4]]))
 (.reg [qm 34 9,
 qo 35 (.bin .add (.t 34) (qk 1)),
 qm 9 35]))))))
 (.seq (.reg [qo 47 (.ldn 6 (.t 8)),
 qn (.st 6 (.t 6) (.t 47)),
 qo 7 (.mv qt)])
 .ret))))),
[(.cn 6 6),(.t 7)])
theorem irOk19 : convFn Tryz.prog Tryz.f19 = some ir19 := by kernel_rfl
def ir23 : Nat × C × List RV := (46,
(.seq (.reg [qo 2 (.box 33 (.t 0)),
 qo 4 (.mv (.c (.val (.slice none 0 0))))])
 (.seq (.reg [qo 5 (.mv (.c (.val (.slice none 0 0))))])
 (.seq (.seq (.reg [qo 6 (.mv (qk 0))])
 (.block 0 (.loop (.seq (.seq (.reg [qm 7 6,
 qo 8 (.fad 7 (.t 2)),
 qo 9 (.ld1 (.t 8)),
 qo 10 (.len (.t 9)),
 qo 11 (.bin .lss (.t 7) (.t 10))])
 (.cond (.t 11) .skip
 (.exit 0)))
 (.seq (.block 1 (.seq (.reg [qo 14 (.fad 7 (.t 2)),
 qo 15 (.ld1 (.t 14)),
 qm 16 6,
 qo 17 (.ixa 7 (.t 15) (.t 16)),
 qo 18 (.fad 0 (.t 17)),
 qo 19 (.ld1 (.t 18))])
 (.block 2 (.seq (.seq (.reg [qo 21 (.bin .eql (.t 19) (qk 2)),
 qm 20 21])
 (.cond (.t 20) .skip
 (.seq (.reg [qo 22 (.bin .eql (.t 19) (qk 9)),
 qm 20 22])
 (.cond (.t 20) .skip
 (.seq (.reg [qo 23 (.bin .eql (.t 19) (qk 10)),
 qm 20 23])
 (.cond (.t 20) .skip
 (.seq (.reg [qo 24 (.bin .eql (.t 19) (qk 11)),
 qm 20 24])
 (.cond (.t 20) .skip
 (.seq (.reg [qo 25 (.bin .eql (.t 19) (qk 12)),
 qm 20 25])
 (.cond (.t 20) .skip
 (.seq (.reg [qo 26 (.bin .eql (.t 19) (qk 13)),
 qm 20 26])
 (.cond (.t 20) .skip
 (.seq (.reg [qo 27 (.bin .eql (.t 19) (qk 14)),
 qm 20 27])
 (.cond (.t 20) .skip
 (.seq (.reg [qo 28 (.bin .eql (.t 19) (qk 15)),
 qm 20 28])
 (.cond (.t 20) .skip
 (.reg [qo 29 (.bin .eql (.t 19) (qk 20)),
 qm 20 29])))))))))))))))))
 (.cond (.t 20) (.seq (.reg [qo 30 (.fad 7 (.t 2)),
 qo 31 (.ld1 (.t 30)),
 qm 32 6,
 qo 33 (.ixa 7 (.t 31) (.t 32)),
 qo 34 (.fad 1 (.t 33)),
 qo 35 (.ld1 (.t 34)),
 qm 36 1,
 qo 37 (.bin .eql (.t 35) (.t 36))])
 (.cond (.t 37) (.reg [qm 38 5,
 qo 39 (.fad 0 (.t 2)),
 qo 40 (.ld1 (.t 39)),
 qm 41 6,
 qo 42 (.bin .add (.t 40) (.t 41)),
 qo 43 (.bsl 3 1 [(.t 42)]),
 qo 44 (.app 3 1 8 (.t 38) (.t 43)),
 qm 5 44])
 .skip))
 .skip)))))
 (.reg [qm 12 6,
 qo 13 (.bin .add (.t 12) (qk 1)),
 qm 6 13]))))))
 (.seq (.reg [qm 45 5,
 qm 4 45])
 .ret)))),
[(.t 4)])
theorem irOk23 : convFn Tryz.prog Tryz.f23 = some ir23 := by kernel_rfl


def opsT (l : List OpD) : LV := .d (.lst 7 (l.map opR))
def trailV (age : Int) (s : StateD) (l : List OpD) : LV := .agg [.int age, nodesV s.nodes, jobsV s.jobs, .int s.goal, .int s.prior, .int s.mode, .int s.term, opsT l]
def boxCT (c : ConfD) : LObj := .box 23 [.int c.nodes, .int c.queues, .int c.quota, .int c.wave, .int c.lease, .int c.retry, .int c.deadline, .int c.room, .int c.disk]
def boxTT (age : Int) (s : StateD) (l : List OpD) : LObj := .box 33 [.int age, nodesV s.nodes, jobsV s.jobs, .int s.goal, .int s.prior, .int s.mode, .int s.term, opsT l]
def cellsST (s : StateD) : List LV := [nodesV s.nodes, jobsV s.jobs, .int s.goal, .int s.prior, .int s.mode, .int s.term]
def zcST : List LV := [.d (.val (.slice none 0 0)), .d (.val (.slice none 0 0)), .int 0, .int 0, .int 0, .int 0]
def boxST (s : StateD) : LObj := .box 30 (cellsST s)
theorem copyT_tri (s : StateD) (hn : s.nodes.length ≤ 1000) (hj : s.jobs.length ≤ 1000) : Tri Tryz.prog G 73 [stateV s] [] (stateV s) [] := by
  refine tri_W Tryz.func73 (by decide) irOk73 (Nat.le_of_ble_eq_true rfl) ?_
  simp only [ir73,go_sem,simprocAttr]
  refine WD_calln (cloneN_tri s.nodes hn) rfl rfl rfl ?_
  simp only [go_sem,simprocAttr]
  refine WD_calln (cloneJ_tri s.jobs hj) rfl rfl rfl ?_
  simp only [go_sem,simprocAttr]
  refine W_opsD_end rfl ?_
  simp only [go_sem,simprocAttr]
  exact BackZ [2, 3] rfl (by simp [St.obj,objL]) (by simp [St.obj,objL,oneOr,St.get,getE,argR,argRs,rowsAt,LV.int,List.take_of_length_le])
theorem states_tri (c : ConfD) (age : Int) (s : StateD) (l : List OpD) : Tri Tryz.prog G 70 [confV c, trailV age s l] [] (.fn (.func 140) [] [.ptr 1 0, .ptr 0 0]) [boxCT c, boxTT age s l] := by
  refine tri_W Tryz.func70 (by decide) irOk70 (Nat.le_of_ble_eq_true rfl) ?_
  simp only [ir70,trailV,go_sem,simprocAttr]
  exact BackR [] [0, 1] [] rfl rfl (by simp) (fun _ h => by cases h) (fun _ h => by cases h) rfl rfl (by simp [adopt,St.obj,objL,oneOr,St.get,getE,argR,argRs])
def zstV : LV := .agg [.d (.val (.slice none 0 0)), .d (.val (.slice none 0 0)), .int 0, .int 0, .int 0, .int 0]
def atV (c : ConfD) (age : Int) (s : StateD) (l : List OpD) (k : Int) : LV := if age ≤ k ∧ k ≤ age + l.length then .tup [stateV (stN c s l (k - age).toNat), .bool true] else .tup [zstV, .bool false]
def bAt (c : ConfD) (age : Int) (s : StateD) (l : List OpD) (k : Int) (r : List LV) (b : Bool) (rest : List (Option LObj)) : List (Option LObj) :=
  some (boxCT c) :: some (boxTT age s l) :: some (.box 3 [.int k]) :: some (.box 30 r) :: some (.box 4 [.bool b]) :: some (boxCT c) :: some (boxTT age s l) :: none :: rest
def atS (c : ConfD) (age : Int) (s : StateD) (l : List OpD) (k : Int) (i : Nat) : St := ⟨[(0, .yl 7), (1, .ptr 6 0), (2, .ptr 5 0), (4, .ptr 8 0), (18, opsT l), (19, .int l.length), (20, .int i), (YS, rdyV)], bAt c age s l k zcST false [some (boxST (stN c s l i)), some (boxST s)]⟩
def RAt (c : ConfD) (age : Int) (s : StateD) (l : List OpD) (k : Int) (yv : LV) (objs : List (Option LObj)) : Prop := (yv = rdyV ∧ ¬ (age ≤ k ∧ k ≤ age + l.length) ∧ ∃ rest, objs = bAt c age s l k zcST false rest) ∨ (yv = leftV ∧ (age ≤ k ∧ k ≤ age + l.length) ∧ ∃ rest, objs = bAt c age s l k (cellsST (stN c s l (k - age).toNat)) true rest)
theorem at_tri (c : ConfD) (age : Int) (s : StateD) (l : List OpD) (k : Int) (hr : RightP c s) (hok : OkT c s l) (ha : 0 ≤ age ∧ age ≤ 1000000) (hl : l.length ≤ 100) :
    Tri Tryz.prog bookG 18 [confV c, trailV age s l, .int k] [] (atV c age s l k) [] := by
  have hn : s.nodes.length ≤ 1000 := by have := hr.len; omega
  have hj : s.jobs.length ≤ 1000 := by have := hr.jobs; omega
  refine tri_W0 Tryz.func18 (by decide) irOk18 (Nat.le_of_ble_eq_true rfl) (by unfold atV; split <;> rfl) ?_
  simp only [ir18,go_sem,simprocAttr]
  simp only [trailV,go_sem,simprocAttr]
  refine W_calln (states_tri c age s l) rfl rfl rfl ?_
  simp only [boxCT,boxTT,go_sem,simprocAttr]
  refine W_rfn rfl (RAt c age s l k) ?_ ?_
  case refine_2 =>
    rintro yv objs (⟨rfl, hno, rest, rfl⟩ | ⟨rfl, hyes, rest, rfl⟩)
    · refine .inl ⟨rfl, ?_⟩
      simp only [bAt,atV,hno,zcST,zstV,go_sem,simprocAttr]
    · refine .inr ⟨rfl, ?_⟩
      simp only [bAt,atV,hyes,cellsST,go_sem,simprocAttr]
  refine itri_W Tryz.func140 (by decide) irOk140 (Nat.le_of_ble_eq_true rfl) rfl rfl ?_
  simp only [ir140,go_sem,simprocAttr]
  refine W_calld (copyT_tri s hn hj) rfl rfl rfl rfl ?_; simp only [go_sem,simprocAttr]
  refine W_yield rfl ?_
  simp only [go_sem,simprocAttr]
  refine round_W rfl rfl ?_
  simp only [go_sem,simprocAttr]
  by_cases h0 : age = k
  · have e0 : (age == k) = true := beq_iff_eq.2 h0
    simp only [e0,go_sem,simprocAttr]
    exact .inr ⟨rfl, ⟨by omega, by omega⟩, _, by rw [show (k - age).toNat = 0 by omega]; simp only [bAt,boxCT,boxTT,cellsST,opsT,stN,go_sem,simprocAttr]; rfl⟩
  have e0 : (age == k) = false := beq_eq_false_iff_ne.2 h0
  simp only [e0,opsT,go_sem,simprocAttr]
  refine W_loopI [0, 1, 2, 4, 18, 19, 20, YS] [] (fun i : Nat => i ≤ l.length ∧ ¬ (age ≤ k ∧ k ≤ age + i)) (fun i => l.length - i) (atS c age s l k) 0 ?_ ⟨Nat.zero_le _, by omega⟩ ?_
  · simp only [atS,bAt,boxCT,boxTT,boxST,cellsST,zcST,opsT,stN,Int.natCast_zero,go_sem,simprocAttr]
  rintro i ⟨hi, hno⟩
  simp only [atS,bAt,boxCT,boxTT,boxST,cellsST,zcST,opsT,go_sem,simprocAttr]
  by_cases hlt : i < l.length
  case neg =>
    obtain rfl : i = l.length := by omega
    simp only [decide_eq_false (show ¬ ((l.length : Nat) : Int) < ((l.length : Nat) : Int) by omega),go_sem,simprocAttr]
    exact .inl ⟨rfl, hno, _, by simp only [bAt,boxCT,boxTT,zcST,opsT,go_sem,simprocAttr]; rfl⟩
  have hg := get_mapD (f := opR) zeroOp hlt
  have hap := hok i hlt
  have hst : stN c s l (i + 1) = (applyD c (stN c s l i) (l.getD i zeroOp)).1 := rfl
  have hri := stN_right hr l i
  generalize l.getD i zeroOp = o at *
  simp only [opR] at hg
  simp only [decide_eq_true (show ((i : Nat) : Int) < ((l.length : Nat) : Int) by omega),hg,go_sem,simprocAttr]
  refine W_calld (apply_tri c (stN c s l i) o) rfl rfl rfl rfl ?_; simp only [go_sem,simprocAttr]
  simp only [hap,go_sem,simprocAttr]
  rw [← hst]
  have w1 : IntKind.i64.wrap (IntKind.i64.wrap (age + (i : Int)) + 1) = age + ((i + 1 : Nat) : Int) := by rw [wrap_in (n := age + (i : Int)) (by omega) (by omega), wrap_in (by omega) (by omega)]; omega
  refine W_yield rfl ?_
  simp only [w1,go_sem,simprocAttr]
  refine round_W rfl rfl ?_
  simp only [w1,go_sem,simprocAttr]
  by_cases h1 : age + ((i + 1 : Nat) : Int) = k
  · have e1 : (age + ((i + 1 : Nat) : Int) == k) = true := beq_iff_eq.2 h1
    simp only [e1,go_sem,simprocAttr]
    exact .inr ⟨rfl, ⟨by omega, by omega⟩, _, by rw [show (k - age).toNat = i + 1 by omega]; simp only [bAt,boxCT,boxTT,cellsST,opsT,go_sem,simprocAttr]; rfl⟩
  have e1 : (age + ((i + 1 : Nat) : Int) == k) = false := beq_eq_false_iff_ne.2 h1
  simp only [e1,go_sem,simprocAttr]
  refine W_lpI (i + 1) ?_ ?_ ⟨by omega, by omega⟩ (by omega)
  · simp only [rdyV,go_sem,simprocAttr]
  · simp only [atS,bAt,boxCT,boxTT,boxST,cellsST,zcST,opsT,wrap_succ (show i < 9223372036854775807 by omega),go_sem,simprocAttr]

theorem isOf_tri (o : OpD) (job : Int) : Tri Tryz.prog G 71 [opV o, .int job] [] (.bool (isOfB o job)) [] := by
  refine tri_W0 Tryz.func71 (by decide) irOk71 (Nat.le_of_ble_eq_true rfl) rfl ?_
  simp only [ir71,go_sem,simprocAttr]
  unfold isOfB
  cases o.kind == 2 <;> simp only [go_sem,simprocAttr]
  cases o.kind == 9 <;> simp only [go_sem,simprocAttr]
  cases o.kind == 10 <;> simp only [go_sem,simprocAttr]
  cases o.kind == 11 <;> simp only [go_sem,simprocAttr]
  cases o.kind == 12 <;> simp only [go_sem,simprocAttr]
  cases o.kind == 13 <;> simp only [go_sem,simprocAttr]
  cases o.kind == 14 <;> simp only [go_sem,simprocAttr]
  cases o.kind == 15 <;> simp only [go_sem,simprocAttr]
  cases o.kind == 20 <;> simp only [go_sem,simprocAttr]
def ofR (l : List Int) : List (List DV) := l.map fun n => [i64 n]
def ofS (age : Int) (s : StateD) (l : List OpD) (job : Int) (k : Nat) : St := ⟨[(1, .int job), (2, .ptr 0 0), (5, .sl 1 (ofTo age l job k).length 1 0 (ofTo age l job k).length), (9, opsT l), (10, .int l.length), (11, .int k)], [some (boxTT age s l), some (.dat 3 1 (ofR (ofTo age l job k)))]⟩
theorem of_tri (age : Int) (s : StateD) (l : List OpD) (job : Int) (ha : 0 ≤ age ∧ age ≤ 1000000) (hl : l.length ≤ 100) : Tri Tryz.prog G 22 [trailV age s l, .int job] [] (.d (.lst 1 (ofR (ofTo age l job l.length)))) [] := by
  refine tri_W Tryz.func22 (by decide) irOk22 (Nat.le_of_ble_eq_true rfl) ?_
  simp only [ir22,trailV,opsT,go_sem,simprocAttr]
  refine W_loopI [1, 2, 5, 9, 10, 11] [.t 5 3 1] (fun k : Nat => k ≤ l.length) (fun k => l.length - k) (ofS age s l job) 0 ?_ (Nat.zero_le _) (fun k hk => ?_)
  · simp only [ofS,boxTT,opsT,ofTo,ofR,Int.natCast_zero,go_sem,simprocAttr]
  simp only [ofS,boxTT,opsT,go_sem,simprocAttr]
  by_cases hlt : k < l.length
  case neg =>
    obtain rfl : k = l.length := by omega
    simp only [decide_eq_false (show ¬ ((l.length : Nat) : Int) < ((l.length : Nat) : Int) by omega),go_sem,simprocAttr]
    exact BackZ [1] rfl (by simp [St.obj,objL]) (by simp [St.obj,objL,oneOr,St.get,getE,argR,rowsAt,ofR,List.take_of_length_le])
  have hg := get_mapD (f := opR) zeroOp hlt
  have hst : ofTo age l job (k + 1) = ofTo age l job k ++ if isOfB (l.getD k zeroOp) job = true then [age + k] else [] := rfl
  have hlen := ofTo_len age l job k
  have hbd : ((ofTo age l job k).length + 1) * 8 ≤ 70368744177664 := by omega
  generalize l.getD k zeroOp = o at *
  simp only [opR] at hg
  simp only [decide_eq_true (show ((k : Nat) : Int) < ((l.length : Nat) : Int) by omega),hg,go_sem,simprocAttr]
  refine W_calld (isOf_tri o job) rfl rfl rfl rfl ?_; simp only [go_sem,simprocAttr]
  cases hb : isOfB o job with
  | false =>
    rw [hb, if_neg (by decide), List.append_nil] at hst
    simp only [go_sem,simprocAttr]
    refine W_lpI (k + 1) ?_ ?_ (by omega) (by omega)
    · simp only [go_sem,simprocAttr]
    · simp only [ofS,boxTT,opsT,hst,wrap_succ (show k < 9223372036854775807 by omega),go_sem,simprocAttr]
  | true =>
    rw [hb, if_pos rfl] at hst
    simp only [ofR,List.length_append,hbd,wrap_in (show -9223372036854775808 ≤ age + (k : Int) by omega) (by omega),go_sem,simprocAttr]
    refine W_lpI (k + 1) ?_ ?_ (by omega) (by omega)
    · simp only [go_sem,simprocAttr]
    · simp only [ofS,boxTT,opsT,hst,ofR,List.map_append,List.length_append,wrap_succ (show k < 9223372036854775807 by omega),go_sem,simprocAttr]
theorem copyT9_tri (s : StateD) (hn : s.nodes.length ≤ 1000) (hj : s.jobs.length ≤ 1000) : Tri Tryz.prog G 65 [stateV s] [] (stateV s) [] := by
  refine tri_W Tryz.func65 (by decide) irOk65 (Nat.le_of_ble_eq_true rfl) ?_
  have h1 : s.nodes.length * 24 ≤ 70368744177664 := by omega
  have h2 : s.jobs.length * 96 ≤ 70368744177664 := by omega
  simp only [ir65,h1,h2,go_sem,simprocAttr]
  exact BackZ [3, 4] rfl (by simp [St.obj,objL]) (by simp [St.obj,objL,oneOr,St.get,getE,argR,argRs,rowsAt,LV.int,List.take_of_length_le])
def at26S (c : ConfD) (age : Int) (s : StateD) (l : List OpD) (k : Int) (i : Nat) : St := ⟨[(2, .int k), (3, .ptr 0 0), (4, .ptr 1 0), (6, .ptr 2 0), (7, .bool false), (8, .ptr 3 0), (9, .int i)], [some (boxCT c), some (boxTT age s l), some (.box 30 zcST), some (boxST (stN c s l i))]⟩
theorem at26_tri (c : ConfD) (age : Int) (s : StateD) (l : List OpD) (k : Int) (hr : RightP c s) (ha : 0 ≤ age ∧ age ≤ 1000000) (hl : l.length ≤ 100) :
    Tri Tryz.prog G 19 [confV c, trailV age s l, .int k] [] (atV c age s l k) [] := by
  have hn : s.nodes.length ≤ 1000 := by have := hr.len; omega
  have hj : s.jobs.length ≤ 1000 := by have := hr.jobs; omega
  refine tri_W0 Tryz.func19 (by decide) irOk19 (Nat.le_of_ble_eq_true rfl) (by unfold atV; split <;> rfl) ?_
  have w0 : IntKind.i64.wrap (age + (l.length : Int)) = age + (l.length : Int) := wrap_in (by omega) (by omega)
  simp only [ir19,trailV,opsT,w0,go_sem,simprocAttr]
  by_cases h1 : k < age
  · simp only [atV,zstV,decide_eq_true h1,if_neg (show ¬ (age ≤ k ∧ k ≤ age + (l.length : Int)) by omega),go_sem,simprocAttr]
  by_cases h2 : k > age + (l.length : Int)
  · simp only [atV,zstV,decide_eq_false h1,w0,decide_eq_true h2,if_neg (show ¬ (age ≤ k ∧ k ≤ age + (l.length : Int)) by omega),go_sem,simprocAttr]
  simp only [decide_eq_false h1,w0,decide_eq_false h2,go_sem,simprocAttr]
  refine W_calld (copyT9_tri s hn hj) rfl rfl rfl rfl ?_; simp only [go_sem,simprocAttr]
  have hk : (k - age).toNat ≤ l.length := by omega
  have hka : ((k - age).toNat : Int) = k - age := by omega
  refine W_loopI [2, 3, 4, 6, 7, 8, 9] [] (fun i : Nat => i ≤ (k - age).toNat) (fun i => (k - age).toNat - i) (at26S c age s l k) 0 ?_ (Nat.zero_le _) (fun i hi => ?_)
  · simp only [at26S,boxCT,boxTT,boxST,cellsST,zcST,opsT,stN,Int.natCast_zero,go_sem,simprocAttr]
  simp only [at26S,boxCT,boxTT,boxST,cellsST,zcST,opsT,wrap_in (show -9223372036854775808 ≤ k - age by omega) (by omega),go_sem,simprocAttr]
  by_cases hlt : i < (k - age).toNat
  case neg =>
    obtain rfl : i = (k - age).toNat := by omega
    simp only [atV,decide_eq_false (show ¬ (((k - age).toNat : Nat) : Int) < k - age by omega),if_pos (show age ≤ k ∧ k ≤ age + (l.length : Int) by omega),go_sem,simprocAttr]
  have hg := get_mapD (f := opR) zeroOp (show i < l.length by omega)
  have hst : stN c s l (i + 1) = (applyD c (stN c s l i) (l.getD i zeroOp)).1 := rfl
  have hri := stN_right hr l i
  generalize l.getD i zeroOp = o at *
  simp only [opR] at hg
  rw [apply_ref hri] at hst
  simp only [decide_eq_true (show ((i : Nat) : Int) < k - age by omega),hg,go_sem,simprocAttr]
  refine WD_calld (apply9_tri c (stN c s l i) o hri) rfl rfl rfl rfl ?_; simp only [go_sem,simprocAttr]
  refine W_opsD_end rfl ?_
  rw [← hst]
  simp only [go_sem,simprocAttr]
  refine W_lpI (i + 1) ?_ ?_ (by omega) (by omega)
  · simp only [go_sem,simprocAttr]
  · simp only [at26S,boxCT,boxTT,boxST,cellsST,zcST,opsT,wrap_succ (show i < 9223372036854775807 by omega),go_sem,simprocAttr]
def of26S (age : Int) (s : StateD) (l : List OpD) (job : Int) (k : Nat) : St := ⟨[(1, .int job), (2, .ptr 0 0), (5, .sl 1 (ofTo age l job k).length 1 0 (ofTo age l job k).length), (6, .int k)], [some (boxTT age s l), some (.dat 3 1 (ofR (ofTo age l job k)))]⟩
theorem of26_tri (age : Int) (s : StateD) (l : List OpD) (job : Int) (ha : 0 ≤ age ∧ age ≤ 1000000) (hl : l.length ≤ 100) : Tri Tryz.prog G 23 [trailV age s l, .int job] [] (.d (.lst 1 (ofR (ofTo age l job l.length)))) [] := by
  refine tri_W Tryz.func23 (by decide) irOk23 (Nat.le_of_ble_eq_true rfl) ?_
  simp only [ir23,trailV,opsT,go_sem,simprocAttr]
  refine W_loopI [1, 2, 5, 6] [.t 5 3 1] (fun k : Nat => k ≤ l.length) (fun k => l.length - k) (of26S age s l job) 0 ?_ (Nat.zero_le _) (fun k hk => ?_)
  · simp only [of26S,boxTT,opsT,ofTo,ofR,Int.natCast_zero,go_sem,simprocAttr]
  simp only [of26S,boxTT,opsT,go_sem,simprocAttr]
  by_cases hlt : k < l.length
  case neg =>
    obtain rfl : k = l.length := by omega
    simp only [decide_eq_false (show ¬ ((l.length : Nat) : Int) < ((l.length : Nat) : Int) by omega),go_sem,simprocAttr]
    exact BackZ [1] rfl (by simp [St.obj,objL]) (by simp [St.obj,objL,oneOr,St.get,getE,argR,rowsAt,ofR,List.take_of_length_le])
  have hg := get_mapD (f := opR) zeroOp hlt
  have hst : ofTo age l job (k + 1) = ofTo age l job k ++ if isOfB (l.getD k zeroOp) job = true then [age + k] else [] := rfl
  have hlen := ofTo_len age l job k
  have hbd : ((ofTo age l job k).length + 1) * 8 ≤ 70368744177664 := by omega
  generalize l.getD k zeroOp = o at *
  simp only [opR] at hg
  simp only [decide_eq_true (show ((k : Nat) : Int) < ((l.length : Nat) : Int) by omega),hg,go_sem,simprocAttr]
  have hno : isOfB o job = false → ofTo age l job (k + 1) = ofTo age l job k := fun h => by rw [hst, h, if_neg (by decide), List.append_nil]
  have hys : isOfB o job = true → ofTo age l job (k + 1) = ofTo age l job k ++ [age + (k : Int)] := fun h => by rw [hst, h, if_pos rfl]
  clear hst
  by_cases hk2 : o.kind = 2 ∨ o.kind = 9 ∨ o.kind = 10 ∨ o.kind = 11 ∨ o.kind = 12 ∨ o.kind = 13 ∨ o.kind = 14 ∨ o.kind = 15 ∨ o.kind = 20
  case neg =>
    have e : isOfB o job = false := by unfold isOfB; simp only [not_or] at hk2; simp [hk2]
    simp only [not_or] at hk2
    simp only [beq_eq_false_iff_ne.2 hk2.1,beq_eq_false_iff_ne.2 hk2.2.1,beq_eq_false_iff_ne.2 hk2.2.2.1,beq_eq_false_iff_ne.2 hk2.2.2.2.1,beq_eq_false_iff_ne.2 hk2.2.2.2.2.1,beq_eq_false_iff_ne.2 hk2.2.2.2.2.2.1,beq_eq_false_iff_ne.2 hk2.2.2.2.2.2.2.1,beq_eq_false_iff_ne.2 hk2.2.2.2.2.2.2.2.1,beq_eq_false_iff_ne.2 hk2.2.2.2.2.2.2.2.2,go_sem,simprocAttr]
    refine W_lpI (k + 1) ?_ ?_ (by omega) (by omega)
    · simp only [go_sem,simprocAttr]
    · simp only [of26S,boxTT,opsT,hno e,wrap_succ (show k < 9223372036854775807 by omega),go_sem,simprocAttr]
  have hkb : isOfB o job = (o.a == job) := by
    unfold isOfB
    rcases hk2 with h | h | h | h | h | h | h | h | h <;> simp [h]
  rw [hkb] at hno hys
  rcases hk2 with h | h | h | h | h | h | h | h | h <;> simp only [h,hg,go_sem,simprocAttr]
  all_goals
    cases hb : o.a == job with
    | false =>
      simp only [go_sem,simprocAttr]
      refine W_lpI (k + 1) ?_ ?_ (by omega) (by omega)
      · simp only [go_sem,simprocAttr]
      · simp only [of26S,boxTT,opsT,hno hb,wrap_succ (show k < 9223372036854775807 by omega),go_sem,simprocAttr]
    | true =>
      simp only [ofR,List.length_append,hbd,wrap_in (show -9223372036854775808 ≤ age + (k : Int) by omega) (by omega),go_sem,simprocAttr]
      refine W_lpI (k + 1) ?_ ?_ (by omega) (by omega)
      · simp only [go_sem,simprocAttr]
      · simp only [of26S,boxTT,opsT,hys hb,ofR,List.map_append,List.length_append,wrap_succ (show k < 9223372036854775807 by omega),go_sem,simprocAttr]
end Dv
