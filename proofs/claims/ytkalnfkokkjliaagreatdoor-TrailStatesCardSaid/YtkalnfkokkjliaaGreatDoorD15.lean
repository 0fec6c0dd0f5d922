/- The document's book: its small functions; the first state. -/
import Derived.Test.YtkalnfkokkjliaaGreatDoorDA
set_option linter.unusedVariables false
set_option linter.unusedSimpArgs false
namespace Dv
open Go Go.Proofs
variable {G : Nat → Option (List DV)}

def ir14 : Nat × C × List RV := (87,
(.seq (.reg [qo 1 (.box 23 (.t 0)),
 qo 2 (.mv qf)])
 (.seq (.seq (.reg [qo 3 (.fad 0 (.t 1)),
 qo 4 (.ld1 (.t 3)),
 qo 5 (.bin .lss (.t 4) (qk 1)),
 qm 6 5,
 qg 7 (.fad 0 (.t 1)) 6 false,
 qg 8 (.ld1 (.t 7)) 6 false,
 qg 9 (.bin .gtr (.t 8) (qk 6)) 6 false,
 qo 10 (.pick (.t 6) qt (.t 9)),
 qm 11 10,
 qg 12 (.fad 1 (.t 1)) 11 false,
 qg 13 (.ld1 (.t 12)) 11 false,
 qg 14 (.bin .lss (.t 13) (qk 1)) 11 false,
 qo 15 (.pick (.t 11) qt (.t 14)),
 qm 16 15,
 qg 17 (.fad 1 (.t 1)) 16 false,
 qg 18 (.ld1 (.t 17)) 16 false,
 qg 19 (.bin .gtr (.t 18) (qk 3)) 16 false,
 qo 20 (.pick (.t 16) qt (.t 19)),
 qm 21 20,
 qg 22 (.fad 2 (.t 1)) 21 false,
 qg 23 (.ld1 (.t 22)) 21 false,
 qg 24 (.bin .lss (.t 23) (qk 0)) 21 false,
 qo 25 (.pick (.t 21) qt (.t 24)),
 qm 26 25,
 qg 27 (.fad 2 (.t 1)) 26 false,
 qg 28 (.ld1 (.t 27)) 26 false,
 qg 29 (.bin .gtr (.t 28) (qk 4)) 26 false,
 qo 30 (.pick (.t 26) qt (.t 29)),
 qm 31 30,
 qg 32 (.fad 3 (.t 1)) 31 false,
 qg 33 (.ld1 (.t 32)) 31 false,
 qg 34 (.bin .lss (.t 33) (qk 1)) 31 false,
 qo 35 (.pick (.t 31) qt (.t 34)),
 qm 36 35,
 qg 37 (.fad 3 (.t 1)) 36 false,
 qg 38 (.ld1 (.t 37)) 36 false,
 qg 39 (.bin .gtr (.t 38) (qk 6)) 36 false,
 qo 40 (.pick (.t 36) qt (.t 39))])
 (.cond (.t 40) (.seq (.reg [qo 2 (.mv qf)])
 .ret)
 .skip))
 (.seq (.seq (.reg [qo 41 (.fad 4 (.t 1)),
 qo 42 (.ld1 (.t 41)),
 qo 43 (.bin .lss (.t 42) (qk 2)),
 qm 44 43,
 qg 45 (.fad 4 (.t 1)) 44 false,
 qg 46 (.ld1 (.t 45)) 44 false,
 qg 47 (.bin .gtr (.t 46) (qk 30)) 44 false,
 qo 48 (.pick (.t 44) qt (.t 47)),
 qm 49 48,
 qg 50 (.fad 5 (.t 1)) 49 false,
 qg 51 (.ld1 (.t 50)) 49 false,
 qg 52 (.bin .lss (.t 51) (qk 1)) 49 false,
 qo 53 (.pick (.t 49) qt (.t 52)),
 qm 54 53,
 qg 55 (.fad 5 (.t 1)) 54 false,
 qg 56 (.ld1 (.t 55)) 54 false,
 qg 57 (.bin .gtr (.t 56) (qk 20)) 54 false,
 qo 58 (.pick (.t 54) qt (.t 57)),
 qm 59 58,
 qg 60 (.fad 6 (.t 1)) 59 false,
 qg 61 (.ld1 (.t 60)) 59 false,
 qg 62 (.bin .lss (.t 61) (qk 1)) 59 false,
 qo 63 (.pick (.t 59) qt (.t 62)),
 qm 64 63,
 qg 65 (.fad 6 (.t 1)) 64 false,
 qg 66 (.ld1 (.t 65)) 64 false,
 qg 67 (.bin .gtr (.t 66) (qk 60)) 64 false,
 qo 68 (.pick (.t 64) qt (.t 67))])
 (.cond (.t 68) (.seq (.reg [qo 2 (.mv qf)])
 .ret)
 .skip))
 (.seq (.reg [qo 69 (.fad 7 (.t 1)),
 qo 70 (.ld1 (.t 69)),
 qo 71 (.bin .geq (.t 70) (qk 0)),
 qm 72 71,
 qg 73 (.fad 7 (.t 1)) 72 true,
 qg 74 (.ld1 (.t 73)) 72 true,
 qg 75 (.bin .leq (.t 74) (qk 5000)) 72 true,
 qo 76 (.pick (.t 72) (.t 75) qf),
 qm 77 76,
 qg 78 (.fad 8 (.t 1)) 77 true,
 qg 79 (.ld1 (.t 78)) 77 true,
 qg 80 (.bin .geq (.t 79) (qk 2000)) 77 true,
 qo 81 (.pick (.t 77) (.t 80) qf),
 qm 82 81,
 qg 83 (.fad 8 (.t 1)) 82 true,
 qg 84 (.ld1 (.t 83)) 82 true,
 qg 85 (.bin .leq (.t 84) (qk 40000)) 82 true,
 qo 86 (.pick (.t 82) (.t 85) qf),
 qm 2 86])
 .ret)))),
[(.t 2)])
theorem irOk14 : convFn Tryz.prog Tryz.f14 = some ir14 := by kernel_rfl
def ir135 : Nat × C × List RV := (64,
(.seq (.reg [qo 2 (.box 23 (.t 0)),
 qo 3 (.box 119 (.t 1)),
 qo 4 (.mv qf)])
 (.seq (.reg [qo 5 (.fad 0 (.t 3)),
 qo 6 (.ld1 (.t 5)),
 qo 7 (.bin .geq (.t 6) (qk 0)),
 qm 8 7,
 qg 9 (.fad 0 (.t 3)) 8 true,
 qg 10 (.ld1 (.t 9)) 8 true,
 qg 11 (.fad 1 (.t 2)) 8 true,
 qg 12 (.ld1 (.t 11)) 8 true,
 qg 13 (.bin .lss (.t 10) (.t 12)) 8 true,
 qo 14 (.pick (.t 8) (.t 13) qf),
 qm 15 14,
 qg 16 (.fad 1 (.t 3)) 15 true,
 qg 17 (.ld1 (.t 16)) 15 true,
 qg 18 (.bin .geq (.t 17) (qk 0)) 15 true,
 qo 19 (.pick (.t 15) (.t 18) qf),
 qm 20 19,
 qg 21 (.fad 1 (.t 3)) 20 true,
 qg 22 (.ld1 (.t 21)) 20 true,
 qg 23 (.bin .leq (.t 22) (qk 9)) 20 true,
 qo 24 (.pick (.t 20) (.t 23) qf),
 qm 25 24,
 qg 26 (.fad 2 (.t 3)) 25 true,
 qg 27 (.ld1 (.t 26)) 25 true,
 qg 28 (.bin .geq (.t 27) (qk 1)) 25 true,
 qo 29 (.pick (.t 25) (.t 28) qf),
 qm 30 29,
 qg 31 (.fad 2 (.t 3)) 30 true,
 qg 32 (.ld1 (.t 31)) 30 true,
 qg 33 (.fad 3 (.t 3)) 30 true,
 qg 34 (.ld1 (.t 33)) 30 true,
 qg 35 (.bin .leq (.t 32) (.t 34)) 30 true,
 qo 36 (.pick (.t 30) (.t 35) qf),
 qm 37 36,
 qg 38 (.fad 3 (.t 3)) 37 true,
 qg 39 (.ld1 (.t 38)) 37 true,
 qg 40 (.fad 0 (.t 2)) 37 true,
 qg 41 (.ld1 (.t 40)) 37 true,
 qg 42 (.bin .leq (.t 39) (.t 41)) 37 true,
 qo 43 (.pick (.t 37) (.t 42) qf),
 qm 44 43,
 qg 45 (.fad 4 (.t 3)) 44 true,
 qg 46 (.ld1 (.t 45)) 44 true,
 qg 47 (.bin .geq (.t 46) (qk 1)) 44 true,
 qo 48 (.pick (.t 44) (.t 47) qf),
 qm 49 48,
 qg 50 (.fad 4 (.t 3)) 49 true,
 qg 51 (.ld1 (.t 50)) 49 true,
 qg 52 (.bin .leq (.t 51) (qk 1000)) 49 true,
 qo 53 (.pick (.t 49) (.t 52) qf),
 qm 54 53,
 qg 55 (.fad 5 (.t 3)) 54 true,
 qg 56 (.ld1 (.t 55)) 54 true,
 qg 57 (.bin .geq (.t 56) (qk 0)) 54 true,
 qo 58 (.pick (.t 54) (.t 57) qf),
 qm 59 58,
 qg 60 (.fad 5 (.t 3)) 59 true,
 qg 61 (.ld1 (.t 60)) 59 true,
 qg 62 (.bin .leq (.t 61) (qk 9)) 59 true,
 qo 63 (.pick (.t 59) (.t 62) qf),
 qm 4 63])
 .ret)),
[(.t 4)])
theorem irOk135 : convFn Tryz.prog Tryz.f135 = some ir135 := by kernel_rfl
def ir69 : Nat × C × List RV := (11,
(.seq (.reg [qo 4 (.mv qf)])
 (.seq (.reg [qm 5 0,
 qm 6 1,
 qo 7 (.cvt .u64 (.t 6)),
 qo 8 (.bin .shr (.t 5) (.t 7)),
 qo 9 (.bin .and (.t 8) (qk 1)),
 qo 10 (.bin .eql (.t 9) (qk 1)),
 qm 4 10])
 .ret)),
[(.t 4)])
theorem irOk69 : convFn Tryz.prog Tryz.f69 = some ir69 := by kernel_rfl
def ir139 : Nat × C × List RV := (15,
(.seq (.reg [qo 2 (.mv (qk 0))])
 (.seq (.reg [qo 3 (.mv (qk 0))])
 (.seq (.seq (.reg [qo 4 (.mv (qk 0))])
 (.block 0 (.loop (.seq (.seq (.reg [qm 5 4,
 qo 6 (.bin .lss (.t 5) (qk 6))])
 (.cond (.t 6) .skip
 (.exit 0)))
 (.seq (.block 1 (.seq (.reg [qm 9 0,
 qm 10 4,
 qo 11 (.call (.f 69) [(.t 9),(.t 10)])])
 (.cond (.t 11) (.reg [qm 12 3,
 qo 13 (.bin .add (.t 12) (qk 1)),
 qm 3 13])
 .skip)))
 (.reg [qm 7 4,
 qo 8 (.bin .add (.t 7) (qk 1)),
 qm 4 8]))))))
 (.seq (.reg [qm 14 3,
 qm 2 14])
 .ret)))),
[(.t 2)])
theorem irOk139 : convFn Tryz.prog Tryz.f139 = some ir139 := by kernel_rfl
def ir68 : Nat × C × List RV := (10,
(.seq (.reg [qo 1 (.box 30 (.t 0)),
 qo 2 (.mv (qk 0))])
 (.seq (.seq (.reg [qo 3 (.fad 4 (.t 1)),
 qo 4 (.ld1 (.t 3)),
 qo 5 (.bin .eql (.t 4) (qk 2))])
 (.cond (.t 5) (.seq (.reg [qo 6 (.fad 3 (.t 1)),
 qo 7 (.ld1 (.t 6)),
 qm 2 7])
 .ret)
 .skip))
 (.seq (.reg [qo 8 (.fad 2 (.t 1)),
 qo 9 (.ld1 (.t 8)),
 qm 2 9])
 .ret))),
[(.t 2)])
theorem irOk68 : convFn Tryz.prog Tryz.f68 = some ir68 := by kernel_rfl
def ir138 : Nat × C × List RV := (34,
(.seq (.reg [qo 2 (.box 30 (.t 0)),
 qo 4 (.mv (qk 0))])
 (.seq (.reg [qo 5 (.mv (qk 0))])
 (.seq (.seq (.reg [qo 6 (.mv (qk 0))])
 (.block 0 (.loop (.seq (.seq (.reg [qm 7 6,
 qo 8 (.fad 1 (.t 2)),
 qo 9 (.ld1 (.t 8)),
 qo 10 (.len (.t 9)),
 qo 11 (.bin .lss (.t 7) (.t 10))])
 (.cond (.t 11) .skip
 (.exit 0)))
 (.seq (.block 1 (.seq (.reg [qo 14 (.fad 1 (.t 2)),
 qo 15 (.ld1 (.t 14)),
 qm 16 6,
 qo 17 (.ixa 12 (.t 15) (.t 16)),
 qo 18 (.fad 6 (.t 17)),
 qo 19 (.ld1 (.t 18)),
 qo 20 (.bin .eql (.t 19) (qk 3)),
 qm 21 20,
 qg 22 (.fad 1 (.t 2)) 21 true,
 qg 23 (.ld1 (.t 22)) 21 true,
 qg 24 (.mv (.t 6)) 21 true,
 qg 25 (.ixa 12 (.t 23) (.t 24)) 21 true,
 qg 26 (.fad 0 (.t 25)) 21 true,
 qg 27 (.ld1 (.t 26)) 21 true,
 qg 28 (.mv (.t 1)) 21 true,
 qg 29 (.bin .eql (.t 27) (.t 28)) 21 true,
 qo 30 (.pick (.t 21) (.t 29) qf)])
 (.cond (.t 30) (.reg [qm 31 5,
 qo 32 (.bin .add (.t 31) (qk 1)),
 qm 5 32])
 .skip)))
 (.reg [qm 12 6,
 qo 13 (.bin .add (.t 12) (qk 1)),
 qm 6 13]))))))
 (.seq (.reg [qm 33 5,
 qm 4 33])
 .ret)))),
[(.t 4)])
theorem irOk138 : convFn Tryz.prog Tryz.f138 = some ir138 := by kernel_rfl
def ir137 : Nat × C × List RV := (9,
(.seq (.reg [qo 1 (.box 102 (.t 0)),
 qo 2 (.mv qf)])
 (.seq (.reg [qo 4 (.ldn 5 (.t 1)),
 qo 3 (.new 102 [(.val (.bool false)),(.val (.bool false)),(.val (.bool false)),q0,q0]),
 qn (.st 5 (.t 3) (.t 4))])
 (.seq (.reg [qo 5 (.fad 3 (.t 3)),
 qn (.st 1 (.t 5) (qk 0))])
 (.seq (.reg [qo 6 (.ldn 5 (.t 3)),
 qo 7 (.build [(.val (.bool false)),(.val (.bool false)),(.val (.bool false)),q0,q0] [(0,1,qt)]),
 qo 8 (.eqs false [1,1,1,0,0] (.t 6) (.t 7)),
 qm 2 8])
 .ret)))),
[(.t 2)])
theorem irOk137 : convFn Tryz.prog Tryz.f137 = some ir137 := by kernel_rfl
def ir15 : Nat × C × List RV := (21,
(.seq (.reg [qo 1 (.box 23 (.t 0)),
 qo 2 (.new 30 [(.val (.slice none 0 0)),(.val (.slice none 0 0)),q0,q0,q0,q0])])
 (.seq (.seq (.reg [qo 4 (.ldn 9 (.t 1)),
 qo 5 (.call (.f 64) [(.t 4)]),
 qo 6 (.not (.t 5))])
 (.cond (.t 6) (.seq (.reg [qo 7 (.build [(.val (.slice none 0 0)),(.val (.slice none 0 0)),q0,q0,q0,q0] []),
 qn (.st 6 (.t 2) (.t 7))])
 .ret)
 .skip))
 (.seq (.reg [qo 8 (.build [(.val (.slice none 0 0)),(.val (.slice none 0 0)),q0,q0,q0,q0] [(2,1,(qk 1)),(3,1,(qk 1))]),
 qo 3 (.new 30 [(.val (.slice none 0 0)),(.val (.slice none 0 0)),q0,q0,q0,q0]),
 qn (.st 6 (.t 3) (.t 8))])
 (.seq (.seq (.reg [qo 9 (.fad 0 (.t 1)),
 qo 10 (.ld1 (.t 9)),
 qo 11 (.mv (qk 0))])
 (.block 0 (.loop (.seq (.reg [qo 12 (.bin .lss (.t 11) (.t 10))])
 (.seq (.cond (.t 12) .skip
 (.exit 0))
 (.seq (.block 1 (.reg [qo 13 (.fad 0 (.t 3)),
 qo 14 (.ld1 (.t 13)),
 qo 15 (.build [(.val (.bool false)),(.val (.bool false)),(.val (.bool false)),q0,q0] [(0,1,qt),(3,1,(qk 1))]),
 qo 16 (.bsl 102 5 [(.t 15)]),
 qo 17 (.app 102 5 24 (.t 14) (.t 16)),
 qo 18 (.fad 0 (.t 3)),
 qn (.st 1 (.t 18) (.t 17))]))
 (.reg [qo 19 (.bin .add (.t 11) (qk 1)),
 qm 11 19])))))))
 (.seq (.reg [qo 20 (.ldn 6 (.t 3)),
 qn (.st 6 (.t 2) (.t 20))])
 .ret))))),
[(.cn 2 6)])
theorem irOk15 : convFn Tryz.prog Tryz.f15 = some ir15 := by kernel_rfl
def ir16 : Nat × C × List RV := (24,
(.seq (.reg [qo 1 (.box 23 (.t 0)),
 qo 2 (.new 30 [(.val (.slice none 0 0)),(.val (.slice none 0 0)),q0,q0,q0,q0])])
 (.seq (.reg [qo 3 (.new 30 [(.val (.slice none 0 0)),(.val (.slice none 0 0)),q0,q0,q0,q0])])
 (.seq (.seq (.reg [qo 5 (.ldn 9 (.t 1)),
 qo 6 (.call (.f 14) [(.t 5)]),
 qo 7 (.not (.t 6))])
 (.cond (.t 7) (.seq (.reg [qo 8 (.ldn 6 (.t 3)),
 qn (.st 6 (.t 2) (.t 8))])
 .ret)
 .skip))
 (.seq (.seq (.reg [qo 4 (.mv (qk 0))])
 (.block 0 (.loop (.seq (.seq (.reg [qm 9 4,
 qo 10 (.fad 0 (.t 1)),
 qo 11 (.ld1 (.t 10)),
 qo 12 (.bin .lss (.t 9) (.t 11))])
 (.cond (.t 12) .skip
 (.exit 0)))
 (.seq (.block 1 (.reg [qo 15 (.fad 0 (.t 3)),
 qo 16 (.ld1 (.t 15)),
 qo 17 (.build [(.val (.bool false)),(.val (.bool false)),(.val (.bool false)),q0,q0] [(0,1,qt),(3,1,(qk 1))]),
 qo 18 (.bsl 102 5 [(.t 17)]),
 qo 19 (.app 102 5 24 (.t 16) (.t 18)),
 qo 20 (.fad 0 (.t 3)),
 qn (.st 1 (.t 20) (.t 19))]))
 (.reg [qm 13 4,
 qo 14 (.bin .add (.t 13) (qk 1)),
 qm 4 14]))))))
 (.seq (.reg [qo 21 (.fad 2 (.t 3)),
 qn (.st 1 (.t 21) (qk 1))])
 (.seq (.reg [qo 22 (.fad 3 (.t 3)),
 qn (.st 1 (.t 22) (qk 1))])
 (.seq (.reg [qo 23 (.ldn 6 (.t 3)),
 qn (.st 6 (.t 2) (.t 23))])
 .ret))))))),
[(.cn 2 6)])
theorem irOk16 : convFn Tryz.prog Tryz.f16 = some ir16 := by kernel_rfl
def ir65 : Nat × C × List RV := (16,
(.seq (.reg [qo 1 (.box 30 (.t 0)),
 qo 2 (.new 30 [(.val (.slice none 0 0)),(.val (.slice none 0 0)),q0,q0,q0,q0])])
 (.seq (.reg [qo 4 (.ldn 6 (.t 1)),
 qo 3 (.new 30 [(.val (.slice none 0 0)),(.val (.slice none 0 0)),q0,q0,q0,q0]),
 qn (.st 6 (.t 3) (.t 4))])
 (.seq (.reg [qo 5 (.bsl 102 5 []),
 qo 6 (.fad 0 (.t 1)),
 qo 7 (.ld1 (.t 6)),
 qo 8 (.app 102 5 24 (.t 5) (.t 7)),
 qo 9 (.fad 0 (.t 3)),
 qn (.st 1 (.t 9) (.t 8))])
 (.seq (.reg [qo 10 (.bsl 119 12 []),
 qo 11 (.fad 1 (.t 1)),
 qo 12 (.ld1 (.t 11)),
 qo 13 (.app 119 12 96 (.t 10) (.t 12)),
 qo 14 (.fad 1 (.t 3)),
 qn (.st 1 (.t 14) (.t 13))])
 (.seq (.reg [qo 15 (.ldn 6 (.t 3)),
 qn (.st 6 (.t 2) (.t 15))])
 .ret))))),
[(.cn 2 6)])
theorem irOk65 : convFn Tryz.prog Tryz.f65 = some ir65 := by kernel_rfl


theorem mayB_dec (c : ConfD) : mayB c = decide (1 ≤ c.nodes ∧ c.nodes ≤ 6 ∧ 1 ≤ c.queues ∧ c.queues ≤ 3 ∧ 0 ≤ c.quota ∧ c.quota ≤ 4 ∧ 1 ≤ c.wave ∧ c.wave ≤ 6 ∧ 2 ≤ c.lease ∧ c.lease ≤ 30 ∧ 1 ≤ c.retry ∧ c.retry ≤ 20 ∧ 1 ≤ c.deadline ∧ c.deadline ≤ 60 ∧ 0 ≤ c.room ∧ c.room ≤ 5000 ∧ 2000 ≤ c.disk ∧ c.disk ≤ 40000) := by
  rw [Bool.eq_iff_iff]
  simp only [mayB,withinB,Bool.and_eq_true,decide_eq_true_eq,and_assoc]
theorem askedB_dec (c : ConfD) (j : JobD) : askedB c j = decide (0 ≤ j.queue ∧ j.queue < c.queues ∧ 0 ≤ j.prio ∧ j.prio ≤ 9 ∧ 1 ≤ j.min ∧ j.min ≤ j.max ∧ j.max ≤ c.nodes ∧ 1 ≤ j.work ∧ j.work ≤ 1000 ∧ 0 ≤ j.pin ∧ j.pin ≤ 9) := by
  rw [Bool.eq_iff_iff]
  simp only [askedB,withinB,Bool.and_eq_true,decide_eq_true_eq,and_assoc]
  omega
theorem may9_tri (c : ConfD) : Tri Tryz.prog G 14 [confV c] [] (.bool (mayB c)) [] := by
  refine tri_W0 Tryz.func14 (by decide) irOk14 (Nat.le_of_ble_eq_true rfl) rfl ?_
  simp only [ir14,go_sem,simprocAttr]
  rw [mayB_dec]
  repeat' (first | ((first | with_reducible refine WG_splitn (fun h => ?_) (fun h => ?_) | refine WG_split (fun h => ?_) (fun h => ?_)) <;> simp only [h,go_sem,simprocAttr] <;> (try simp only [beq_iff_eq,beq_eq_false_iff_ne,bne_iff_ne,ne_eq,decide_eq_true_eq,decide_eq_false_iff_not,Bool.not_true,Bool.not_false,Bool.not_eq_true,Bool.not_eq_false,bne_eq_false_iff_eq,Decidable.not_not] at h)) | ((first | with_reducible refine WC_splitn (fun h => ?_) (fun h => ?_) | refine WC_split (fun h => ?_) (fun h => ?_)) <;> simp only [h,go_sem,simprocAttr] <;> (try simp only [beq_iff_eq,beq_eq_false_iff_ne,bne_iff_ne,ne_eq,decide_eq_true_eq,decide_eq_false_iff_not,Bool.not_true,Bool.not_false,Bool.not_eq_true,Bool.not_eq_false,bne_eq_false_iff_eq,Decidable.not_not] at h)))
  all_goals first | (symm; apply decide_eq_false; omega) | (symm; apply decide_eq_true; omega) | (rw [Bool.eq_iff_iff]; simp only [decide_eq_true_eq]; omega)
theorem asked9_tri (c : ConfD) (j : JobD) : Tri Tryz.prog G 135 [confV c, jobV j] [] (.bool (askedB c j)) [] := by
  refine tri_W0 Tryz.func135 (by decide) irOk135 (Nat.le_of_ble_eq_true rfl) rfl ?_
  simp only [ir135,go_sem,simprocAttr]
  rw [askedB_dec]
  repeat' (first | ((first | with_reducible refine WG_splitn (fun h => ?_) (fun h => ?_) | refine WG_split (fun h => ?_) (fun h => ?_)) <;> simp only [h,go_sem,simprocAttr] <;> (try simp only [beq_iff_eq,beq_eq_false_iff_ne,bne_iff_ne,ne_eq,decide_eq_true_eq,decide_eq_false_iff_not,Bool.not_true,Bool.not_false,Bool.not_eq_true,Bool.not_eq_false,bne_eq_false_iff_eq,Decidable.not_not] at h)) | ((first | with_reducible refine WC_splitn (fun h => ?_) (fun h => ?_) | refine WC_split (fun h => ?_) (fun h => ?_)) <;> simp only [h,go_sem,simprocAttr] <;> (try simp only [beq_iff_eq,beq_eq_false_iff_ne,bne_iff_ne,ne_eq,decide_eq_true_eq,decide_eq_false_iff_not,Bool.not_true,Bool.not_false,Bool.not_eq_true,Bool.not_eq_false,bne_eq_false_iff_eq,Decidable.not_not] at h)))
  all_goals first | (symm; apply decide_eq_false; omega) | (symm; apply decide_eq_true; omega) | (rw [Bool.eq_iff_iff]; simp only [decide_eq_true_eq]; omega)
theorem has9_tri (n : Int) (i : Nat) (hi : i < 64) : Tri Tryz.prog G 69 [.int n, .int i] [] (.bool (hasB n i)) [] := by
  refine tri_W0 Tryz.func69 (by decide) irOk69 (Nat.le_of_ble_eq_true rfl) rfl ?_
  simp only [ir69,go_sem,simprocAttr]
  have hw : IntKind.u64.wrap (i : Int) = i := by simp [IntKind.wrap,IntKind.bits,IntKind.signed]; omega
  simp only [hw,bit_eq n i hi,go_sem,simprocAttr]
def manyS (n : Int) (k : Nat) : St := ⟨[(0, .int n), (3, .int (manyTo n k)), (4, .int k)], []⟩
theorem many9_tri (n : Int) : Tri Tryz.prog G 139 [.int n] [] (.int (many n)) [] := by
  refine tri_W0 Tryz.func139 (by decide) irOk139 (Nat.le_of_ble_eq_true rfl) rfl ?_
  simp only [ir139,go_sem,simprocAttr]
  refine W_loopI [0, 3, 4] [] (fun k : Nat => k ≤ 6) (fun k => 6 - k) (manyS n) 0 ?_ (by omega) (fun k hk => ?_)
  · simp only [manyS,go_sem,simprocAttr,manyTo,Int.natCast_zero]
  simp only [manyS,go_sem,simprocAttr]
  refine WC_split (fun h => ?_) (fun h => ?_) <;> simp only [h,go_sem,simprocAttr] <;> (try simp only [beq_iff_eq,beq_eq_false_iff_ne,bne_iff_ne,ne_eq,decide_eq_true_eq,decide_eq_false_iff_not,Bool.not_true,Bool.not_false,Bool.not_eq_true,Bool.not_eq_false,bne_eq_false_iff_eq,Decidable.not_not] at h)
  · have hb := manyTo_le n k
    refine W_calld (has9_tri n k (by omega)) rfl rfl rfl rfl ?_; simp only [go_sem,simprocAttr]
    cases hh : hasB n k with
    | true =>
      have e : IntKind.i64.wrap (manyTo n k + 1) = manyTo n (k + 1) := by rw [wrap_in (by omega) (by omega)]; simp [manyTo,has01,hh]
      simp only [go_sem,simprocAttr]
      refine W_lpI (k + 1) ?_ ?_ (by omega) (by omega)
      · simp only [go_sem,simprocAttr]
      · simp only [manyS,go_sem,simprocAttr,wrap_succ (show k < 9223372036854775807 by omega),e]
    | false =>
      have e : manyTo n k = manyTo n (k + 1) := by simp [manyTo,has01,hh]
      simp only [go_sem,simprocAttr]
      refine W_lpI (k + 1) ?_ ?_ (by omega) (by omega)
      · simp only [go_sem,simprocAttr]
      · simp only [manyS,go_sem,simprocAttr,wrap_succ (show k < 9223372036854775807 by omega),e]
  · obtain rfl : k = 6 := by omega
    simp only [many,go_sem,simprocAttr]
theorem meant9_tri (s : StateD) : Tri Tryz.prog G 68 [stateV s] [] (.int (meant s)) [] := by
  refine tri_W0 Tryz.func68 (by decide) irOk68 (Nat.le_of_ble_eq_true rfl) rfl ?_
  simp only [ir68,go_sem,simprocAttr]
  unfold meant
  refine WC_split (fun h => ?_) (fun h => ?_) <;> simp only [h,go_sem,simprocAttr] <;> (try simp only [beq_iff_eq,beq_eq_false_iff_ne,bne_iff_ne,ne_eq,decide_eq_true_eq,decide_eq_false_iff_not,Bool.not_true,Bool.not_false,Bool.not_eq_true,Bool.not_eq_false,bne_eq_false_iff_eq,Decidable.not_not] at h)
  · rw [if_pos h]
  · rw [if_neg h]
def drains9S (s : StateD) (q : Int) (k : Nat) : St := ⟨[(1, .int q), (2, .ptr 0 0), (5, .int (drainsL (s.jobs.take k) q)), (6, .int k)], [some (.box 30 [nodesV s.nodes, jobsV s.jobs, .int s.goal, .int s.prior, .int s.mode, .int s.term])]⟩
theorem drains9_tri (s : StateD) (q : Int) (hn : s.jobs.length ≤ 9223372036854775806) : Tri Tryz.prog G 138 [stateV s, .int q] [] (.int (drainsL s.jobs q)) [] := by
  refine tri_W0 Tryz.func138 (by decide) irOk138 (Nat.le_of_ble_eq_true rfl) rfl ?_
  simp only [ir138,go_sem,simprocAttr]
  refine W_loopI [1, 2, 5, 6] [] (fun k : Nat => k ≤ s.jobs.length) (fun k => s.jobs.length - k) (drains9S s q) 0 ?_ (Nat.zero_le _) (fun k hk => ?_)
  · simp only [drains9S,go_sem,simprocAttr,List.take_zero,drainsL,List.filter_nil,Int.natCast_zero]
  simp only [drains9S,go_sem,simprocAttr]
  refine WC_split (fun h => ?_) (fun h => ?_)
  · have h := lt_of_dec h
    have hb := drainsL_le (s.jobs.take k) q
    rw [List.length_take] at hb
    have hs : s.jobs.take (k + 1) = s.jobs.take k ++ [s.jobs[k]] := by rw [List.take_succ_eq_append_getElem h]
    have hd := drainsL_snoc (s.jobs.take k) s.jobs[k] q
    simp only [get_map h,go_sem,simprocAttr]
    refine WG_split (fun h1 => ?_) (fun h1 => ?_) <;> simp only [h1,go_sem,simprocAttr] <;> (try simp only [beq_iff_eq,beq_eq_false_iff_ne,bne_iff_ne,ne_eq,decide_eq_true_eq,decide_eq_false_iff_not,Bool.not_true,Bool.not_false,Bool.not_eq_true,Bool.not_eq_false,bne_eq_false_iff_eq,Decidable.not_not] at h1)
    · simp only [get_map h,go_sem,simprocAttr]
      refine WC_split (fun h2 => ?_) (fun h2 => ?_) <;> simp only [h2,go_sem,simprocAttr] <;> (try simp only [beq_iff_eq,beq_eq_false_iff_ne,bne_iff_ne,ne_eq,decide_eq_true_eq,decide_eq_false_iff_not,Bool.not_true,Bool.not_false,Bool.not_eq_true,Bool.not_eq_false,bne_eq_false_iff_eq,Decidable.not_not] at h2)
      · refine W_lpI (k + 1) ?_ ?_ (by omega) (by omega)
        · simp only [go_sem,simprocAttr]
        · simp only [drains9S,go_sem,simprocAttr,wrap_succ (show k < 9223372036854775807 by omega),hs,hd,h1,h2,wrap_in (show -9223372036854775808 ≤ drainsL (s.jobs.take k) q + 1 by omega) (by omega)]
      · refine W_lpI (k + 1) ?_ ?_ (by omega) (by omega)
        · simp only [go_sem,simprocAttr]
        · simp only [drains9S,go_sem,simprocAttr,wrap_succ (show k < 9223372036854775807 by omega),hs,hd,h1,h2,false_and,and_false,Int.add_zero]
    · refine W_lpI (k + 1) ?_ ?_ (by omega) (by omega)
      · simp only [go_sem,simprocAttr]
      · simp only [drains9S,go_sem,simprocAttr,wrap_succ (show k < 9223372036854775807 by omega),hs,hd,h1,false_and,and_false,Int.add_zero]
  · obtain rfl := eq_of_dec h hk
    simp only [go_sem,simprocAttr,List.take_length]
theorem free9_tri (n : NodeD) : Tri Tryz.prog G 137 [nodeV n] [] (.bool (freeB n)) [] := by
  refine tri_W0 Tryz.func137 (by decide) irOk137 (Nat.le_of_ble_eq_true rfl) rfl ?_
  simp only [ir137,go_sem,simprocAttr]
  unfold freeB
  cases n.up <;> cases n.cordon <;> cases n.moving <;> rfl

def node1 : NodeD := ⟨true, false, false, 1, 0⟩
def newD (c : ConfD) : StateD := if mayB c = true then ⟨List.replicate c.nodes.toNat node1, [], 1, 1, 0, 0⟩ else zeroState
def newS (c : ConfD) (k : Nat) : St := ⟨[(1, .ptr 0 0), (2, .ptr 1 0), (3, .ptr 2 0), (10, .int c.nodes), (11, .int k)], [some (.box 23 [.int c.nodes, .int c.queues, .int c.quota, .int c.wave, .int c.lease, .int c.retry, .int c.deadline, .int c.room, .int c.disk]), some (.box 30 [.d (.val (.slice none 0 0)), .d (.val (.slice none 0 0)), .int 0, .int 0, .int 0, .int 0]), some (.box 30 [.sl 3 k 5 0 k, .d (.val (.slice none 0 0)), .int 1, .int 1, .int 0, .int 0]), some (.dat 102 5 ((List.replicate k node1).map nodeR))]⟩
theorem new_tri (c : ConfD) : Tri Tryz.prog G 15 [confV c] [] (stateV (newD c)) [] := by
  refine tri_W Tryz.func15 (by decide) irOk15 (Nat.le_of_ble_eq_true rfl) ?_
  simp only [ir15,go_sem,simprocAttr]
  refine W_calld (may_tri c) rfl rfl rfl rfl ?_; simp only [go_sem,simprocAttr]
  unfold newD
  cases hm : mayB c with
  | false =>
    simp only [go_sem,simprocAttr]
    exact BackZ [] rfl (by simp) (by simp [St.obj,objL,oneOr,St.get,getE,argR,argRs,rowsAt,zeroState,LV.int])
  | true =>
    have hc := mayB_nodes hm
    simp only [go_sem,simprocAttr]
    refine W_loopI [1, 2, 3, 10, 11] [.b 2 0 102 5] (fun k : Nat => (k : Int) ≤ c.nodes) (fun k => (c.nodes - k).toNat) (newS c) 0 ?_ (by omega) (fun k hk => ?_)
    · simp only [newS,go_sem,simprocAttr,List.replicate_zero,Int.natCast_zero]
    simp only [newS,go_sem,simprocAttr]
    refine WC_split (fun h => ?_) (fun h => ?_) <;> simp only [h,go_sem,simprocAttr] <;> (try simp only [beq_iff_eq,beq_eq_false_iff_ne,bne_iff_ne,ne_eq,decide_eq_true_eq,decide_eq_false_iff_not,Bool.not_true,Bool.not_false,Bool.not_eq_true,Bool.not_eq_false,bne_eq_false_iff_eq,Decidable.not_not] at h)
    · have hbd : (k + 1) * 24 ≤ 70368744177664 := by omega
      simp only [List.length_append,List.length_replicate,hbd,go_sem,simprocAttr]
      refine W_lpI (k + 1) ?_ ?_ (by omega) (by omega)
      · simp only [go_sem,simprocAttr]
      · simp only [newS,go_sem,simprocAttr,wrap_succ (show k < 9223372036854775807 by omega),List.replicate_succ',List.map_append]
        rfl
    · obtain rfl : k = c.nodes.toNat := by omega
      exact BackZ [3] rfl (by simp [St.obj,objL]) (by simp [St.obj,objL,oneOr,St.get,getE,argR,argRs,rowsAt,LV.int,List.take_of_length_le])
def new9S (c : ConfD) (k : Nat) : St := ⟨[(1, .ptr 0 0), (2, .ptr 1 0), (3, .ptr 2 0), (4, .int k)], [some (.box 23 [.int c.nodes, .int c.queues, .int c.quota, .int c.wave, .int c.lease, .int c.retry, .int c.deadline, .int c.room, .int c.disk]), some (.box 30 [.d (.val (.slice none 0 0)), .d (.val (.slice none 0 0)), .int 0, .int 0, .int 0, .int 0]), some (.box 30 [.sl 3 k 5 0 k, .d (.val (.slice none 0 0)), .int 0, .int 0, .int 0, .int 0]), some (.dat 102 5 ((List.replicate k node1).map nodeR))]⟩
theorem new9_tri (c : ConfD) : Tri Tryz.prog G 16 [confV c] [] (stateV (newD c)) [] := by
  refine tri_W Tryz.func16 (by decide) irOk16 (Nat.le_of_ble_eq_true rfl) ?_
  simp only [ir16,go_sem,simprocAttr]
  refine W_calld (may9_tri c) rfl rfl rfl rfl ?_; simp only [go_sem,simprocAttr]
  unfold newD
  cases hm : mayB c with
  | false =>
    simp only [go_sem,simprocAttr]
    exact BackZ [] rfl (by simp) (by simp [St.obj,objL,oneOr,St.get,getE,argR,argRs,rowsAt,zeroState,LV.int])
  | true =>
    have hc := mayB_nodes hm
    simp only [go_sem,simprocAttr]
    refine W_loopI [1, 2, 3, 4] [.b 2 0 102 5] (fun k : Nat => (k : Int) ≤ c.nodes) (fun k => (c.nodes - k).toNat) (new9S c) 0 ?_ (by omega) (fun k hk => ?_)
    · simp only [new9S,go_sem,simprocAttr,List.replicate_zero,Int.natCast_zero]
    simp only [new9S,go_sem,simprocAttr]
    refine WC_split (fun h => ?_) (fun h => ?_) <;> simp only [h,go_sem,simprocAttr] <;> (try simp only [beq_iff_eq,beq_eq_false_iff_ne,bne_iff_ne,ne_eq,decide_eq_true_eq,decide_eq_false_iff_not,Bool.not_true,Bool.not_false,Bool.not_eq_true,Bool.not_eq_false,bne_eq_false_iff_eq,Decidable.not_not] at h)
    · have hbd : (k + 1) * 24 ≤ 70368744177664 := by omega
      simp only [List.length_append,List.length_replicate,hbd,go_sem,simprocAttr]
      refine W_lpI (k + 1) ?_ ?_ (by omega) (by omega)
      · simp only [go_sem,simprocAttr]
      · simp only [new9S,go_sem,simprocAttr,wrap_succ (show k < 9223372036854775807 by omega),List.replicate_succ',List.map_append]
        rfl
    · obtain rfl : k = c.nodes.toNat := by omega
      exact BackZ [3] rfl (by simp [St.obj,objL]) (by simp [St.obj,objL,oneOr,St.get,getE,argR,argRs,rowsAt,LV.int,List.take_of_length_le])
theorem copy9_tri (s : StateD) (hn : s.nodes.length ≤ 1000) (hj : s.jobs.length ≤ 1000) : Tri Tryz.prog G 65 [stateV s] [] (.agg [.sl 0 s.nodes.length 5 0 s.nodes.length, .sl 1 s.jobs.length 12 0 s.jobs.length, .int s.goal, .int s.prior, .int s.mode, .int s.term]) [.dat 102 5 (s.nodes.map nodeR), .dat 119 12 (s.jobs.map jobR)] := by
  refine tri_W Tryz.func65 (by decide) irOk65 (Nat.le_of_ble_eq_true rfl) ?_
  have h1 : s.nodes.length * 24 ≤ 70368744177664 := by omega
  have h2 : s.jobs.length * 96 ≤ 70368744177664 := by omega
  simp only [ir65,h1,h2,go_sem,simprocAttr]
  refine BackR [] [3, 4] [] rfl rfl (by decide) (by simp) (by simp) rfl rfl ?_
  simp [oneOr,argR,argRs]
end Dv
