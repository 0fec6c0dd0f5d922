/- The document's book: its small functions; the first state. -/
import Derived.Test.YtkalnfkokkjliaaGreatDoorDA
set_option linter.unusedVariables false
set_option linter.unusedSimpArgs false
namespace Dv
open Go Go.Proofs
variable {G : Nat → Option (List DV)}

def ir14 : Nat × C × List RV := (87,
(.seq (.reg [qo 1 (.box 23 (.t 0)),
 qo 2 (.mv qf)])
 (.seq (.seq (.reg [qo 3 (.fad 0 (.t 1)),
 qo 4 (.ld1 (.t 3)),
 qo 5 (.bin .lss (.t 4) (qk 1)),
 qm 6 5,
 qg 7 (.fad 0 (.t 1)) 6 false,
 qg 8 (.ld1 (.t 7)) 6 false,
 qg 9 (.bin .gtr (.t 8) (qk 6)) 6 false,
 qo 10 (.pick (.t 6) qt (.t 9)),
 qm 11 10,
 qg 12 (.fad 1 (.t 1)) 11 false,
 qg 13 (.ld1 (.t 12)) 11 false,
 qg 14 (.bin .lss (.t 13) (qk 1)) 11 false,
 qo 15 (.pick (.t 11) qt (.t 14)),
 qm 16 15,
 qg 17 (.fad 1 (.t 1)) 16 false,
 qg 18 (.ld1 (.t 17)) 16 false,
 qg 19 (.bin .gtr (.t 18) (qk 3)) 16 false,
 qo 20 (.pick (.t 16) qt (.t 19)),
 qm 21 20,
 qg 22 (.fad 2 (.t 1)) 21 false,
 qg 23 (.ld1 (.t 22)) 21 false,
 qg 24 (.bin .lss (.t 23) (qk 0)) 21 false,
 qo 25 (.pick (.t 21) qt (.t 24)),
 qm 26 25,
 qg 27 (.fad 2 (.t 1)) 26 false,
 qg 28 (.ld1 (.t 27)) 26 false,
 qg 29 (.bin .gtr (.t 28) (qk 4)) 26 false,
 qo 30 (.pick (.t 26) qt (.t 29)),
 qm 31 30,
 qg 32 (.fad 3 (.t 1)) 31 false,
 qg 33 (.ld1 (.t 32)) 31 false,
 qg 34 (.bin .lss (.t 33) (qk 1)) 31 false,
 qo 35 (.pick (.t 31) qt (.t 34)),
 qm 36 35,
 qg 37 (.fad 3 (.t 1)) 36 false,
 qg 38 (.ld1 (.t 37)) 36 false,
 qg 39 (.bin .gtr (.t 38) (qk 6)) 36 false,
 qo 40 (.pick (.t 36) qt (.t 39))])
 (.cond (.t 40) (.seq (.reg [qo 2 (.mv qf)])
 .ret)
 .skip))
 (.seq (.seq (.reg [qo 41 (.fad 4 (.t 1)),
 qo 42 (.ld1 (.t 41)),
 qo 43 (.bin .lss (.t 42) (qk 2)),
 qm 44 43,
 qg 45 (.fad 4 (.t 1)) 44 false,
 qg 46 (.ld1 (.t 45)) 44 false,
 qg 47 (.bin .gtr (.t 46) (qk 30)) 44 false,
 qo 48 (.pick (.t 44) qt (.t 47)),
 qm 49 48,
 qg 50 (.fad 5 (.t 1)) 49 false,
 qg 51 (.ld1 (.t 50)) 49 false,
 qg 52 (.bin .lss (.t 51) (qk 1)) 49 false,
 qo 53 (.pick (.t 49) qt (.t 52)),
 qm 54 53,
 qg 55 (.fad 5 (.t 1)) 54 false,
 qg 56 (.ld1 (.t 55)) 54 false,
 qg 57 (.bin .gtr (.t 56) (qk 20)) 54 false,
 qo 58 (.pick (.t 54) qt (.t 57)),
 qm 59 58,
 qg 60 (.fad 6 (.t 1)) 59 false,
 qg 61 (.ld1 (.t 60)) 59 false,
 qg 62 (.bin .lss (.t 61) (qk 1)) 59 false,
 qo 63 (.pick (.t 59) qt (.t 62)),
 qm 64 63,
 qg 65 (.fad 6 (.t 1)) 64 false,
 qg 66 (.ld1 (.t 65)) 64 false,
 qg 67 (.bin .gtr (.t 66) (qk 60)) 64 false,
 qo 68 (.pick (.t 64) qt (.t 67))])
 (.cond (.t 68) (.seq (.reg [qo 2 (.mv qf)])
 .ret)
 .skip))
 (.seq (.reg [qo 69 (.fad 7 (.t 1)),
 qo 70 (.ld1 (.t 69)),
 qo 71 (.bin .geq (.t 70) (qk 0)),
 qm 72 71,
 qg 73 (.fad 7 (.t 1)) 72 true,
 qg 74 (.ld1 (.t 73)) 72 true,
 qg 75 (.bin .leq (.t 74) (qk 5000)) 72 true,
 qo 76 (.pick (.t 72) (.t 75) qf),
 qm 77 76,
 qg 78 (.fad 8 (.t 1)) 77 true,
 qg 79 (.ld1 (.t 78)) 77 true,
 qg 80 (.bin .geq (.t 79) (qk 2000)) 77 true,
 qo 81 (.pick (.t 77) (.t 80) qf),
 qm 82 81,
 qg 83 (.fad 8 (.t 1)) 82 true,
 qg 84 (.ld1 (.t 83)) 82 true,
 qg 85 (.bin .leq (.t 84) (qk 40000)) 82 true,
 qo 86 (.pick (.t 82) (.t 85) qf),
 qm 2 86])
 .ret)))),
[(.t 2)])
theorem irOk14 : convFn Tryz.prog Tryz.f14 = some ir14 := by kernel_rfl
def ir15 : Nat × C × List RV := (21,
(.seq (.reg [qo 1 (.box 23 (.t 0)),
 qo 2 (.new 30 [(.val (.slice none 0 0)),(.val (.slice none 0 0)),q0,q0,q0,q0])])
 (.seq (.seq (.reg [qo 4 (.ldn 9 (.t 1)),
 qo 5 (.call (.f 64) [(.t 4)]),
 qo 6 (.not (.t 5))])
 (.cond (.t 6) (.seq (.reg [qo 7 (.build [(.val (.slice none 0 0)),(.val (.slice none 0 0)),q0,q0,q0,q0] []),
 qn (.st 6 (.t 2) (.t 7))])
 .ret)
 .skip))
 (.seq (.reg [qo 8 (.build [(.val (.slice none 0 0)),(.val (.slice none 0 0)),q0,q0,q0,q0] [(2,1,(qk 1)),(3,1,(qk 1))]),
 qo 3 (.new 30 [(.val (.slice none 0 0)),(.val (.slice none 0 0)),q0,q0,q0,q0]),
 qn (.st 6 (.t 3) (.t 8))])
 (.seq (.seq (.reg [qo 9 (.fad 0 (.t 1)),
 qo 10 (.ld1 (.t 9)),
 qo 11 (.mv (qk 0))])
 (.block 0 (.loop (.seq (.reg [qo 12 (.bin .lss (.t 11) (.t 10))])
 (.seq (.cond (.t 12) .skip
 (.exit 0))
 (.seq (.block 1 (.reg [qo 13 (.fad 0 (.t 3)),
 qo 14 (.ld1 (.t 13)),
 qo 15 (.build [(.val (.bool false)),(.val (.bool false)),(.val (.bool false)),q0,q0] [(0,1,qt),(3,1,(qk 1))]),
 qo 16 (.bsl 102 5 [(.t 15)]),
 qo 17 (.app 102 5 24 (.t 14) (.t 16)),
 qo 18 (.fad 0 (.t 3)),
 qn (.st 1 (.t 18) (.t 17))]))
 (.reg [qo 19 (.bin .add (.t 11) (qk 1)),
 qm 11 19])))))))
 (.seq (.reg [qo 20 (.ldn 6 (.t 3)),
 qn (.st 6 (.t 2) (.t 20))])
 .ret))))),
[(.cn 2 6)])
theorem irOk15 : convFn Tryz.prog Tryz.f15 = some ir15 := by kernel_rfl
theorem mayB_dec (c : ConfD) : mayB c = decide (1 ≤ c.nodes ∧ c.nodes ≤ 6 ∧ 1 ≤ c.queues ∧ c.queues ≤ 3 ∧ 0 ≤ c.quota ∧ c.quota ≤ 4 ∧ 1 ≤ c.wave ∧ c.wave ≤ 6 ∧ 2 ≤ c.lease ∧ c.lease ≤ 30 ∧ 1 ≤ c.retry ∧ c.retry ≤ 20 ∧ 1 ≤ c.deadline ∧ c.deadline ≤ 60 ∧ 0 ≤ c.room ∧ c.room ≤ 5000 ∧ 2000 ≤ c.disk ∧ c.disk ≤ 40000) := by
  rw [Bool.eq_iff_iff]
  simp only [mayB,withinB,Bool.and_eq_true,decide_eq_true_eq,and_assoc]
theorem may9_tri (c : ConfD) : Tri Tryz.prog G 14 [confV c] [] (.bool (mayB c)) [] := by
  refine tri_W0 Tryz.func14 (by decide) irOk14 (Nat.le_of_ble_eq_true rfl) rfl ?_
  simp only [ir14,go_sem,simprocAttr]
  rw [mayB_dec]
  repeat' (first | ((first | with_reducible refine WG_splitn (fun h => ?_) (fun h => ?_) | refine WG_split (fun h => ?_) (fun h => ?_)) <;> simp only [h,go_sem,simprocAttr] <;> (try simp only [beq_iff_eq,beq_eq_false_iff_ne,bne_iff_ne,ne_eq,decide_eq_true_eq,decide_eq_false_iff_not,Bool.not_true,Bool.not_false,Bool.not_eq_true,Bool.not_eq_false,bne_eq_false_iff_eq,Decidable.not_not] at h)) | ((first | with_reducible refine WC_splitn (fun h => ?_) (fun h => ?_) | refine WC_split (fun h => ?_) (fun h => ?_)) <;> simp only [h,go_sem,simprocAttr] <;> (try simp only [beq_iff_eq,beq_eq_false_iff_ne,bne_iff_ne,ne_eq,decide_eq_true_eq,decide_eq_false_iff_not,Bool.not_true,Bool.not_false,Bool.not_eq_true,Bool.not_eq_false,bne_eq_false_iff_eq,Decidable.not_not] at h)))
  all_goals first | (symm; apply decide_eq_false; omega) | (symm; apply decide_eq_true; omega) | (rw [Bool.eq_iff_iff]; simp only [decide_eq_true_eq]; omega)
def node1 : NodeD := ⟨true, false, false, 1, 0⟩
def newD (c : ConfD) : StateD := if mayB c = true then ⟨List.replicate c.nodes.toNat node1, [], 1, 1, 0, 0⟩ else zeroState
def newS (c : ConfD) (k : Nat) : St := ⟨[(1, .ptr 0 0), (2, .ptr 1 0), (3, .ptr 2 0), (10, .int c.nodes), (11, .int k)], [some (.box 23 [.int c.nodes, .int c.queues, .int c.quota, .int c.wave, .int c.lease, .int c.retry, .int c.deadline, .int c.room, .int c.disk]), some (.box 30 [.d (.val (.slice none 0 0)), .d (.val (.slice none 0 0)), .int 0, .int 0, .int 0, .int 0]), some (.box 30 [.sl 3 k 5 0 k, .d (.val (.slice none 0 0)), .int 1, .int 1, .int 0, .int 0]), some (.dat 102 5 ((List.replicate k node1).map nodeR))]⟩
theorem new_tri (c : ConfD) : Tri Tryz.prog G 15 [confV c] [] (stateV (newD c)) [] := by
  refine tri_W Tryz.func15 (by decide) irOk15 (Nat.le_of_ble_eq_true rfl) ?_
  simp only [ir15,go_sem,simprocAttr]
  refine W_calld (may_tri c) rfl rfl rfl rfl ?_; simp only [go_sem,simprocAttr]
  unfold newD
  cases hm : mayB c with
  | false =>
    simp only [go_sem,simprocAttr]
    exact BackZ [] rfl (by simp) (by simp [St.obj,objL,oneOr,St.get,getE,argR,argRs,rowsAt,zeroState,LV.int])
  | true =>
    have hc := mayB_nodes hm
    simp only [go_sem,simprocAttr]
    refine W_loopI [1, 2, 3, 10, 11] [.b 2 0 102 5] (fun k : Nat => (k : Int) ≤ c.nodes) (fun k => (c.nodes - k).toNat) (newS c) 0 ?_ (by omega) (fun k hk => ?_)
    · simp only [newS,go_sem,simprocAttr,List.replicate_zero,Int.natCast_zero]
    simp only [newS,go_sem,simprocAttr]
    refine WC_split (fun h => ?_) (fun h => ?_) <;> simp only [h,go_sem,simprocAttr] <;> (try simp only [beq_iff_eq,beq_eq_false_iff_ne,bne_iff_ne,ne_eq,decide_eq_true_eq,decide_eq_false_iff_not,Bool.not_true,Bool.not_false,Bool.not_eq_true,Bool.not_eq_false,bne_eq_false_iff_eq,Decidable.not_not] at h)
    · have hbd : (k + 1) * 24 ≤ 70368744177664 := by omega
      simp only [List.length_append,List.length_replicate,hbd,go_sem,simprocAttr]
      refine W_lpI (k + 1) ?_ ?_ (by omega) (by omega)
      · simp only [go_sem,simprocAttr]
      · simp only [newS,go_sem,simprocAttr,wrap_succ (show k < 9223372036854775807 by omega),List.replicate_succ',List.map_append]
        rfl
    · obtain rfl : k = c.nodes.toNat := by omega
      exact BackZ [3] rfl (by simp [St.obj,objL]) (by simp [St.obj,objL,oneOr,St.get,getE,argR,argRs,rowsAt,LV.int,List.take_of_length_le])
end Dv
