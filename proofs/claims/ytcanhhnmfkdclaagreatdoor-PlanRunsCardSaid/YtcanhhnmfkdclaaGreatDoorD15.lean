/- The document's book: its small functions; the first state. -/
import Derived.Test.YtcanhhnmfkdclaaGreatDoorDA
set_option linter.unusedVariables false
set_option linter.unusedSimpArgs false
namespace Dv
open Go Go.Proofs
variable {G : Nat → Option (List DV)}

def ir74 : Nat × C × List RV := (64,
(.seq (.reg [qo 2 (.box 23 (.t 0)),
 qo 3 (.box 47 (.t 1)),
 qo 4 (.mv qf)])
 (.seq (.reg [qo 5 (.fad 0 (.t 3)),
 qo 6 (.ld1 (.t 5)),
 qo 7 (.bin .geq (.t 6) (qk 0)),
 qm 8 7,
 qg 9 (.fad 0 (.t 3)) 8 true,
 qg 10 (.ld1 (.t 9)) 8 true,
 qg 11 (.fad 1 (.t 2)) 8 true,
 qg 12 (.ld1 (.t 11)) 8 true,
 qg 13 (.bin .lss (.t 10) (.t 12)) 8 true,
 qo 14 (.pick (.t 8) (.t 13) qf),
 qm 15 14,
 qg 16 (.fad 1 (.t 3)) 15 true,
 qg 17 (.ld1 (.t 16)) 15 true,
 qg 18 (.bin .geq (.t 17) (qk 0)) 15 true,
 qo 19 (.pick (.t 15) (.t 18) qf),
 qm 20 19,
 qg 21 (.fad 1 (.t 3)) 20 true,
 qg 22 (.ld1 (.t 21)) 20 true,
 qg 23 (.bin .leq (.t 22) (qk 9)) 20 true,
 qo 24 (.pick (.t 20) (.t 23) qf),
 qm 25 24,
 qg 26 (.fad 2 (.t 3)) 25 true,
 qg 27 (.ld1 (.t 26)) 25 true,
 qg 28 (.bin .geq (.t 27) (qk 1)) 25 true,
 qo 29 (.pick (.t 25) (.t 28) qf),
 qm 30 29,
 qg 31 (.fad 2 (.t 3)) 30 true,
 qg 32 (.ld1 (.t 31)) 30 true,
 qg 33 (.fad 3 (.t 3)) 30 true,
 qg 34 (.ld1 (.t 33)) 30 true,
 qg 35 (.bin .leq (.t 32) (.t 34)) 30 true,
 qo 36 (.pick (.t 30) (.t 35) qf),
 qm 37 36,
 qg 38 (.fad 3 (.t 3)) 37 true,
 qg 39 (.ld1 (.t 38)) 37 true,
 qg 40 (.fad 0 (.t 2)) 37 true,
 qg 41 (.ld1 (.t 40)) 37 true,
 qg 42 (.bin .leq (.t 39) (.t 41)) 37 true,
 qo 43 (.pick (.t 37) (.t 42) qf),
 qm 44 43,
 qg 45 (.fad 4 (.t 3)) 44 true,
 qg 46 (.ld1 (.t 45)) 44 true,
 qg 47 (.bin .geq (.t 46) (qk 1)) 44 true,
 qo 48 (.pick (.t 44) (.t 47) qf),
 qm 49 48,
 qg 50 (.fad 4 (.t 3)) 49 true,
 qg 51 (.ld1 (.t 50)) 49 true,
 qg 52 (.bin .leq (.t 51) (qk 1000)) 49 true,
 qo 53 (.pick (.t 49) (.t 52) qf),
 qm 54 53,
 qg 55 (.fad 5 (.t 3)) 54 true,
 qg 56 (.ld1 (.t 55)) 54 true,
 qg 57 (.bin .geq (.t 56) (qk 0)) 54 true,
 qo 58 (.pick (.t 54) (.t 57) qf),
 qm 59 58,
 qg 60 (.fad 5 (.t 3)) 59 true,
 qg 61 (.ld1 (.t 60)) 59 true,
 qg 62 (.bin .leq (.t 61) (qk 9)) 59 true,
 qo 63 (.pick (.t 59) (.t 62) qf),
 qm 4 63])
 .ret)),
[(.t 4)])
theorem irOk74 : convFn Tryz.prog Tryz.f74 = some ir74 := by kernel_rfl
def ir55 : Nat × C × List RV := (11,
(.seq (.reg [qo 4 (.mv qf)])
 (.seq (.reg [qm 5 0,
 qm 6 1,
 qo 7 (.cvt .u64 (.t 6)),
 qo 8 (.bin .shr (.t 5) (.t 7)),
 qo 9 (.bin .and (.t 8) (qk 1)),
 qo 10 (.bin .eql (.t 9) (qk 1)),
 qm 4 10])
 .ret)),
[(.t 4)])
theorem irOk55 : convFn Tryz.prog Tryz.f55 = some ir55 := by kernel_rfl
def ir64 : Nat × C × List RV := (15,
(.seq (.reg [qo 2 (.mv (qk 0))])
 (.seq (.reg [qo 3 (.mv (qk 0))])
 (.seq (.seq (.reg [qo 4 (.mv (qk 0))])
 (.block 0 (.loop (.seq (.seq (.reg [qm 5 4,
 qo 6 (.bin .lss (.t 5) (qk 6))])
 (.cond (.t 6) .skip
 (.exit 0)))
 (.seq (.block 1 (.seq (.reg [qm 9 0,
 qm 10 4,
 qo 11 (.call (.f 55) [(.t 9),(.t 10)])])
 (.cond (.t 11) (.reg [qm 12 3,
 qo 13 (.bin .add (.t 12) (qk 1)),
 qm 3 13])
 .skip)))
 (.reg [qm 7 4,
 qo 8 (.bin .add (.t 7) (qk 1)),
 qm 4 8]))))))
 (.seq (.reg [qm 14 3,
 qm 2 14])
 .ret)))),
[(.t 2)])
theorem irOk64 : convFn Tryz.prog Tryz.f64 = some ir64 := by kernel_rfl
def ir54 : Nat × C × List RV := (10,
(.seq (.reg [qo 1 (.box 27 (.t 0)),
 qo 2 (.mv (qk 0))])
 (.seq (.seq (.reg [qo 3 (.fad 4 (.t 1)),
 qo 4 (.ld1 (.t 3)),
 qo 5 (.bin .eql (.t 4) (qk 2))])
 (.cond (.t 5) (.seq (.reg [qo 6 (.fad 3 (.t 1)),
 qo 7 (.ld1 (.t 6)),
 qm 2 7])
 .ret)
 .skip))
 (.seq (.reg [qo 8 (.fad 2 (.t 1)),
 qo 9 (.ld1 (.t 8)),
 qm 2 9])
 .ret))),
[(.t 2)])
theorem irOk54 : convFn Tryz.prog Tryz.f54 = some ir54 := by kernel_rfl
def ir65 : Nat × C × List RV := (34,
(.seq (.reg [qo 2 (.box 27 (.t 0)),
 qo 4 (.mv (qk 0))])
 (.seq (.reg [qo 5 (.mv (qk 0))])
 (.seq (.seq (.reg [qo 6 (.mv (qk 0))])
 (.block 0 (.loop (.seq (.seq (.reg [qm 7 6,
 qo 8 (.fad 1 (.t 2)),
 qo 9 (.ld1 (.t 8)),
 qo 10 (.len (.t 9)),
 qo 11 (.bin .lss (.t 7) (.t 10))])
 (.cond (.t 11) .skip
 (.exit 0)))
 (.seq (.block 1 (.seq (.reg [qo 14 (.fad 1 (.t 2)),
 qo 15 (.ld1 (.t 14)),
 qm 16 6,
 qo 17 (.ixa 12 (.t 15) (.t 16)),
 qo 18 (.fad 6 (.t 17)),
 qo 19 (.ld1 (.t 18)),
 qo 20 (.bin .eql (.t 19) (qk 3)),
 qm 21 20,
 qg 22 (.fad 1 (.t 2)) 21 true,
 qg 23 (.ld1 (.t 22)) 21 true,
 qg 24 (.mv (.t 6)) 21 true,
 qg 25 (.ixa 12 (.t 23) (.t 24)) 21 true,
 qg 26 (.fad 0 (.t 25)) 21 true,
 qg 27 (.ld1 (.t 26)) 21 true,
 qg 28 (.mv (.t 1)) 21 true,
 qg 29 (.bin .eql (.t 27) (.t 28)) 21 true,
 qo 30 (.pick (.t 21) (.t 29) qf)])
 (.cond (.t 30) (.reg [qm 31 5,
 qo 32 (.bin .add (.t 31) (qk 1)),
 qm 5 32])
 .skip)))
 (.reg [qm 12 6,
 qo 13 (.bin .add (.t 12) (qk 1)),
 qm 6 13]))))))
 (.seq (.reg [qm 33 5,
 qm 4 33])
 .ret)))),
[(.t 4)])
theorem irOk65 : convFn Tryz.prog Tryz.f65 = some ir65 := by kernel_rfl
def ir68 : Nat × C × List RV := (9,
(.seq (.reg [qo 1 (.box 49 (.t 0)),
 qo 2 (.mv qf)])
 (.seq (.reg [qo 4 (.ldn 5 (.t 1)),
 qo 3 (.new 49 [(.val (.bool false)),(.val (.bool false)),(.val (.bool false)),q0,q0]),
 qn (.st 5 (.t 3) (.t 4))])
 (.seq (.reg [qo 5 (.fad 3 (.t 3)),
 qn (.st 1 (.t 5) (qk 0))])
 (.seq (.reg [qo 6 (.ldn 5 (.t 3)),
 qo 7 (.build [(.val (.bool false)),(.val (.bool false)),(.val (.bool false)),q0,q0] [(0,1,qt)]),
 qo 8 (.eqs false [1,1,1,0,0] (.t 6) (.t 7)),
 qm 2 8])
 .ret)))),
[(.t 2)])
theorem irOk68 : convFn Tryz.prog Tryz.f68 = some ir68 := by kernel_rfl
def ir31 : Nat × C × List RV := (16,
(.seq (.reg [qo 1 (.box 27 (.t 0)),
 qo 2 (.new 27 [(.val (.slice none 0 0)),(.val (.slice none 0 0)),q0,q0,q0,q0])])
 (.seq (.reg [qo 4 (.ldn 6 (.t 1)),
 qo 3 (.new 27 [(.val (.slice none 0 0)),(.val (.slice none 0 0)),q0,q0,q0,q0]),
 qn (.st 6 (.t 3) (.t 4))])
 (.seq (.reg [qo 5 (.bsl 49 5 []),
 qo 6 (.fad 0 (.t 1)),
 qo 7 (.ld1 (.t 6)),
 qo 8 (.app 49 5 24 (.t 5) (.t 7)),
 qo 9 (.fad 0 (.t 3)),
 qn (.st 1 (.t 9) (.t 8))])
 (.seq (.reg [qo 10 (.bsl 47 12 []),
 qo 11 (.fad 1 (.t 1)),
 qo 12 (.ld1 (.t 11)),
 qo 13 (.app 47 12 96 (.t 10) (.t 12)),
 qo 14 (.fad 1 (.t 3)),
 qn (.st 1 (.t 14) (.t 13))])
 (.seq (.reg [qo 15 (.ldn 6 (.t 3)),
 qn (.st 6 (.t 2) (.t 15))])
 .ret))))),
[(.cn 2 6)])
theorem irOk31 : convFn Tryz.prog Tryz.f31 = some ir31 := by kernel_rfl


theorem askedB_dec (c : ConfD) (j : JobD) : askedB c j = decide (0 ≤ j.queue ∧ j.queue < c.queues ∧ 0 ≤ j.prio ∧ j.prio ≤ 9 ∧ 1 ≤ j.min ∧ j.min ≤ j.max ∧ j.max ≤ c.nodes ∧ 1 ≤ j.work ∧ j.work ≤ 1000 ∧ 0 ≤ j.pin ∧ j.pin ≤ 9) := by
  rw [Bool.eq_iff_iff]
  simp only [askedB,withinB,Bool.and_eq_true,decide_eq_true_eq,and_assoc]
  omega
theorem asked9_tri (c : ConfD) (j : JobD) : Tri Tryz.prog G 74 [confV c, jobV j] [] (.bool (askedB c j)) [] := by
  refine tri_W0 Tryz.func74 (by decide) irOk74 (Nat.le_of_ble_eq_true rfl) rfl ?_
  simp only [ir74,go_sem,simprocAttr]
  rw [askedB_dec]
  repeat' (first | ((first | with_reducible refine WG_splitn (fun h => ?_) (fun h => ?_) | refine WG_split (fun h => ?_) (fun h => ?_)) <;> simp only [h,go_sem,simprocAttr] <;> (try simp only [beq_iff_eq,beq_eq_false_iff_ne,bne_iff_ne,ne_eq,decide_eq_true_eq,decide_eq_false_iff_not,Bool.not_true,Bool.not_false,Bool.not_eq_true,Bool.not_eq_false,bne_eq_false_iff_eq,Decidable.not_not] at h)) | ((first | with_reducible refine WC_splitn (fun h => ?_) (fun h => ?_) | refine WC_split (fun h => ?_) (fun h => ?_)) <;> simp only [h,go_sem,simprocAttr] <;> (try simp only [beq_iff_eq,beq_eq_false_iff_ne,bne_iff_ne,ne_eq,decide_eq_true_eq,decide_eq_false_iff_not,Bool.not_true,Bool.not_false,Bool.not_eq_true,Bool.not_eq_false,bne_eq_false_iff_eq,Decidable.not_not] at h)))
  all_goals first | (symm; apply decide_eq_false; omega) | (symm; apply decide_eq_true; omega) | (rw [Bool.eq_iff_iff]; simp only [decide_eq_true_eq]; omega)
theorem has9_tri (n : Int) (i : Nat) (hi : i < 64) : Tri Tryz.prog G 55 [.int n, .int i] [] (.bool (hasB n i)) [] := by
  refine tri_W0 Tryz.func55 (by decide) irOk55 (Nat.le_of_ble_eq_true rfl) rfl ?_
  simp only [ir55,go_sem,simprocAttr]
  have hw : IntKind.u64.wrap (i : Int) = i := by simp [IntKind.wrap,IntKind.bits,IntKind.signed]; omega
  simp only [hw,bit_eq n i hi,go_sem,simprocAttr]
def manyS (n : Int) (k : Nat) : St := ⟨[(0, .int n), (3, .int (manyTo n k)), (4, .int k)], []⟩
theorem many9_tri (n : Int) : Tri Tryz.prog G 64 [.int n] [] (.int (many n)) [] := by
  refine tri_W0 Tryz.func64 (by decide) irOk64 (Nat.le_of_ble_eq_true rfl) rfl ?_
  simp only [ir64,go_sem,simprocAttr]
  refine W_loopI [0, 3, 4] [] (fun k : Nat => k ≤ 6) (fun k => 6 - k) (manyS n) 0 ?_ (by omega) (fun k hk => ?_)
  · simp only [manyS,go_sem,simprocAttr,manyTo,Int.natCast_zero]
  simp only [manyS,go_sem,simprocAttr]
  refine WC_split (fun h => ?_) (fun h => ?_) <;> simp only [h,go_sem,simprocAttr] <;> (try simp only [beq_iff_eq,beq_eq_false_iff_ne,bne_iff_ne,ne_eq,decide_eq_true_eq,decide_eq_false_iff_not,Bool.not_true,Bool.not_false,Bool.not_eq_true,Bool.not_eq_false,bne_eq_false_iff_eq,Decidable.not_not] at h)
  · have hb := manyTo_le n k
    refine W_calld (has9_tri n k (by omega)) rfl rfl rfl rfl ?_; simp only [go_sem,simprocAttr]
    cases hh : hasB n k with
    | true =>
      have e : IntKind.i64.wrap (manyTo n k + 1) = manyTo n (k + 1) := by rw [wrap_in (by omega) (by omega)]; simp [manyTo,has01,hh]
      simp only [go_sem,simprocAttr]
      refine W_lpI (k + 1) ?_ ?_ (by omega) (by omega)
      · simp only [go_sem,simprocAttr]
      · simp only [manyS,go_sem,simprocAttr,wrap_succ (show k < 9223372036854775807 by omega),e]
    | false =>
      have e : manyTo n k = manyTo n (k + 1) := by simp [manyTo,has01,hh]
      simp only [go_sem,simprocAttr]
      refine W_lpI (k + 1) ?_ ?_ (by omega) (by omega)
      · simp only [go_sem,simprocAttr]
      · simp only [manyS,go_sem,simprocAttr,wrap_succ (show k < 9223372036854775807 by omega),e]
  · obtain rfl : k = 6 := by omega
    simp only [many,go_sem,simprocAttr]
theorem meant9_tri (s : StateD) : Tri Tryz.prog G 54 [stateV s] [] (.int (meant s)) [] := by
  refine tri_W0 Tryz.func54 (by decide) irOk54 (Nat.le_of_ble_eq_true rfl) rfl ?_
  simp only [ir54,go_sem,simprocAttr]
  unfold meant
  refine WC_split (fun h => ?_) (fun h => ?_) <;> simp only [h,go_sem,simprocAttr] <;> (try simp only [beq_iff_eq,beq_eq_false_iff_ne,bne_iff_ne,ne_eq,decide_eq_true_eq,decide_eq_false_iff_not,Bool.not_true,Bool.not_false,Bool.not_eq_true,Bool.not_eq_false,bne_eq_false_iff_eq,Decidable.not_not] at h)
  · rw [if_pos h]
  · rw [if_neg h]
def drains9S (s : StateD) (q : Int) (k : Nat) : St := ⟨[(1, .int q), (2, .ptr 0 0), (5, .int (drainsL (s.jobs.take k) q)), (6, .int k)], [some (.box 27 [nodesV s.nodes, jobsV s.jobs, .int s.goal, .int s.prior, .int s.mode, .int s.term])]⟩
theorem drains9_tri (s : StateD) (q : Int) (hn : s.jobs.length ≤ 9223372036854775806) : Tri Tryz.prog G 65 [stateV s, .int q] [] (.int (drainsL s.jobs q)) [] := by
  refine tri_W0 Tryz.func65 (by decide) irOk65 (Nat.le_of_ble_eq_true rfl) rfl ?_
  simp only [ir65,go_sem,simprocAttr]
  refine W_loopI [1, 2, 5, 6] [] (fun k : Nat => k ≤ s.jobs.length) (fun k => s.jobs.length - k) (drains9S s q) 0 ?_ (Nat.zero_le _) (fun k hk => ?_)
  · simp only [drains9S,go_sem,simprocAttr,List.take_zero,drainsL,List.filter_nil,Int.natCast_zero]
  simp only [drains9S,go_sem,simprocAttr]
  refine WC_split (fun h => ?_) (fun h => ?_)
  · have h := lt_of_dec h
    have hb := drainsL_le (s.jobs.take k) q
    rw [List.length_take] at hb
    have hs : s.jobs.take (k + 1) = s.jobs.take k ++ [s.jobs[k]] := by rw [List.take_succ_eq_append_getElem h]
    have hd := drainsL_snoc (s.jobs.take k) s.jobs[k] q
    simp only [get_map h,go_sem,simprocAttr]
    refine WG_split (fun h1 => ?_) (fun h1 => ?_) <;> simp only [h1,go_sem,simprocAttr] <;> (try simp only [beq_iff_eq,beq_eq_false_iff_ne,bne_iff_ne,ne_eq,decide_eq_true_eq,decide_eq_false_iff_not,Bool.not_true,Bool.not_false,Bool.not_eq_true,Bool.not_eq_false,bne_eq_false_iff_eq,Decidable.not_not] at h1)
    · simp only [get_map h,go_sem,simprocAttr]
      refine WC_split (fun h2 => ?_) (fun h2 => ?_) <;> simp only [h2,go_sem,simprocAttr] <;> (try simp only [beq_iff_eq,beq_eq_false_iff_ne,bne_iff_ne,ne_eq,decide_eq_true_eq,decide_eq_false_iff_not,Bool.not_true,Bool.not_false,Bool.not_eq_true,Bool.not_eq_false,bne_eq_false_iff_eq,Decidable.not_not] at h2)
      · refine W_lpI (k + 1) ?_ ?_ (by omega) (by omega)
        · simp only [go_sem,simprocAttr]
        · simp only [drains9S,go_sem,simprocAttr,wrap_succ (show k < 9223372036854775807 by omega),hs,hd,h1,h2,wrap_in (show -9223372036854775808 ≤ drainsL (s.jobs.take k) q + 1 by omega) (by omega)]
      · refine W_lpI (k + 1) ?_ ?_ (by omega) (by omega)
        · simp only [go_sem,simprocAttr]
        · simp only [drains9S,go_sem,simprocAttr,wrap_succ (show k < 9223372036854775807 by omega),hs,hd,h1,h2,false_and,and_false,Int.add_zero]
    · refine W_lpI (k + 1) ?_ ?_ (by omega) (by omega)
      · simp only [go_sem,simprocAttr]
      · simp only [drains9S,go_sem,simprocAttr,wrap_succ (show k < 9223372036854775807 by omega),hs,hd,h1,false_and,and_false,Int.add_zero]
  · obtain rfl := eq_of_dec h hk
    simp only [go_sem,simprocAttr,List.take_length]
theorem free9_tri (n : NodeD) : Tri Tryz.prog G 68 [nodeV n] [] (.bool (freeB n)) [] := by
  refine tri_W0 Tryz.func68 (by decide) irOk68 (Nat.le_of_ble_eq_true rfl) rfl ?_
  simp only [ir68,go_sem,simprocAttr]
  unfold freeB
  cases n.up <;> cases n.cordon <;> cases n.moving <;> rfl

theorem copy9_tri (s : StateD) (hn : s.nodes.length ≤ 1000) (hj : s.jobs.length ≤ 1000) : Tri Tryz.prog G 31 [stateV s] [] (.agg [.sl 0 s.nodes.length 5 0 s.nodes.length, .sl 1 s.jobs.length 12 0 s.jobs.length, .int s.goal, .int s.prior, .int s.mode, .int s.term]) [.dat 49 5 (s.nodes.map nodeR), .dat 47 12 (s.jobs.map jobR)] := by
  refine tri_W Tryz.func31 (by decide) irOk31 (Nat.le_of_ble_eq_true rfl) ?_
  have h1 : s.nodes.length * 24 ≤ 70368744177664 := by omega
  have h2 : s.jobs.length * 96 ≤ 70368744177664 := by omega
  simp only [ir31,h1,h2,go_sem,simprocAttr]
  refine BackR [] [3, 4] [] rfl rfl (by decide) (by simp) (by simp) rfl rfl ?_
  simp [oneOr,argR,argRs]
end Dv
