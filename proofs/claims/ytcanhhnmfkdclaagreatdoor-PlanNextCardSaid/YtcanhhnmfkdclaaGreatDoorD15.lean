/- The document's book: its small functions; the first state. -/
import Derived.Test.YtcanhhnmfkdclaaGreatDoorDA
set_option linter.unusedVariables false
set_option linter.unusedSimpArgs false
namespace Dv
open Go Go.Proofs
variable {G : Nat → Option (List DV)}

def ir55 : Nat × C × List RV := (11,
(.seq (.reg [qo 4 (.mv qf)])
 (.seq (.reg [qm 5 0,
 qm 6 1,
 qo 7 (.cvt .u64 (.t 6)),
 qo 8 (.bin .shr (.t 5) (.t 7)),
 qo 9 (.bin .and (.t 8) (qk 1)),
 qo 10 (.bin .eql (.t 9) (qk 1)),
 qm 4 10])
 .ret)),
[(.t 4)])
theorem irOk55 : convFn Tryz.prog Tryz.f55 = some ir55 := by kernel_rfl
def ir64 : Nat × C × List RV := (15,
(.seq (.reg [qo 2 (.mv (qk 0))])
 (.seq (.reg [qo 3 (.mv (qk 0))])
 (.seq (.seq (.reg [qo 4 (.mv (qk 0))])
 (.block 0 (.loop (.seq (.seq (.reg [qm 5 4,
 qo 6 (.bin .lss (.t 5) (qk 6))])
 (.cond (.t 6) .skip
 (.exit 0)))
 (.seq (.block 1 (.seq (.reg [qm 9 0,
 qm 10 4,
 qo 11 (.call (.f 55) [(.t 9),(.t 10)])])
 (.cond (.t 11) (.reg [qm 12 3,
 qo 13 (.bin .add (.t 12) (qk 1)),
 qm 3 13])
 .skip)))
 (.reg [qm 7 4,
 qo 8 (.bin .add (.t 7) (qk 1)),
 qm 4 8]))))))
 (.seq (.reg [qm 14 3,
 qm 2 14])
 .ret)))),
[(.t 2)])
theorem irOk64 : convFn Tryz.prog Tryz.f64 = some ir64 := by kernel_rfl
def ir54 : Nat × C × List RV := (10,
(.seq (.reg [qo 1 (.box 27 (.t 0)),
 qo 2 (.mv (qk 0))])
 (.seq (.seq (.reg [qo 3 (.fad 4 (.t 1)),
 qo 4 (.ld1 (.t 3)),
 qo 5 (.bin .eql (.t 4) (qk 2))])
 (.cond (.t 5) (.seq (.reg [qo 6 (.fad 3 (.t 1)),
 qo 7 (.ld1 (.t 6)),
 qm 2 7])
 .ret)
 .skip))
 (.seq (.reg [qo 8 (.fad 2 (.t 1)),
 qo 9 (.ld1 (.t 8)),
 qm 2 9])
 .ret))),
[(.t 2)])
theorem irOk54 : convFn Tryz.prog Tryz.f54 = some ir54 := by kernel_rfl
def ir65 : Nat × C × List RV := (34,
(.seq (.reg [qo 2 (.box 27 (.t 0)),
 qo 4 (.mv (qk 0))])
 (.seq (.reg [qo 5 (.mv (qk 0))])
 (.seq (.seq (.reg [qo 6 (.mv (qk 0))])
 (.block 0 (.loop (.seq (.seq (.reg [qm 7 6,
 qo 8 (.fad 1 (.t 2)),
 qo 9 (.ld1 (.t 8)),
 qo 10 (.len (.t 9)),
 qo 11 (.bin .lss (.t 7) (.t 10))])
 (.cond (.t 11) .skip
 (.exit 0)))
 (.seq (.block 1 (.seq (.reg [qo 14 (.fad 1 (.t 2)),
 qo 15 (.ld1 (.t 14)),
 qm 16 6,
 qo 17 (.ixa 12 (.t 15) (.t 16)),
 qo 18 (.fad 6 (.t 17)),
 qo 19 (.ld1 (.t 18)),
 qo 20 (.bin .eql (.t 19) (qk 3)),
 qm 21 20,
 qg 22 (.fad 1 (.t 2)) 21 true,
 qg 23 (.ld1 (.t 22)) 21 true,
 qg 24 (.mv (.t 6)) 21 true,
 qg 25 (.ixa 12 (.t 23) (.t 24)) 21 true,
 qg 26 (.fad 0 (.t 25)) 21 true,
 qg 27 (.ld1 (.t 26)) 21 true,
 qg 28 (.mv (.t 1)) 21 true,
 qg 29 (.bin .eql (.t 27) (.t 28)) 21 true,
 qo 30 (.pick (.t 21) (.t 29) qf)])
 (.cond (.t 30) (.reg [qm 31 5,
 qo 32 (.bin .add (.t 31) (qk 1)),
 qm 5 32])
 .skip)))
 (.reg [qm 12 6,
 qo 13 (.bin .add (.t 12) (qk 1)),
 qm 6 13]))))))
 (.seq (.reg [qm 33 5,
 qm 4 33])
 .ret)))),
[(.t 4)])
theorem irOk65 : convFn Tryz.prog Tryz.f65 = some ir65 := by kernel_rfl
def ir68 : Nat × C × List RV := (9,
(.seq (.reg [qo 1 (.box 49 (.t 0)),
 qo 2 (.mv qf)])
 (.seq (.reg [qo 4 (.ldn 5 (.t 1)),
 qo 3 (.new 49 [(.val (.bool false)),(.val (.bool false)),(.val (.bool false)),q0,q0]),
 qn (.st 5 (.t 3) (.t 4))])
 (.seq (.reg [qo 5 (.fad 3 (.t 3)),
 qn (.st 1 (.t 5) (qk 0))])
 (.seq (.reg [qo 6 (.ldn 5 (.t 3)),
 qo 7 (.build [(.val (.bool false)),(.val (.bool false)),(.val (.bool false)),q0,q0] [(0,1,qt)]),
 qo 8 (.eqs false [1,1,1,0,0] (.t 6) (.t 7)),
 qm 2 8])
 .ret)))),
[(.t 2)])
theorem irOk68 : convFn Tryz.prog Tryz.f68 = some ir68 := by kernel_rfl
theorem has9_tri (n : Int) (i : Nat) (hi : i < 64) : Tri Tryz.prog G 55 [.int n, .int i] [] (.bool (hasB n i)) [] := by
  refine tri_W0 Tryz.func55 (by decide) irOk55 (Nat.le_of_ble_eq_true rfl) rfl ?_
  simp only [ir55,go_sem,simprocAttr]
  have hw : IntKind.u64.wrap (i : Int) = i := by simp [IntKind.wrap,IntKind.bits,IntKind.signed]; omega
  simp only [hw,bit_eq n i hi,go_sem,simprocAttr]
def manyS (n : Int) (k : Nat) : St := ⟨[(0, .int n), (3, .int (manyTo n k)), (4, .int k)], []⟩
theorem many9_tri (n : Int) : Tri Tryz.prog G 64 [.int n] [] (.int (many n)) [] := by
  refine tri_W0 Tryz.func64 (by decide) irOk64 (Nat.le_of_ble_eq_true rfl) rfl ?_
  simp only [ir64,go_sem,simprocAttr]
  refine W_loopI [0, 3, 4] [] (fun k : Nat => k ≤ 6) (fun k => 6 - k) (manyS n) 0 ?_ (by omega) (fun k hk => ?_)
  · simp only [manyS,go_sem,simprocAttr,manyTo,Int.natCast_zero]
  simp only [manyS,go_sem,simprocAttr]
  refine WC_split (fun h => ?_) (fun h => ?_) <;> simp only [h,go_sem,simprocAttr] <;> (try simp only [beq_iff_eq,beq_eq_false_iff_ne,bne_iff_ne,ne_eq,decide_eq_true_eq,decide_eq_false_iff_not,Bool.not_true,Bool.not_false,Bool.not_eq_true,Bool.not_eq_false,bne_eq_false_iff_eq,Decidable.not_not] at h)
  · have hb := manyTo_le n k
    refine W_calld (has9_tri n k (by omega)) rfl rfl rfl rfl ?_; simp only [go_sem,simprocAttr]
    cases hh : hasB n k with
    | true =>
      have e : IntKind.i64.wrap (manyTo n k + 1) = manyTo n (k + 1) := by rw [wrap_in (by omega) (by omega)]; simp [manyTo,has01,hh]
      simp only [go_sem,simprocAttr]
      refine W_lpI (k + 1) ?_ ?_ (by omega) (by omega)
      · simp only [go_sem,simprocAttr]
      · simp only [manyS,go_sem,simprocAttr,wrap_succ (show k < 9223372036854775807 by omega),e]
    | false =>
      have e : manyTo n k = manyTo n (k + 1) := by simp [manyTo,has01,hh]
      simp only [go_sem,simprocAttr]
      refine W_lpI (k + 1) ?_ ?_ (by omega) (by omega)
      · simp only [go_sem,simprocAttr]
      · simp only [manyS,go_sem,simprocAttr,wrap_succ (show k < 9223372036854775807 by omega),e]
  · obtain rfl : k = 6 := by omega
    simp only [many,go_sem,simprocAttr]
theorem meant9_tri (s : StateD) : Tri Tryz.prog G 54 [stateV s] [] (.int (meant s)) [] := by
  refine tri_W0 Tryz.func54 (by decide) irOk54 (Nat.le_of_ble_eq_true rfl) rfl ?_
  simp only [ir54,go_sem,simprocAttr]
  unfold meant
  refine WC_split (fun h => ?_) (fun h => ?_) <;> simp only [h,go_sem,simprocAttr] <;> (try simp only [beq_iff_eq,beq_eq_false_iff_ne,bne_iff_ne,ne_eq,decide_eq_true_eq,decide_eq_false_iff_not,Bool.not_true,Bool.not_false,Bool.not_eq_true,Bool.not_eq_false,bne_eq_false_iff_eq,Decidable.not_not] at h)
  · rw [if_pos h]
  · rw [if_neg h]
def drains9S (s : StateD) (q : Int) (k : Nat) : St := ⟨[(1, .int q), (2, .ptr 0 0), (5, .int (drainsL (s.jobs.take k) q)), (6, .int k)], [some (.box 27 [nodesV s.nodes, jobsV s.jobs, .int s.goal, .int s.prior, .int s.mode, .int s.term])]⟩
theorem drains9_tri (s : StateD) (q : Int) (hn : s.jobs.length ≤ 9223372036854775806) : Tri Tryz.prog G 65 [stateV s, .int q] [] (.int (drainsL s.jobs q)) [] := by
  refine tri_W0 Tryz.func65 (by decide) irOk65 (Nat.le_of_ble_eq_true rfl) rfl ?_
  simp only [ir65,go_sem,simprocAttr]
  refine W_loopI [1, 2, 5, 6] [] (fun k : Nat => k ≤ s.jobs.length) (fun k => s.jobs.length - k) (drains9S s q) 0 ?_ (Nat.zero_le _) (fun k hk => ?_)
  · simp only [drains9S,go_sem,simprocAttr,List.take_zero,drainsL,List.filter_nil,Int.natCast_zero]
  simp only [drains9S,go_sem,simprocAttr]
  refine WC_split (fun h => ?_) (fun h => ?_)
  · have h := lt_of_dec h
    have hb := drainsL_le (s.jobs.take k) q
    rw [List.length_take] at hb
    have hs : s.jobs.take (k + 1) = s.jobs.take k ++ [s.jobs[k]] := by rw [List.take_succ_eq_append_getElem h]
    have hd := drainsL_snoc (s.jobs.take k) s.jobs[k] q
    simp only [get_map h,go_sem,simprocAttr]
    refine WG_split (fun h1 => ?_) (fun h1 => ?_) <;> simp only [h1,go_sem,simprocAttr] <;> (try simp only [beq_iff_eq,beq_eq_false_iff_ne,bne_iff_ne,ne_eq,decide_eq_true_eq,decide_eq_false_iff_not,Bool.not_true,Bool.not_false,Bool.not_eq_true,Bool.not_eq_false,bne_eq_false_iff_eq,Decidable.not_not] at h1)
    · simp only [get_map h,go_sem,simprocAttr]
      refine WC_split (fun h2 => ?_) (fun h2 => ?_) <;> simp only [h2,go_sem,simprocAttr] <;> (try simp only [beq_iff_eq,beq_eq_false_iff_ne,bne_iff_ne,ne_eq,decide_eq_true_eq,decide_eq_false_iff_not,Bool.not_true,Bool.not_false,Bool.not_eq_true,Bool.not_eq_false,bne_eq_false_iff_eq,Decidable.not_not] at h2)
      · refine W_lpI (k + 1) ?_ ?_ (by omega) (by omega)
        · simp only [go_sem,simprocAttr]
        · simp only [drains9S,go_sem,simprocAttr,wrap_succ (show k < 9223372036854775807 by omega),hs,hd,h1,h2,wrap_in (show -9223372036854775808 ≤ drainsL (s.jobs.take k) q + 1 by omega) (by omega)]
      · refine W_lpI (k + 1) ?_ ?_ (by omega) (by omega)
        · simp only [go_sem,simprocAttr]
        · simp only [drains9S,go_sem,simprocAttr,wrap_succ (show k < 9223372036854775807 by omega),hs,hd,h1,h2,false_and,and_false,Int.add_zero]
    · refine W_lpI (k + 1) ?_ ?_ (by omega) (by omega)
      · simp only [go_sem,simprocAttr]
      · simp only [drains9S,go_sem,simprocAttr,wrap_succ (show k < 9223372036854775807 by omega),hs,hd,h1,false_and,and_false,Int.add_zero]
  · obtain rfl := eq_of_dec h hk
    simp only [go_sem,simprocAttr,List.take_length]
theorem free9_tri (n : NodeD) : Tri Tryz.prog G 68 [nodeV n] [] (.bool (freeB n)) [] := by
  refine tri_W0 Tryz.func68 (by decide) irOk68 (Nat.le_of_ble_eq_true rfl) rfl ?_
  simp only [ir68,go_sem,simprocAttr]
  unfold freeB
  cases n.up <;> cases n.cordon <;> cases n.moving <;> rfl

end Dv
