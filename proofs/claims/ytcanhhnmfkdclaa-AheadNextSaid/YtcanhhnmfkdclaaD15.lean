/- The document's book: its small functions; the first state. -/
import Derived.Test.YtcanhhnmfkdclaaDA
set_option linter.unusedVariables false
set_option linter.unusedSimpArgs false
namespace Dv
open Go Go.Proofs
open Nat renaming reduceEqDiff → zA, reduceAdd → zB, reduceSub → zC, reduceMul → zD, reduceLT → zE, reduceLeDiff → zF
open Int renaming reduceLE → zG, reduceLT → zH, reduceToNat → zI, reduceBEq → zJ, reduceBNe → zK, reduceEq → zL, reduceAdd → zM, reduceSub → zN, reduceMul → zO, reduceNeg → zP
attribute [local go_sem] argEnv W_nil W_seq W_skip W_ret W_exit W_scope W_block W_blk W_reg W_regD W_cond WC_t WC_f WC_any Wx_c Wx_ops Wx_lp Wx_blk W_ops_nil W_opsD_q W_guard W_guardD WG_tt WG_ff WG_tf WG_ft WG_u WGD_tt WGD_ff WGD_tf WGD_ft WGD_u WE_some WED_some W_more W_mv W_pick W_new W_box W_build W_bsl W_ld1 W_ldn W_st W_nck W_bin W_eqb W_not W_cvt W_fad W_fld1 W_fldn W_ixa W_ixr W_ix1 W_ixs W_len W_lens W_mkf W_ext W_app W_min W_max W_isnp W_isns W_eqs W_neg W_ixn W_sli W_sls WD_more WD_mv WD_pick WD_new WD_box WD_build WD_bsl WD_ld1 WD_ldn WD_st WD_nck WD_bin WD_eqb WD_not WD_cvt WD_fad WD_fld1 WD_fldn WD_ixa WD_ixr WD_ix1 WD_ixs WD_len WD_lens WD_mkf WD_ext WD_app WD_min WD_max WD_isnp WD_isns WD_eqs WD_neg WD_ixn WD_sli WD_sls effF effM bytesOf Opd.ev getE putE binV LV.int LV.bool LV.undef Go.undef LV.cells LV.toD LV.toDs splice fillL rowsOf boxOf srcRows updL objL Eff.owned nwp St.get St.obj St.put Value.oneCell' Ends adopt Ad.ap isNil St.keep St.okKeep okObj idl idlL idlO RVs.of RV.of oneOr Ends0 EndsO_iff frzs rn rnL rnO piOf eqCells eqV boundV Option.map_some Option.map_none List.append_nil List.nil_append List.cons_append List.map_nil List.map_cons List.length_nil List.length_cons List.set_cons_zero List.set_cons_succ List.take_succ_cons List.take_zero List.take_nil List.drop_succ_cons List.drop_zero List.drop_nil List.getElem?_cons_zero List.getElem?_cons_succ List.getElem?_nil List.isEmpty_nil List.isEmpty_cons List.all_cons List.all_nil List.isEmpty_nil cond_true cond_false Bool.true_and Bool.false_and Bool.and_true Bool.and_false Bool.not_true Bool.not_false Bool.or_true Bool.true_or Bool.or_false Bool.false_or true_and and_true true_or or_true Option.some.injEq LV.d.injEq DV.val.injEq Value.bool.injEq Value.int.injEq decide_true decide_false and_self Nat.zero_add Nat.add_zero if_true if_false Int.toNat_zero beq_self_eq_true Nat.zero_lt_succ Int.toNat_natCast Int.natCast_nonneg List.length_map i64 bl List.zip_cons_cons List.zip_nil_left List.zip_nil_right nwp confV stateV nodeV jobV nodesV jobsV opV msgV nodeR jobR opR msgR zeroOp zeroMsg msgsV
variable {G : Nat → Option (List DV)}

/-- dunnageref09.Has -/
def ir28 : Nat × C × List RV := (11,
(.seq (.reg [⟨(some 4), .mv (.c (.val (.bool false))), none, []⟩])
 (.seq (.reg [⟨(some 5), .mv (.t 0), none, []⟩,
 ⟨(some 6), .mv (.t 1), none, []⟩,
 ⟨(some 7), .cvt .u64 (.t 6), none, []⟩,
 ⟨(some 8), .bin .shr (.t 5) (.t 7), none, []⟩,
 ⟨(some 9), .bin .and (.t 8) (.c (.val (.int .i64 1))), none, []⟩,
 ⟨(some 10), .bin .eql (.t 9) (.c (.val (.int .i64 1))), none, []⟩,
 ⟨(some 4), .mv (.t 10), none, []⟩])
 .ret)),
[(.t 4)])
theorem irOk28 : convFn Try.prog Try.f28 = some ir28 := by kernel_rfl
/-- dunnageref09.Many -/
def ir46 : Nat × C × List RV := (15,
(.seq (.reg [⟨(some 2), .mv (.c (.val (.int .i64 0))), none, []⟩])
 (.seq (.reg [⟨(some 3), .mv (.c (.val (.int .i64 0))), none, []⟩])
 (.seq (.seq (.reg [⟨(some 4), .mv (.c (.val (.int .i64 0))), none, []⟩])
 (.block 0 (.loop (.seq (.seq (.reg [⟨(some 5), .mv (.t 4), none, []⟩,
 ⟨(some 6), .bin .lss (.t 5) (.c (.val (.int .i64 6))), none, []⟩])
 (.cond (.t 6) .skip
 (.exit 0)))
 (.seq (.block 1 (.seq (.reg [⟨(some 9), .mv (.t 0), none, []⟩,
 ⟨(some 10), .mv (.t 4), none, []⟩,
 ⟨(some 11), .call (.f 28) [(.t 9), (.t 10)], none, []⟩])
 (.cond (.t 11) (.reg [⟨(some 12), .mv (.t 3), none, []⟩,
 ⟨(some 13), .bin .add (.t 12) (.c (.val (.int .i64 1))), none, []⟩,
 ⟨(some 3), .mv (.t 13), none, []⟩])
 .skip)))
 (.reg [⟨(some 7), .mv (.t 4), none, []⟩,
 ⟨(some 8), .bin .add (.t 7) (.c (.val (.int .i64 1))), none, []⟩,
 ⟨(some 4), .mv (.t 8), none, []⟩]))))))
 (.seq (.reg [⟨(some 14), .mv (.t 3), none, []⟩,
 ⟨(some 2), .mv (.t 14), none, []⟩])
 .ret)))),
[(.t 2)])
theorem irOk46 : convFn Try.prog Try.f46 = some ir46 := by kernel_rfl
/-- dunnageref09.Meant -/
def ir48 : Nat × C × List RV := (10,
(.seq (.reg [⟨(some 1), .box 27 (.t 0), none, []⟩,
 ⟨(some 2), .mv (.c (.val (.int .i64 0))), none, []⟩])
 (.seq (.seq (.reg [⟨(some 3), .fad 4 (.t 1), none, []⟩,
 ⟨(some 4), .ld1 (.t 3), none, []⟩,
 ⟨(some 5), .bin .eql (.t 4) (.c (.val (.int .i64 2))), none, []⟩])
 (.cond (.t 5) (.seq (.reg [⟨(some 6), .fad 3 (.t 1), none, []⟩,
 ⟨(some 7), .ld1 (.t 6), none, []⟩,
 ⟨(some 2), .mv (.t 7), none, []⟩])
 .ret)
 .skip))
 (.seq (.reg [⟨(some 8), .fad 2 (.t 1), none, []⟩,
 ⟨(some 9), .ld1 (.t 8), none, []⟩,
 ⟨(some 2), .mv (.t 9), none, []⟩])
 .ret))),
[(.t 2)])
theorem irOk48 : convFn Try.prog Try.f48 = some ir48 := by kernel_rfl
/-- dunnageref09.Free -/
def ir27 : Nat × C × List RV := (9,
(.seq (.reg [⟨(some 1), .box 37 (.t 0), none, []⟩,
 ⟨(some 2), .mv (.c (.val (.bool false))), none, []⟩])
 (.seq (.reg [⟨(some 4), .ldn 5 (.t 1), none, []⟩,
 ⟨(some 3), .new 37 [(.val (.bool false)), (.val (.bool false)), (.val (.bool false)), (.val (.int .i64 0)), (.val (.int .i64 0))], none, []⟩,
 ⟨none, .st 5 (.t 3) (.t 4), none, []⟩])
 (.seq (.reg [⟨(some 5), .fad 3 (.t 3), none, []⟩,
 ⟨none, .st 1 (.t 5) (.c (.val (.int .i64 0))), none, []⟩])
 (.seq (.reg [⟨(some 6), .ldn 5 (.t 3), none, []⟩,
 ⟨(some 7), .build [(.val (.bool false)), (.val (.bool false)), (.val (.bool false)), (.val (.int .i64 0)), (.val (.int .i64 0))] [(0, 1, (.c (.val (.bool true))))], none, []⟩,
 ⟨(some 8), .eqs false [1, 1, 1, 0, 0] (.t 6) (.t 7), none, []⟩,
 ⟨(some 2), .mv (.t 8), none, []⟩])
 .ret)))),
[(.t 2)])
theorem irOk27 : convFn Try.prog Try.f27 = some ir27 := by kernel_rfl


theorem mayB_dec (c : ConfD) : mayB c = decide (1 ≤ c.nodes ∧ c.nodes ≤ 6 ∧ 1 ≤ c.queues ∧ c.queues ≤ 3 ∧ 0 ≤ c.quota ∧ c.quota ≤ 4 ∧ 1 ≤ c.wave ∧ c.wave ≤ 6 ∧ 2 ≤ c.lease ∧ c.lease ≤ 30 ∧ 1 ≤ c.retry ∧ c.retry ≤ 20 ∧ 1 ≤ c.deadline ∧ c.deadline ≤ 60 ∧ 0 ≤ c.room ∧ c.room ≤ 5000 ∧ 2000 ≤ c.disk ∧ c.disk ≤ 40000) := by
  rw [Bool.eq_iff_iff]
  simp only [mayB, withinB, Bool.and_eq_true, decide_eq_true_eq, and_assoc]
theorem askedB_dec (c : ConfD) (j : JobD) : askedB c j = decide (0 ≤ j.queue ∧ j.queue < c.queues ∧ 0 ≤ j.prio ∧ j.prio ≤ 9 ∧ 1 ≤ j.min ∧ j.min ≤ j.max ∧ j.max ≤ c.nodes ∧ 1 ≤ j.work ∧ j.work ≤ 1000 ∧ 0 ≤ j.pin ∧ j.pin ≤ 9) := by
  rw [Bool.eq_iff_iff]
  simp only [askedB, withinB, Bool.and_eq_true, decide_eq_true_eq, and_assoc]
  omega
theorem has9_tri (n : Int) (i : Nat) (hi : i < 64) : Tri Try.prog G 28 [.int n, .int i] [] (.bool (hasB n i)) [] := by
  refine tri_W0 Try.func28 (by decide) irOk28 (Nat.le_of_ble_eq_true rfl) rfl ?_
  simp only [ir28, go_sem, ↓reduceIte, zA, zB, zC, zD, zE, zF, reduceCtorEq, zG, zH, zI, zJ, zK, zL, zM, zN, zO, zP]
  have hw : IntKind.u64.wrap (i : Int) = i := by simp [IntKind.wrap, IntKind.bits, IntKind.signed]; omega
  simp only [hw, bit_eq n i hi, go_sem, ↓reduceIte, zA, zB, zC, zD, zE, zF, reduceCtorEq, zG, zH, zI, zJ, zK, zL, zM, zN, zO, zP]
def manyS (n : Int) (k : Nat) : St := ⟨[(0, .int n), (3, .int (manyTo n k)), (4, .int k)], []⟩
theorem many9_tri (n : Int) : Tri Try.prog G 46 [.int n] [] (.int (many n)) [] := by
  refine tri_W0 Try.func46 (by decide) irOk46 (Nat.le_of_ble_eq_true rfl) rfl ?_
  simp only [ir46, go_sem, ↓reduceIte, zA, zB, zC, zD, zE, zF, reduceCtorEq, zG, zH, zI, zJ, zK, zL, zM, zN, zO, zP]
  refine W_loopI [0, 3, 4] [] (fun k : Nat => k ≤ 6) (fun k => 6 - k) (manyS n) 0 ?_ (by omega) (fun k hk => ?_)
  · simp only [manyS, go_sem, ↓reduceIte, zA, zB, zC, zD, zE, zF, reduceCtorEq, zG, zH, zI, zJ, zK, zL, zM, zN, zO, zP, manyTo, Int.natCast_zero]
  simp only [manyS, go_sem, ↓reduceIte, zA, zB, zC, zD, zE, zF, reduceCtorEq, zG, zH, zI, zJ, zK, zL, zM, zN, zO, zP]
  refine WC_split (fun h => ?_) (fun h => ?_) <;> simp only [h, go_sem, ↓reduceIte, zA, zB, zC, zD, zE, zF, reduceCtorEq, zG, zH, zI, zJ, zK, zL, zM, zN, zO, zP] <;> (try simp only [beq_iff_eq, beq_eq_false_iff_ne, bne_iff_ne, ne_eq, decide_eq_true_eq, decide_eq_false_iff_not, Bool.not_true, Bool.not_false, Bool.not_eq_true, Bool.not_eq_false, bne_eq_false_iff_eq, Decidable.not_not] at h)
  · have hb := manyTo_le n k
    refine W_calld (has9_tri n k (by omega)) rfl rfl rfl rfl ?_; simp only [go_sem, ↓reduceIte, zA, zB, zC, zD, zE, zF, reduceCtorEq, zG, zH, zI, zJ, zK, zL, zM, zN, zO, zP]
    cases hh : hasB n k with
    | true =>
      have e : IntKind.i64.wrap (manyTo n k + 1) = manyTo n (k + 1) := by rw [wrap_in (by omega) (by omega)]; simp [manyTo, has01, hh]
      simp only [go_sem, ↓reduceIte, zA, zB, zC, zD, zE, zF, reduceCtorEq, zG, zH, zI, zJ, zK, zL, zM, zN, zO, zP]
      refine W_lpI (k + 1) ?_ ?_ (by omega) (by omega)
      · simp only [go_sem, ↓reduceIte, zA, zB, zC, zD, zE, zF, reduceCtorEq, zG, zH, zI, zJ, zK, zL, zM, zN, zO, zP]
      · simp only [manyS, go_sem, ↓reduceIte, zA, zB, zC, zD, zE, zF, reduceCtorEq, zG, zH, zI, zJ, zK, zL, zM, zN, zO, zP, wrap_succ (show k < 9223372036854775807 by omega), e]
    | false =>
      have e : manyTo n k = manyTo n (k + 1) := by simp [manyTo, has01, hh]
      simp only [go_sem, ↓reduceIte, zA, zB, zC, zD, zE, zF, reduceCtorEq, zG, zH, zI, zJ, zK, zL, zM, zN, zO, zP]
      refine W_lpI (k + 1) ?_ ?_ (by omega) (by omega)
      · simp only [go_sem, ↓reduceIte, zA, zB, zC, zD, zE, zF, reduceCtorEq, zG, zH, zI, zJ, zK, zL, zM, zN, zO, zP]
      · simp only [manyS, go_sem, ↓reduceIte, zA, zB, zC, zD, zE, zF, reduceCtorEq, zG, zH, zI, zJ, zK, zL, zM, zN, zO, zP, wrap_succ (show k < 9223372036854775807 by omega), e]
  · obtain rfl : k = 6 := by omega
    simp only [many, go_sem, ↓reduceIte, zA, zB, zC, zD, zE, zF, reduceCtorEq, zG, zH, zI, zJ, zK, zL, zM, zN, zO, zP]
theorem meant9_tri (s : StateD) : Tri Try.prog G 48 [stateV s] [] (.int (meant s)) [] := by
  refine tri_W0 Try.func48 (by decide) irOk48 (Nat.le_of_ble_eq_true rfl) rfl ?_
  simp only [ir48, go_sem, ↓reduceIte, zA, zB, zC, zD, zE, zF, reduceCtorEq, zG, zH, zI, zJ, zK, zL, zM, zN, zO, zP]
  unfold meant
  refine WC_split (fun h => ?_) (fun h => ?_) <;> simp only [h, go_sem, ↓reduceIte, zA, zB, zC, zD, zE, zF, reduceCtorEq, zG, zH, zI, zJ, zK, zL, zM, zN, zO, zP] <;> (try simp only [beq_iff_eq, beq_eq_false_iff_ne, bne_iff_ne, ne_eq, decide_eq_true_eq, decide_eq_false_iff_not, Bool.not_true, Bool.not_false, Bool.not_eq_true, Bool.not_eq_false, bne_eq_false_iff_eq, Decidable.not_not] at h)
  · rw [if_pos h]
  · rw [if_neg h]
def drains9S (s : StateD) (q : Int) (k : Nat) : St := ⟨[(1, .int q), (2, .ptr 0 0), (5, .int (drainsL (s.jobs.take k) q)), (6, .int k)], [some (.box 27 [nodesV s.nodes, jobsV s.jobs, .int s.goal, .int s.prior, .int s.mode, .int s.term])]⟩
theorem free9_tri (n : NodeD) : Tri Try.prog G 27 [nodeV n] [] (.bool (freeB n)) [] := by
  refine tri_W0 Try.func27 (by decide) irOk27 (Nat.le_of_ble_eq_true rfl) rfl ?_
  simp only [ir27, go_sem, ↓reduceIte, zA, zB, zC, zD, zE, zF, reduceCtorEq, zG, zH, zI, zJ, zK, zL, zM, zN, zO, zP]
  unfold freeB
  cases n.up <;> cases n.cordon <;> cases n.moving <;> rfl

def node1 : NodeD := ⟨true, false, false, 1, 0⟩
def newD (c : ConfD) : StateD := if mayB c = true then ⟨List.replicate c.nodes.toNat node1, [], 1, 1, 0, 0⟩ else zeroState
def newS (c : ConfD) (k : Nat) : St := ⟨[(1, .ptr 0 0), (2, .ptr 1 0), (3, .ptr 2 0), (10, .int c.nodes), (11, .int k)], [some (.box 23 [.int c.nodes, .int c.queues, .int c.quota, .int c.wave, .int c.lease, .int c.retry, .int c.deadline, .int c.room, .int c.disk]), some (.box 27 [.d (.val (.slice none 0 0)), .d (.val (.slice none 0 0)), .int 0, .int 0, .int 0, .int 0]), some (.box 27 [.sl 3 k 5 0 k, .d (.val (.slice none 0 0)), .int 1, .int 1, .int 0, .int 0]), some (.dat 37 5 ((List.replicate k node1).map nodeR))]⟩
def new9S (c : ConfD) (k : Nat) : St := ⟨[(1, .ptr 0 0), (2, .ptr 1 0), (3, .ptr 2 0), (4, .int k)], [some (.box 23 [.int c.nodes, .int c.queues, .int c.quota, .int c.wave, .int c.lease, .int c.retry, .int c.deadline, .int c.room, .int c.disk]), some (.box 27 [.d (.val (.slice none 0 0)), .d (.val (.slice none 0 0)), .int 0, .int 0, .int 0, .int 0]), some (.box 27 [.sl 3 k 5 0 k, .d (.val (.slice none 0 0)), .int 0, .int 0, .int 0, .int 0]), some (.dat 37 5 ((List.replicate k node1).map nodeR))]⟩
end Dv
