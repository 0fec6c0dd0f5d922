/- The document's book: its small functions; the first state. -/
import Derived.Test.YtbhdfmgphcelhaaDoorDA
set_option linter.unusedVariables false
set_option linter.unusedSimpArgs false
namespace Dv
open Go Go.Proofs
open Nat renaming reduceEqDiff → zA, reduceAdd → zB, reduceSub → zC, reduceMul → zD, reduceLT → zE, reduceLeDiff → zF
open Int renaming reduceLE → zG, reduceLT → zH, reduceToNat → zI, reduceBEq → zJ, reduceBNe → zK, reduceEq → zL, reduceAdd → zM, reduceSub → zN, reduceMul → zO, reduceNeg → zP
attribute [local go_sem] argEnv W_nil W_seq W_skip W_ret W_exit W_scope W_block W_blk W_reg W_regD W_cond WC_t WC_f WC_any Wx_c Wx_ops Wx_lp Wx_blk W_ops_nil W_opsD_q W_guard W_guardD WG_tt WG_ff WG_tf WG_ft WG_u WGD_tt WGD_ff WGD_tf WGD_ft WGD_u WE_some WED_some W_mv W_pick W_new W_box W_build W_bsl W_ld1 W_ldn W_st W_nck W_bin W_eqb W_not W_cvt W_fad W_fld1 W_fldn W_ixa W_ixr W_ix1 W_ixs W_len W_lens W_mkf W_ext W_app W_min W_isnp W_isns W_eqs W_neg W_ixn W_sli W_sls WD_mv WD_pick WD_new WD_box WD_build WD_bsl WD_ld1 WD_ldn WD_st WD_nck WD_bin WD_eqb WD_not WD_cvt WD_fad WD_fld1 WD_fldn WD_ixa WD_ixr WD_ix1 WD_ixs WD_len WD_lens WD_mkf WD_ext WD_app WD_min WD_isnp WD_isns WD_eqs WD_neg WD_ixn WD_sli WD_sls effF Opd.ev getE putE binV LV.int LV.bool LV.undef Go.undef LV.cells LV.toD LV.toDs splice fillL rowsOf srcRows updL objL Eff.owned nwp St.get St.obj St.put Value.oneCell' Ends adopt Ad.ap isNil St.keep St.okKeep okObj idl idlL idlO RVs.of RV.of oneOr Ends0 EndsO_iff frzs rn rnL rnO piOf eqCells eqV boundV Option.map_some Option.map_none List.append_nil List.nil_append List.cons_append List.map_nil List.map_cons List.length_nil List.length_cons List.set_cons_zero List.set_cons_succ List.take_succ_cons List.take_zero List.take_nil List.drop_succ_cons List.drop_zero List.drop_nil List.getElem?_cons_zero List.getElem?_cons_succ List.getElem?_nil List.isEmpty_nil List.isEmpty_cons List.all_cons List.all_nil List.isEmpty_nil cond_true cond_false Bool.true_and Bool.false_and Bool.and_true Bool.and_false Bool.not_true Bool.not_false Bool.or_true Bool.true_or Bool.or_false Bool.false_or true_and and_true true_or or_true Option.some.injEq LV.d.injEq DV.val.injEq Value.bool.injEq Value.int.injEq decide_true decide_false and_self Nat.zero_add Nat.add_zero if_true if_false Int.toNat_zero beq_self_eq_true Nat.zero_lt_succ Int.toNat_natCast Int.natCast_nonneg List.length_map i64 bl List.zip_cons_cons List.zip_nil_left List.zip_nil_right nwp confV stateV nodeV jobV nodesV jobsV opV msgV nodeR jobR opR msgR zeroOp zeroMsg msgsV
variable {G : Nat → Option (List DV)}

/-- book.New -/
def ir10 : Nat × C × List RV := (21,
(.seq (.reg [⟨(some 1), .box 23 (.t 0), none, []⟩,
 ⟨(some 2), .new 27 [(.val (.slice none 0 0)), (.val (.slice none 0 0)), (.val (.int .i64 0)), (.val (.int .i64 0)), (.val (.int .i64 0)), (.val (.int .i64 0))], none, []⟩])
 (.seq (.seq (.reg [⟨(some 4), .ldn 9 (.t 1), none, []⟩,
 ⟨(some 5), .call (.f 12) [(.t 4)], none, []⟩,
 ⟨(some 6), .not (.t 5), none, []⟩])
 (.cond (.t 6) (.seq (.reg [⟨(some 7), .build [(.val (.slice none 0 0)), (.val (.slice none 0 0)), (.val (.int .i64 0)), (.val (.int .i64 0)), (.val (.int .i64 0)), (.val (.int .i64 0))] [], none, []⟩,
 ⟨none, .st 6 (.t 2) (.t 7), none, []⟩])
 .ret)
 .skip))
 (.seq (.reg [⟨(some 8), .build [(.val (.slice none 0 0)), (.val (.slice none 0 0)), (.val (.int .i64 0)), (.val (.int .i64 0)), (.val (.int .i64 0)), (.val (.int .i64 0))] [(2, 1, (.c (.val (.int .i64 1)))), (3, 1, (.c (.val (.int .i64 1))))], none, []⟩,
 ⟨(some 3), .new 27 [(.val (.slice none 0 0)), (.val (.slice none 0 0)), (.val (.int .i64 0)), (.val (.int .i64 0)), (.val (.int .i64 0)), (.val (.int .i64 0))], none, []⟩,
 ⟨none, .st 6 (.t 3) (.t 8), none, []⟩])
 (.seq (.seq (.reg [⟨(some 9), .fad 0 (.t 1), none, []⟩,
 ⟨(some 10), .ld1 (.t 9), none, []⟩,
 ⟨(some 11), .mv (.c (.val (.int .i64 0))), none, []⟩])
 (.block 0 (.loop (.seq (.reg [⟨(some 12), .bin .lss (.t 11) (.t 10), none, []⟩])
 (.seq (.cond (.t 12) .skip
 (.exit 0))
 (.seq (.block 1 (.reg [⟨(some 13), .fad 0 (.t 3), none, []⟩,
 ⟨(some 14), .ld1 (.t 13), none, []⟩,
 ⟨(some 15), .build [(.val (.bool false)), (.val (.bool false)), (.val (.bool false)), (.val (.int .i64 0)), (.val (.int .i64 0))] [(0, 1, (.c (.val (.bool true)))), (3, 1, (.c (.val (.int .i64 1))))], none, []⟩,
 ⟨(some 16), .bsl 50 5 [(.t 15)], none, []⟩,
 ⟨(some 17), .app 50 5 24 (.t 14) (.t 16), none, []⟩,
 ⟨(some 18), .fad 0 (.t 3), none, []⟩,
 ⟨none, .st 1 (.t 18) (.t 17), none, []⟩]))
 (.reg [⟨(some 19), .bin .add (.t 11) (.c (.val (.int .i64 1))), none, []⟩,
 ⟨(some 11), .mv (.t 19), none, []⟩])))))))
 (.seq (.reg [⟨(some 20), .ldn 6 (.t 3), none, []⟩,
 ⟨none, .st 6 (.t 2) (.t 20), none, []⟩])
 .ret))))),
[(.cn 2 6)])
theorem irOk10 : convFn Tryd.prog Tryd.f10 = some ir10 := by kernel_rfl


theorem mayB_dec (c : ConfD) : mayB c = decide (1 ≤ c.nodes ∧ c.nodes ≤ 6 ∧ 1 ≤ c.queues ∧ c.queues ≤ 3 ∧ 0 ≤ c.quota ∧ c.quota ≤ 4 ∧ 1 ≤ c.wave ∧ c.wave ≤ 6 ∧ 2 ≤ c.lease ∧ c.lease ≤ 30 ∧ 1 ≤ c.retry ∧ c.retry ≤ 20 ∧ 1 ≤ c.deadline ∧ c.deadline ≤ 60 ∧ 0 ≤ c.room ∧ c.room ≤ 5000 ∧ 2000 ≤ c.disk ∧ c.disk ≤ 40000) := by
  rw [Bool.eq_iff_iff]
  simp only [mayB, withinB, Bool.and_eq_true, decide_eq_true_eq, and_assoc]
theorem askedB_dec (c : ConfD) (j : JobD) : askedB c j = decide (0 ≤ j.queue ∧ j.queue < c.queues ∧ 0 ≤ j.prio ∧ j.prio ≤ 9 ∧ 1 ≤ j.min ∧ j.min ≤ j.max ∧ j.max ≤ c.nodes ∧ 1 ≤ j.work ∧ j.work ≤ 1000 ∧ 0 ≤ j.pin ∧ j.pin ≤ 9) := by
  rw [Bool.eq_iff_iff]
  simp only [askedB, withinB, Bool.and_eq_true, decide_eq_true_eq, and_assoc]
  omega
def manyS (n : Int) (k : Nat) : St := ⟨[(0, .int n), (3, .int (manyTo n k)), (4, .int k)], []⟩
def drains9S (s : StateD) (q : Int) (k : Nat) : St := ⟨[(1, .int q), (2, .ptr 0 0), (5, .int (drainsL (s.jobs.take k) q)), (6, .int k)], [some (.box 27 [nodesV s.nodes, jobsV s.jobs, .int s.goal, .int s.prior, .int s.mode, .int s.term])]⟩
def node1 : NodeD := ⟨true, false, false, 1, 0⟩
def newD (c : ConfD) : StateD := if mayB c = true then ⟨List.replicate c.nodes.toNat node1, [], 1, 1, 0, 0⟩ else zeroState
def newS (c : ConfD) (k : Nat) : St := ⟨[(1, .ptr 0 0), (2, .ptr 1 0), (3, .ptr 2 0), (10, .int c.nodes), (11, .int k)], [some (.box 23 [.int c.nodes, .int c.queues, .int c.quota, .int c.wave, .int c.lease, .int c.retry, .int c.deadline, .int c.room, .int c.disk]), some (.box 27 [.d (.val (.slice none 0 0)), .d (.val (.slice none 0 0)), .int 0, .int 0, .int 0, .int 0]), some (.box 27 [.sl 3 k 5 0 k, .d (.val (.slice none 0 0)), .int 1, .int 1, .int 0, .int 0]), some (.dat 50 5 ((List.replicate k node1).map nodeR))]⟩
theorem new_tri (c : ConfD) : Tri Tryd.prog G 10 [confV c] [] (stateV (newD c)) [] := by
  refine tri_W Tryd.func10 (by decide) irOk10 (Nat.le_of_ble_eq_true rfl) ?_
  simp only [ir10, go_sem, ↓reduceIte, zA, zB, zC, zD, zE, zF, reduceCtorEq, zG, zH, zI, zJ, zK, zL, zM, zN, zO, zP]
  refine W_calld (may_tri c) rfl rfl rfl rfl ?_; simp only [go_sem, ↓reduceIte, zA, zB, zC, zD, zE, zF, reduceCtorEq, zG, zH, zI, zJ, zK, zL, zM, zN, zO, zP]
  unfold newD
  cases hm : mayB c with
  | false =>
    simp only [go_sem, ↓reduceIte, zA, zB, zC, zD, zE, zF, reduceCtorEq, zG, zH, zI, zJ, zK, zL, zM, zN, zO, zP]
    exact BackZ [] rfl (by simp) (by simp [St.obj, objL, oneOr, St.get, getE, argR, argRs, rowsAt, zeroState, LV.int])
  | true =>
    have hc := mayB_nodes hm
    simp only [go_sem, ↓reduceIte, zA, zB, zC, zD, zE, zF, reduceCtorEq, zG, zH, zI, zJ, zK, zL, zM, zN, zO, zP]
    refine W_loopI [1, 2, 3, 10, 11] [.b 2 0 50 5] (fun k : Nat => (k : Int) ≤ c.nodes) (fun k => (c.nodes - k).toNat) (newS c) 0 ?_ (by omega) (fun k hk => ?_)
    · simp only [newS, go_sem, ↓reduceIte, zA, zB, zC, zD, zE, zF, reduceCtorEq, zG, zH, zI, zJ, zK, zL, zM, zN, zO, zP, List.replicate_zero, Int.natCast_zero]
    simp only [newS, go_sem, ↓reduceIte, zA, zB, zC, zD, zE, zF, reduceCtorEq, zG, zH, zI, zJ, zK, zL, zM, zN, zO, zP]
    refine WC_split (fun h => ?_) (fun h => ?_) <;> simp only [h, go_sem, ↓reduceIte, zA, zB, zC, zD, zE, zF, reduceCtorEq, zG, zH, zI, zJ, zK, zL, zM, zN, zO, zP] <;> (try simp only [beq_iff_eq, beq_eq_false_iff_ne, bne_iff_ne, ne_eq, decide_eq_true_eq, decide_eq_false_iff_not, Bool.not_true, Bool.not_false, Bool.not_eq_true, Bool.not_eq_false, bne_eq_false_iff_eq, Decidable.not_not] at h)
    · have hbd : (k + 1) * 24 ≤ 70368744177664 := by omega
      simp only [List.length_append, List.length_replicate, hbd, go_sem, ↓reduceIte, zA, zB, zC, zD, zE, zF, reduceCtorEq, zG, zH, zI, zJ, zK, zL, zM, zN, zO, zP]
      refine W_lpI (k + 1) ?_ ?_ (by omega) (by omega)
      · simp only [go_sem, ↓reduceIte, zA, zB, zC, zD, zE, zF, reduceCtorEq, zG, zH, zI, zJ, zK, zL, zM, zN, zO, zP]
      · simp only [newS, go_sem, ↓reduceIte, zA, zB, zC, zD, zE, zF, reduceCtorEq, zG, zH, zI, zJ, zK, zL, zM, zN, zO, zP, wrap_succ (show k < 9223372036854775807 by omega), List.replicate_succ', List.map_append]
        rfl
    · obtain rfl : k = c.nodes.toNat := by omega
      exact BackZ [3] rfl (by simp [St.obj, objL]) (by simp [St.obj, objL, oneOr, St.get, getE, argR, argRs, rowsAt, LV.int, List.take_of_length_le])
def new9S (c : ConfD) (k : Nat) : St := ⟨[(1, .ptr 0 0), (2, .ptr 1 0), (3, .ptr 2 0), (4, .int k)], [some (.box 23 [.int c.nodes, .int c.queues, .int c.quota, .int c.wave, .int c.lease, .int c.retry, .int c.deadline, .int c.room, .int c.disk]), some (.box 27 [.d (.val (.slice none 0 0)), .d (.val (.slice none 0 0)), .int 0, .int 0, .int 0, .int 0]), some (.box 27 [.sl 3 k 5 0 k, .d (.val (.slice none 0 0)), .int 0, .int 0, .int 0, .int 0]), some (.dat 50 5 ((List.replicate k node1).map nodeR))]⟩
end Dv
