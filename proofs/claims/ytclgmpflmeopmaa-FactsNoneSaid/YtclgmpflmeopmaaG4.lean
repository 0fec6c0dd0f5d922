/- Layer 20's laws: time, alive. -/
import Derived.Test.YtclgmpflmeopmaaG2
set_option linter.unusedVariables false
set_option linter.unusedSimpArgs false
namespace Dv
open Go Go.Proofs
open Nat renaming reduceEqDiff → zA, reduceAdd → zB, reduceSub → zC, reduceMul → zD, reduceLT → zE, reduceLeDiff → zF
open Int renaming reduceLE → zG, reduceLT → zH, reduceToNat → zI, reduceBEq → zJ, reduceBNe → zK, reduceEq → zL, reduceAdd → zM, reduceSub → zN, reduceMul → zO, reduceNeg → zP
attribute [local go_sem] argEnv W_nil W_seq W_skip W_ret W_exit W_scope W_block W_blk W_reg W_regD W_cond WC_t WC_f WC_any Wx_c Wx_ops Wx_lp Wx_blk W_ops_nil W_opsD_q W_guard W_guardD WG_tt WG_ff WG_tf WG_ft WG_u WGD_tt WGD_ff WGD_tf WGD_ft WGD_u WE_some WED_some W_mv W_pick W_new W_box W_build W_bsl W_ld1 W_ldn W_st W_nck W_bin W_eqb W_not W_cvt W_fad W_fld1 W_fldn W_ixa W_ixr W_ix1 W_ixs W_len W_lens W_mkf W_ext W_app W_min W_isnp W_isns W_eqs W_neg W_ixn W_sli W_sls WD_mv WD_pick WD_new WD_box WD_build WD_bsl WD_ld1 WD_ldn WD_st WD_nck WD_bin WD_eqb WD_not WD_cvt WD_fad WD_fld1 WD_fldn WD_ixa WD_ixr WD_ix1 WD_ixs WD_len WD_lens WD_mkf WD_ext WD_app WD_min WD_isnp WD_isns WD_eqs WD_neg WD_ixn WD_sli WD_sls effF Opd.ev getE putE binV LV.int LV.bool LV.undef Go.undef LV.cells LV.toD LV.toDs splice fillL rowsOf srcRows updL objL Eff.owned nwp St.get St.obj St.put Value.oneCell' Ends adopt Ad.ap isNil St.keep St.okKeep okObj idl idlL idlO RVs.of RV.of oneOr Ends0 EndsO_iff frzs rn rnL rnO piOf eqCells eqV boundV Option.map_some Option.map_none List.append_nil List.nil_append List.cons_append List.map_nil List.map_cons List.length_nil List.length_cons List.set_cons_zero List.set_cons_succ List.take_succ_cons List.take_zero List.take_nil List.drop_succ_cons List.drop_zero List.drop_nil List.getElem?_cons_zero List.getElem?_cons_succ List.getElem?_nil List.isEmpty_nil List.isEmpty_cons List.all_cons List.all_nil List.isEmpty_nil cond_true cond_false Bool.true_and Bool.false_and Bool.and_true Bool.and_false Bool.not_true Bool.not_false Bool.or_true Bool.true_or Bool.or_false Bool.false_or true_and and_true true_or or_true Option.some.injEq LV.d.injEq DV.val.injEq Value.bool.injEq Value.int.injEq decide_true decide_false and_self Nat.zero_add Nat.add_zero if_true if_false Int.toNat_zero beq_self_eq_true Nat.zero_lt_succ Int.toNat_natCast Int.natCast_nonneg List.length_map i64 bl List.zip_cons_cons List.zip_nil_left List.zip_nil_right nwp confV stateV nodeV jobV nodesV jobsV opV msgV nodeR jobR opR msgR zeroOp zeroMsg msgsV
variable {G : Nat → Option (List DV)}

/-- dunnagelaw20.time -/
def ir10 : Nat × C × List RV := (9,
(.seq (.reg [⟨(some 2), .mv (.c (.val (.bool false))), none, []⟩])
 (.seq (.reg [⟨(some 3), .mv (.t 0), none, []⟩,
 ⟨(some 4), .bin .geq (.t 3) (.c (.val (.int .i64 0))), none, []⟩,
 ⟨(some 5), .mv (.t 4), none, []⟩,
 ⟨(some 6), .mv (.t 0), (some (5, true)), []⟩,
 ⟨(some 7), .bin .leq (.t 6) (.c (.val (.int .i64 1000000))), (some (5, true)), []⟩,
 ⟨(some 8), .pick (.t 5) (.t 7) (.c (.val (.bool false))), none, []⟩,
 ⟨(some 2), .mv (.t 8), none, []⟩])
 .ret)),
[(.t 2)])
theorem irOk10 : convFn Try.prog Try.f10 = some ir10 := by kernel_rfl
/-- dunnagelaw20.alive -/
def ir9 : Nat × C × List RV := (51,
(.seq (.reg [⟨(some 0), .mv (.c (.val (.bool false))), none, []⟩])
 (.seq (.reg [⟨(some 7), .build [(.val (.bool false)), (.val (.bool false)), (.val (.bool false)), (.val (.int .i64 0)), (.val (.int .i64 0))] [(0, 1, (.c (.val (.bool true)))), (3, 1, (.c (.val (.int .i64 1)))), (4, 1, (.c (.val (.int .i64 1))))], none, []⟩,
 ⟨(some 8), .bsl 55 5 [(.t 7)], none, []⟩,
 ⟨(some 9), .build [(.val (.int .i64 0)), (.val (.int .i64 0)), (.val (.int .i64 0)), (.val (.int .i64 0)), (.val (.int .i64 0)), (.val (.int .i64 0)), (.val (.int .i64 0)), (.val (.int .i64 0)), (.val (.int .i64 0)), (.val (.int .i64 0)), (.val (.int .i64 0)), (.val (.int .i64 0))] [(2, 1, (.c (.val (.int .i64 1)))), (3, 1, (.c (.val (.int .i64 1)))), (4, 1, (.c (.val (.int .i64 1)))), (6, 1, (.c (.val (.int .i64 1)))), (7, 1, (.c (.val (.int .i64 1)))), (8, 1, (.c (.val (.int .i64 1))))], none, []⟩,
 ⟨(some 10), .bsl 47 12 [(.t 9)], none, []⟩,
 ⟨(some 11), .build [(.val (.slice none 0 0)), (.val (.slice none 0 0)), (.val (.int .i64 0)), (.val (.int .i64 0)), (.val (.int .i64 0)), (.val (.int .i64 0))] [(2, 1, (.c (.val (.int .i64 1)))), (3, 1, (.c (.val (.int .i64 1)))), (0, 1, (.t 8)), (1, 1, (.t 10))], none, []⟩,
 ⟨(some 1), .new 33 [(.val (.slice none 0 0)), (.val (.slice none 0 0)), (.val (.int .i64 0)), (.val (.int .i64 0)), (.val (.int .i64 0)), (.val (.int .i64 0))], none, []⟩,
 ⟨none, .st 6 (.t 1) (.t 11), none, []⟩])
 (.seq (.reg [⟨(some 12), .build [(.val (.int .i64 0)), (.val (.int .i64 0)), (.val (.int .i64 0)), (.val (.int .i64 0)), (.val (.int .i64 0)), (.val (.int .i64 0)), (.val (.int .i64 0)), (.val (.int .i64 0)), (.val (.int .i64 0)), (.val (.int .i64 0)), (.val (.int .i64 0))] [(1, 1, (.c (.val (.int .i64 6)))), (9, 1, (.c (.val (.int .i64 1)))), (4, 1, (.c (.val (.int .i64 1)))), (5, 1, (.c (.val (.int .i64 1))))], none, []⟩,
 ⟨(some 13), .bsl 53 11 [(.t 12)], none, []⟩,
 ⟨(some 2), .mv (.t 13), none, []⟩])
 (.seq (.reg [⟨(some 15), .ldn 6 (.t 1), none, []⟩,
 ⟨(some 16), .mv (.t 2), none, []⟩,
 ⟨(some 17), .call (.f 29) [(.t 15), (.t 16), (.c (.val (.int .i64 7)))], none, []⟩,
 ⟨(some 14), .mv (.t 17), none, []⟩,
 ⟨(some 18), .ext (.t 14) 0, none, []⟩,
 ⟨(some 19), .ext (.t 14) 1, none, []⟩,
 ⟨(some 3), .new 42 [(.val (.int .i64 0)), (.val (.int .i64 0)), (.val (.int .i64 0)), (.val (.int .i64 0)), (.val (.int .i64 0)), (.val (.int .i64 0)), (.val (.int .i64 0))], none, []⟩,
 ⟨none, .st 7 (.t 3) (.t 18), none, []⟩,
 ⟨(some 4), .mv (.t 19), none, []⟩])
 (.seq (.reg [⟨(some 21), .ldn 6 (.t 1), none, []⟩,
 ⟨(some 22), .mv (.t 2), none, []⟩,
 ⟨(some 23), .call (.f 31) [(.t 21), (.t 22), (.c (.val (.int .i64 1)))], none, []⟩,
 ⟨(some 20), .mv (.t 23), none, []⟩,
 ⟨(some 24), .ext (.t 20) 0, none, []⟩,
 ⟨(some 25), .ext (.t 20) 1, none, []⟩,
 ⟨(some 5), .new 42 [(.val (.int .i64 0)), (.val (.int .i64 0)), (.val (.int .i64 0)), (.val (.int .i64 0)), (.val (.int .i64 0)), (.val (.int .i64 0)), (.val (.int .i64 0))], none, []⟩,
 ⟨none, .st 7 (.t 5) (.t 24), none, []⟩,
 ⟨(some 6), .mv (.t 25), none, []⟩])
 (.seq (.reg [⟨(some 26), .mv (.t 4), none, []⟩,
 ⟨(some 27), .mv (.t 26), none, []⟩,
 ⟨(some 28), .mv (.t 6), (some (27, true)), []⟩,
 ⟨(some 29), .pick (.t 27) (.t 28) (.c (.val (.bool false))), none, []⟩,
 ⟨(some 30), .mv (.t 29), none, []⟩,
 ⟨(some 31), .ldn 7 (.t 3), (some (30, true)), []⟩,
 ⟨(some 32), .build [(.val (.int .i64 0)), (.val (.int .i64 0)), (.val (.int .i64 0)), (.val (.int .i64 0)), (.val (.int .i64 0)), (.val (.int .i64 0)), (.val (.int .i64 0))] [(0, 1, (.c (.val (.int .i64 10)))), (1, 1, (.c (.val (.int .i64 1)))), (2, 1, (.c (.val (.int .i64 7))))], (some (30, true)), []⟩,
 ⟨(some 33), .eqs false [0, 0, 0, 0, 0, 0, 0] (.t 31) (.t 32), (some (30, true)), []⟩,
 ⟨(some 34), .pick (.t 30) (.t 33) (.c (.val (.bool false))), none, []⟩,
 ⟨(some 35), .mv (.t 34), none, []⟩,
 ⟨(some 36), .fad 0 (.t 5), (some (35, true)), []⟩,
 ⟨(some 37), .ld1 (.t 36), (some (35, true)), []⟩,
 ⟨(some 38), .bin .eql (.t 37) (.c (.val (.int .i64 10))), (some (35, true)), []⟩,
 ⟨(some 39), .pick (.t 35) (.t 38) (.c (.val (.bool false))), none, []⟩,
 ⟨(some 40), .mv (.t 39), none, []⟩,
 ⟨(some 41), .ldn 6 (.t 1), (some (40, true)), []⟩,
 ⟨(some 42), .mv (.t 2), (some (40, true)), []⟩,
 ⟨(some 43), .call (.f 32) [(.t 41), (.t 42), (.c (.val (.int .i64 0))), (.c (.val (.int .i64 1))), (.c (.val (.int .i64 1)))], (some (40, true)), []⟩,
 ⟨(some 44), .pick (.t 40) (.t 43) (.c (.val (.bool false))), none, []⟩,
 ⟨(some 45), .mv (.t 44), none, []⟩,
 ⟨(some 46), .bsl 4 1 [(.c (.val (.bool false))), (.c (.val (.bool true)))], (some (45, true)), []⟩,
 ⟨(some 47), .bsl 3 1 [(.c (.val (.int .i64 0))), (.c (.val (.int .i64 3)))], (some (45, true)), []⟩,
 ⟨(some 48), .call (.f 11) [(.t 46), (.t 47), (.c (.val (.int .i64 4))), (.c (.val (.int .i64 7)))], (some (45, true)), []⟩,
 ⟨(some 49), .bin .eql (.t 48) (.c (.val (.int .i64 1))), (some (45, true)), []⟩,
 ⟨(some 50), .pick (.t 45) (.t 49) (.c (.val (.bool false))), none, []⟩,
 ⟨(some 0), .mv (.t 50), none, []⟩])
 .ret)))))),
[(.t 0)])
theorem irOk9 : convFn Try.prog Try.f9 = some ir9 := by kernel_rfl


theorem time20_tri (n : Int) : Tri Try.prog G 10 [.int n] [] (.bool (withinB n 0 1000000)) [] := by
  refine tri_W0 Try.func10 (by decide) irOk10 (Nat.le_of_ble_eq_true rfl) rfl ?_
  simp only [ir10, go_sem, ↓reduceIte, zA, zB, zC, zD, zE, zF, reduceCtorEq, zG, zH, zI, zJ, zK, zL, zM, zN, zO, zP]
  have e : withinB n 0 1000000 = (decide (n ≥ 0) && decide (n ≤ 1000000)) := by unfold withinB; rw [Bool.decide_and]
  rw [e]
  (first | with_reducible refine WG_splitn (fun h => ?_) (fun h => ?_) | refine WG_split (fun h => ?_) (fun h => ?_)) <;> simp only [h, go_sem, ↓reduceIte, zA, zB, zC, zD, zE, zF, reduceCtorEq, zG, zH, zI, zJ, zK, zL, zM, zN, zO, zP]

def s20 : StateD := ⟨[⟨true, false, false, 1, 1⟩], [⟨0, 0, 1, 1, 1, 0, 1, 1, 1, 0, 0, 0⟩], 1, 1, 0, 0⟩
def r20 : List MsgD := [⟨0, 6, 0, 0, 1, 1, 0, 0, 0, 1, 0⟩]
theorem alive20_tri : Tri Try.prog G 9 [] [] (.bool true) [] := by
  refine tri_W0 Try.func9 (by decide) irOk9 (Nat.le_of_ble_eq_true rfl) rfl ?_
  simp only [ir9, go_sem, ↓reduceIte, zA, zB, zC, zD, zE, zF, reduceCtorEq, zG, zH, zI, zJ, zK, zL, zM, zN, zO, zP]
  refine W_callz [0, 1, 3] (factsNext_tri s20 r20 7 (by decide) (by decide)) rfl (by simp [argRs, argR, rowsAt, objL, s20, r20, go_sem, ↓reduceIte, zA, zB, zC, zD, zE, zF, reduceCtorEq, zG, zH, zI, zJ, zK, zL, zM, zN, zO, zP]) (by simp [objL]) rfl rfl ?_; simp only [go_sem, ↓reduceIte, zA, zB, zC, zD, zE, zF, reduceCtorEq, zG, zH, zI, zJ, zK, zL, zM, zN, zO, zP]
  rw [show factsF s20 r20 7 = some ⟨10, 1, 7, 0, 0, 0, 0⟩ from by decide]
  simp only [optM, Option.getD_some, Option.isSome_some, go_sem, ↓reduceIte, zA, zB, zC, zD, zE, zF, reduceCtorEq, zG, zH, zI, zJ, zK, zL, zM, zN, zO, zP]
  refine W_callz [0, 1, 3] (Gang_tri s20 r20 1 (by decide)) rfl (by simp [argRs, argR, rowsAt, objL, s20, r20, go_sem, ↓reduceIte, zA, zB, zC, zD, zE, zF, reduceCtorEq, zG, zH, zI, zJ, zK, zL, zM, zN, zO, zP]) (by simp [objL]) rfl rfl ?_; simp only [go_sem, ↓reduceIte, zA, zB, zC, zD, zE, zF, reduceCtorEq, zG, zH, zI, zJ, zK, zL, zM, zN, zO, zP]
  rw [show gangO s20 r20 1 0 = some ⟨10, 1, 0, 0, 0, 0, 0⟩ from by decide]
  simp only [optM, Option.getD_some, Option.isSome_some, go_sem, ↓reduceIte, zA, zB, zC, zD, zE, zF, reduceCtorEq, zG, zH, zI, zJ, zK, zL, zM, zN, zO, zP]
  refine W_callz [0, 1, 3] (says_tri s20 r20 0 1 1 (by decide)) rfl (by simp [argRs, argR, rowsAt, objL, s20, r20, go_sem, ↓reduceIte, zA, zB, zC, zD, zE, zF, reduceCtorEq, zG, zH, zI, zJ, zK, zL, zM, zN, zO, zP]) (by simp [objL]) rfl rfl ?_; simp only [go_sem, ↓reduceIte, zA, zB, zC, zD, zE, zF, reduceCtorEq, zG, zH, zI, zJ, zK, zL, zM, zN, zO, zP]
  rw [show saysB s20 r20 0 1 1 = true from by decide]
  simp only [go_sem, ↓reduceIte, zA, zB, zC, zD, zE, zF, reduceCtorEq, zG, zH, zI, zJ, zK, zL, zM, zN, zO, zP]
  refine W_callz [6, 7] (silent_tri [false, true] [0, 3] 4 7 (by decide) (by decide) (by decide) (by decide)) rfl (by simp [argRs, argR, rowsAt, objL, go_sem, ↓reduceIte, zA, zB, zC, zD, zE, zF, reduceCtorEq, zG, zH, zI, zJ, zK, zL, zM, zN, zO, zP]) (by simp [objL]) rfl rfl ?_; simp only [go_sem, ↓reduceIte, zA, zB, zC, zD, zE, zF, reduceCtorEq, zG, zH, zI, zJ, zK, zL, zM, zN, zO, zP]
  rw [show silentL 4 7 [false, true] [0, 3] 0 = 1 from by decide]
  simp only [go_sem, ↓reduceIte, zA, zB, zC, zD, zE, zF, reduceCtorEq, zG, zH, zI, zJ, zK, zL, zM, zN, zO, zP]
end Dv
