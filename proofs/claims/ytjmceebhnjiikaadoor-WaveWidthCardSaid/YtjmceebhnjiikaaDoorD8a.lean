/- Layer 17's laws: time, alive. -/
import Derived.Test.YtjmceebhnjiikaaDoorD7b
set_option linter.unusedVariables false
set_option linter.unusedSimpArgs false
namespace Dv
open Go Go.Proofs
open Nat renaming reduceEqDiff → zA, reduceAdd → zB, reduceSub → zC, reduceMul → zD, reduceLT → zE, reduceLeDiff → zF
open Int renaming reduceLE → zG, reduceLT → zH, reduceToNat → zI, reduceBEq → zJ, reduceBNe → zK, reduceEq → zL, reduceAdd → zM, reduceSub → zN, reduceMul → zO, reduceNeg → zP
attribute [local go_sem] argEnv W_nil W_seq W_skip W_ret W_exit W_scope W_block W_blk W_reg W_regD W_cond WC_t WC_f WC_any Wx_c Wx_ops Wx_lp Wx_blk W_ops_nil W_opsD_q W_guard W_guardD WG_tt WG_ff WG_tf WG_ft WG_u WGD_tt WGD_ff WGD_tf WGD_ft WGD_u WE_some WED_some W_mv W_pick W_new W_box W_build W_bsl W_ld1 W_ldn W_st W_nck W_bin W_eqb W_not W_cvt W_fad W_fld1 W_fldn W_ixa W_ixr W_ix1 W_ixs W_len W_lens W_mkf W_ext W_app W_min W_isnp W_isns W_eqs W_neg W_ixn W_sli W_sls WD_mv WD_pick WD_new WD_box WD_build WD_bsl WD_ld1 WD_ldn WD_st WD_nck WD_bin WD_eqb WD_not WD_cvt WD_fad WD_fld1 WD_fldn WD_ixa WD_ixr WD_ix1 WD_ixs WD_len WD_lens WD_mkf WD_ext WD_app WD_min WD_isnp WD_isns WD_eqs WD_neg WD_ixn WD_sli WD_sls effF Opd.ev getE putE binV LV.int LV.bool LV.undef Go.undef LV.cells LV.toD LV.toDs splice fillL rowsOf srcRows updL objL Eff.owned nwp St.get St.obj St.put Value.oneCell' Ends adopt Ad.ap isNil St.keep St.okKeep okObj idl idlL idlO RVs.of RV.of oneOr Ends0 EndsO_iff frzs rn rnL rnO piOf eqCells eqV boundV Option.map_some Option.map_none List.append_nil List.nil_append List.cons_append List.map_nil List.map_cons List.length_nil List.length_cons List.set_cons_zero List.set_cons_succ List.take_succ_cons List.take_zero List.take_nil List.drop_succ_cons List.drop_zero List.drop_nil List.getElem?_cons_zero List.getElem?_cons_succ List.getElem?_nil List.isEmpty_nil List.isEmpty_cons List.all_cons List.all_nil List.isEmpty_nil cond_true cond_false Bool.true_and Bool.false_and Bool.and_true Bool.and_false Bool.not_true Bool.not_false Bool.or_true Bool.true_or Bool.or_false Bool.false_or true_and and_true true_or or_true Option.some.injEq LV.d.injEq DV.val.injEq Value.bool.injEq Value.int.injEq decide_true decide_false and_self Nat.zero_add Nat.add_zero if_true if_false Int.toNat_zero beq_self_eq_true Nat.zero_lt_succ Int.toNat_natCast Int.natCast_nonneg List.length_map i64 bl List.zip_cons_cons List.zip_nil_left List.zip_nil_right nwp confV stateV nodeV jobV nodesV jobsV opV msgV nodeR jobR opR msgR zeroOp zeroMsg
variable {G : Nat → Option (List DV)}

/-- dunnagelaw17.time -/
def ir34 : Nat × C × List RV := (9,
(.seq (.reg [⟨(some 2), .mv (.c (.val (.bool false))), none, []⟩])
 (.seq (.reg [⟨(some 3), .mv (.t 0), none, []⟩,
 ⟨(some 4), .bin .geq (.t 3) (.c (.val (.int .i64 0))), none, []⟩,
 ⟨(some 5), .mv (.t 4), none, []⟩,
 ⟨(some 6), .mv (.t 0), (some (5, true)), []⟩,
 ⟨(some 7), .bin .leq (.t 6) (.c (.val (.int .i64 1000000))), (some (5, true)), []⟩,
 ⟨(some 8), .pick (.t 5) (.t 7) (.c (.val (.bool false))), none, []⟩,
 ⟨(some 2), .mv (.t 8), none, []⟩])
 .ret)),
[(.t 2)])
theorem irOk34 : convFn Tryd.prog Tryd.f34 = some ir34 := by kernel_rfl
/-- dunnagelaw17.alive -/
def ir33 : Nat × C × List RV := (62,
(.seq (.reg [⟨(some 0), .mv (.c (.val (.bool false))), none, []⟩])
 (.seq (.reg [⟨(some 7), .build [(.val (.int .i64 0)), (.val (.int .i64 0)), (.val (.int .i64 0)), (.val (.int .i64 0)), (.val (.int .i64 0)), (.val (.int .i64 0)), (.val (.int .i64 0)), (.val (.int .i64 0)), (.val (.int .i64 0))] [(0, 1, (.c (.val (.int .i64 1)))), (1, 1, (.c (.val (.int .i64 1)))), (3, 1, (.c (.val (.int .i64 1)))), (4, 1, (.c (.val (.int .i64 2)))), (5, 1, (.c (.val (.int .i64 1)))), (6, 1, (.c (.val (.int .i64 1)))), (8, 1, (.c (.val (.int .i64 2000))))], none, []⟩,
 ⟨(some 1), .new 23 [(.val (.int .i64 0)), (.val (.int .i64 0)), (.val (.int .i64 0)), (.val (.int .i64 0)), (.val (.int .i64 0)), (.val (.int .i64 0)), (.val (.int .i64 0)), (.val (.int .i64 0)), (.val (.int .i64 0))], none, []⟩,
 ⟨none, .st 9 (.t 1) (.t 7), none, []⟩])
 (.seq (.reg [⟨(some 8), .build [(.val (.bool false)), (.val (.bool false)), (.val (.bool false)), (.val (.int .i64 0)), (.val (.int .i64 0))] [(0, 1, (.c (.val (.bool true)))), (3, 1, (.c (.val (.int .i64 1))))], none, []⟩,
 ⟨(some 9), .bsl 48 5 [(.t 8)], none, []⟩,
 ⟨(some 10), .build [(.val (.slice none 0 0)), (.val (.slice none 0 0)), (.val (.int .i64 0)), (.val (.int .i64 0)), (.val (.int .i64 0)), (.val (.int .i64 0))] [(2, 1, (.c (.val (.int .i64 2)))), (3, 1, (.c (.val (.int .i64 1)))), (0, 1, (.t 9))], none, []⟩,
 ⟨(some 2), .new 27 [(.val (.slice none 0 0)), (.val (.slice none 0 0)), (.val (.int .i64 0)), (.val (.int .i64 0)), (.val (.int .i64 0)), (.val (.int .i64 0))], none, []⟩,
 ⟨none, .st 6 (.t 2) (.t 10), none, []⟩])
 (.seq (.reg [⟨(some 12), .ldn 9 (.t 1), none, []⟩,
 ⟨(some 13), .ldn 6 (.t 2), none, []⟩,
 ⟨(some 14), .call (.f 35) [(.t 12), (.t 13), (.c (.val (.int .i64 0)))], none, []⟩,
 ⟨(some 11), .mv (.t 14), none, []⟩,
 ⟨(some 15), .ext (.t 11) 0, none, []⟩,
 ⟨(some 16), .ext (.t 11) 1, none, []⟩,
 ⟨(some 3), .new 35 [(.val (.int .i64 0)), (.val (.int .i64 0)), (.val (.int .i64 0)), (.val (.int .i64 0)), (.val (.int .i64 0)), (.val (.int .i64 0)), (.val (.int .i64 0))], none, []⟩,
 ⟨none, .st 7 (.t 3) (.t 15), none, []⟩,
 ⟨(some 4), .mv (.t 16), none, []⟩])
 (.seq (.reg [⟨(some 17), .fad 0 (.t 2), none, []⟩,
 ⟨(some 18), .ld1 (.t 17), none, []⟩,
 ⟨(some 19), .ixa 5 (.t 18) (.c (.val (.int .i64 0))), none, []⟩,
 ⟨(some 20), .fad 1 (.t 19), none, []⟩,
 ⟨none, .st 1 (.t 20) (.c (.val (.bool true))), none, []⟩])
 (.seq (.reg [⟨(some 22), .ldn 9 (.t 1), none, []⟩,
 ⟨(some 23), .ldn 6 (.t 2), none, []⟩,
 ⟨(some 24), .call (.f 35) [(.t 22), (.t 23), (.c (.val (.int .i64 0)))], none, []⟩,
 ⟨(some 21), .mv (.t 24), none, []⟩,
 ⟨(some 25), .ext (.t 21) 0, none, []⟩,
 ⟨(some 26), .ext (.t 21) 1, none, []⟩,
 ⟨(some 5), .new 35 [(.val (.int .i64 0)), (.val (.int .i64 0)), (.val (.int .i64 0)), (.val (.int .i64 0)), (.val (.int .i64 0)), (.val (.int .i64 0)), (.val (.int .i64 0))], none, []⟩,
 ⟨none, .st 7 (.t 5) (.t 25), none, []⟩,
 ⟨(some 6), .mv (.t 26), none, []⟩])
 (.seq (.reg [⟨(some 27), .mv (.t 4), none, []⟩,
 ⟨(some 28), .mv (.t 27), none, []⟩,
 ⟨(some 29), .mv (.t 6), (some (28, true)), []⟩,
 ⟨(some 30), .pick (.t 28) (.t 29) (.c (.val (.bool false))), none, []⟩,
 ⟨(some 31), .mv (.t 30), none, []⟩,
 ⟨(some 32), .ldn 7 (.t 3), (some (31, true)), []⟩,
 ⟨(some 33), .build [(.val (.int .i64 0)), (.val (.int .i64 0)), (.val (.int .i64 0)), (.val (.int .i64 0)), (.val (.int .i64 0)), (.val (.int .i64 0)), (.val (.int .i64 0))] [(0, 1, (.c (.val (.int .i64 16))))], (some (31, true)), []⟩,
 ⟨(some 34), .eqs false [0, 0, 0, 0, 0, 0, 0] (.t 32) (.t 33), (some (31, true)), []⟩,
 ⟨(some 35), .pick (.t 31) (.t 34) (.c (.val (.bool false))), none, []⟩,
 ⟨(some 36), .mv (.t 35), none, []⟩,
 ⟨(some 37), .ldn 7 (.t 5), (some (36, true)), []⟩,
 ⟨(some 38), .build [(.val (.int .i64 0)), (.val (.int .i64 0)), (.val (.int .i64 0)), (.val (.int .i64 0)), (.val (.int .i64 0)), (.val (.int .i64 0)), (.val (.int .i64 0))] [(0, 1, (.c (.val (.int .i64 18))))], (some (36, true)), []⟩,
 ⟨(some 39), .eqs false [0, 0, 0, 0, 0, 0, 0] (.t 37) (.t 38), (some (36, true)), []⟩,
 ⟨(some 40), .pick (.t 36) (.t 39) (.c (.val (.bool false))), none, []⟩,
 ⟨(some 41), .mv (.t 40), none, []⟩,
 ⟨(some 42), .ldn 6 (.t 2), (some (41, true)), []⟩,
 ⟨(some 43), .call (.f 36) [(.t 42)], (some (41, true)), []⟩,
 ⟨(some 44), .bin .eql (.t 43) (.c (.val (.int .i64 1))), (some (41, true)), []⟩,
 ⟨(some 45), .pick (.t 41) (.t 44) (.c (.val (.bool false))), none, []⟩,
 ⟨(some 46), .mv (.t 45), none, []⟩,
 ⟨(some 47), .ldn 6 (.t 2), (some (46, true)), []⟩,
 ⟨(some 48), .call (.f 54) [(.t 47)], (some (46, true)), []⟩,
 ⟨(some 49), .len (.t 48), (some (46, true)), []⟩,
 ⟨(some 50), .bin .eql (.t 49) (.c (.val (.int .i64 1))), (some (46, true)), []⟩,
 ⟨(some 51), .pick (.t 46) (.t 50) (.c (.val (.bool false))), none, []⟩,
 ⟨(some 52), .mv (.t 51), none, []⟩,
 ⟨(some 53), .ldn 6 (.t 2), (some (52, true)), []⟩,
 ⟨(some 54), .call (.f 55) [(.t 53)], (some (52, true)), []⟩,
 ⟨(some 55), .not (.t 54), (some (52, true)), []⟩,
 ⟨(some 56), .pick (.t 52) (.t 55) (.c (.val (.bool false))), none, []⟩,
 ⟨(some 57), .mv (.t 56), none, []⟩,
 ⟨(some 58), .ldn 6 (.t 2), (some (57, true)), []⟩,
 ⟨(some 59), .call (.f 56) [(.t 58), (.c (.val (.int .i64 0)))], (some (57, true)), []⟩,
 ⟨(some 60), .not (.t 59), (some (57, true)), []⟩,
 ⟨(some 61), .pick (.t 57) (.t 60) (.c (.val (.bool false))), none, []⟩,
 ⟨(some 0), .mv (.t 61), none, []⟩])
 .ret))))))),
[(.t 0)])
theorem irOk33 : convFn Tryd.prog Tryd.f33 = some ir33 := by kernel_rfl


theorem time_tri (n : Int) : Tri Tryd.prog G 34 [.int n] [] (.bool (withinB n 0 1000000)) [] := by
  refine tri_W0 Tryd.func34 (by decide) irOk34 (Nat.le_of_ble_eq_true rfl) rfl ?_
  simp only [ir34, go_sem, ↓reduceIte, zA, zB, zC, zD, zE, zF, reduceCtorEq, zG, zH, zI, zJ, zK, zL, zM, zN, zO, zP]
  have e : withinB n 0 1000000 = (decide (n ≥ 0) && decide (n ≤ 1000000)) := by unfold withinB; rw [Bool.decide_and]
  rw [e]
  (first | with_reducible refine WG_splitn (fun h => ?_) (fun h => ?_) | refine WG_split (fun h => ?_) (fun h => ?_)) <;> simp only [h, go_sem, ↓reduceIte, zA, zB, zC, zD, zE, zF, reduceCtorEq, zG, zH, zI, zJ, zK, zL, zM, zN, zO, zP]

def c17 : ConfD := ⟨1, 1, 0, 1, 2, 1, 1, 0, 2000⟩
def s17 (co : Bool) : StateD := ⟨[⟨true, co, false, 1, 0⟩], [], 2, 1, 0, 0⟩
theorem nj17 (co : Bool) : NJ (s17 co) := ⟨by simp [s17], by simp [s17], fun k hk => by
  have : k = 0 := by simp [s17] at hk; exact hk
  subst this
  simp [s17]⟩
theorem alive_tri : Tri Tryd.prog G 33 [] [] (.bool true) [] := by
  refine tri_W0 Tryd.func33 (by decide) irOk33 (Nat.le_of_ble_eq_true rfl) rfl ?_
  simp only [ir33, go_sem, ↓reduceIte, zA, zB, zC, zD, zE, zF, reduceCtorEq, zG, zH, zI, zJ, zK, zL, zM, zN, zO, zP]
  refine W_callz [1] (next_tri c17 (s17 false) 0 (nj17 _) (by decide)) rfl (by simp [argRs, argR, rowsAt, objL, s17, c17, go_sem, ↓reduceIte, zA, zB, zC, zD, zE, zF, reduceCtorEq, zG, zH, zI, zJ, zK, zL, zM, zN, zO, zP]) (by simp [objL]) rfl rfl ?_; simp only [go_sem, ↓reduceIte, zA, zB, zC, zD, zE, zF, reduceCtorEq, zG, zH, zI, zJ, zK, zL, zM, zN, zO, zP]
  rw [show nextW c17 (s17 false) 0 = some ⟨16, 0, 0, 0, 0, 0, 0⟩ from by decide]
  simp only [optV, Option.getD_some, Option.isSome_some, go_sem, ↓reduceIte, zA, zB, zC, zD, zE, zF, reduceCtorEq, zG, zH, zI, zJ, zK, zL, zM, zN, zO, zP]
  refine W_callz [1] (next_tri c17 (s17 true) 0 (nj17 _) (by decide)) rfl (by simp [argRs, argR, rowsAt, objL, s17, c17, go_sem, ↓reduceIte, zA, zB, zC, zD, zE, zF, reduceCtorEq, zG, zH, zI, zJ, zK, zL, zM, zN, zO, zP]) (by simp [objL]) rfl rfl ?_; simp only [go_sem, ↓reduceIte, zA, zB, zC, zD, zE, zF, reduceCtorEq, zG, zH, zI, zJ, zK, zL, zM, zN, zO, zP]
  rw [show nextW c17 (s17 true) 0 = some ⟨18, 0, 0, 0, 0, 0, 0⟩ from by decide]
  simp only [optV, Option.getD_some, Option.isSome_some, go_sem, ↓reduceIte, zA, zB, zC, zD, zE, zF, reduceCtorEq, zG, zH, zI, zJ, zK, zL, zM, zN, zO, zP]
  refine W_callz [1] (wave_tri (s17 true) (by decide)) rfl (by simp [argRs, argR, rowsAt, objL, s17, go_sem, ↓reduceIte, zA, zB, zC, zD, zE, zF, reduceCtorEq, zG, zH, zI, zJ, zK, zL, zM, zN, zO, zP]) (by simp [objL]) rfl rfl ?_; simp only [go_sem, ↓reduceIte, zA, zB, zC, zD, zE, zF, reduceCtorEq, zG, zH, zI, zJ, zK, zL, zM, zN, zO, zP]
  rw [show waveL (s17 true).nodes = 1 from by decide]
  simp only [go_sem, ↓reduceIte, zA, zB, zC, zD, zE, zF, reduceCtorEq, zG, zH, zI, zJ, zK, zL, zM, zN, zO, zP]
  refine W_callf [1] (behindAll_tri (s17 true) (by decide)) rfl (by simp [argRs, argR, rowsAt, objL, s17, go_sem, ↓reduceIte, zA, zB, zC, zD, zE, zF, reduceCtorEq, zG, zH, zI, zJ, zK, zL, zM, zN, zO, zP]) (by simp [objL]) rfl ?_; simp only [go_sem, ↓reduceIte, zA, zB, zC, zD, zE, zF, reduceCtorEq, zG, zH, zI, zJ, zK, zL, zM, zN, zO, zP]
  rw [show behindL (s17 true) (s17 true).nodes.length = [0] from by decide]
  simp only [intsR, Int.natCast_one, go_sem, ↓reduceIte, zA, zB, zC, zD, zE, zF, reduceCtorEq, zG, zH, zI, zJ, zK, zL, zM, zN, zO, zP]
  refine W_callz [1] (done_tri (s17 true) (nj17 _)) rfl (by simp [argRs, argR, rowsAt, objL, s17, go_sem, ↓reduceIte, zA, zB, zC, zD, zE, zF, reduceCtorEq, zG, zH, zI, zJ, zK, zL, zM, zN, zO, zP]) (by simp [objL]) rfl rfl ?_; simp only [go_sem, ↓reduceIte, zA, zB, zC, zD, zE, zF, reduceCtorEq, zG, zH, zI, zJ, zK, zL, zM, zN, zO, zP]
  rw [show doneFrom (s17 true) (s17 true).nodes = false from by decide]
  simp only [go_sem, ↓reduceIte, zA, zB, zC, zD, zE, zF, reduceCtorEq, zG, zH, zI, zJ, zK, zL, zM, zN, zO, zP]
  refine W_callz [1] (alone_tri (s17 true) 0 (nj17 _)) rfl (by simp [argRs, argR, rowsAt, objL, s17, go_sem, ↓reduceIte, zA, zB, zC, zD, zE, zF, reduceCtorEq, zG, zH, zI, zJ, zK, zL, zM, zN, zO, zP]) (by simp [objL]) rfl rfl ?_; simp only [go_sem, ↓reduceIte, zA, zB, zC, zD, zE, zF, reduceCtorEq, zG, zH, zI, zJ, zK, zL, zM, zN, zO, zP]
  rw [show aloneB (s17 true) 0 = false from by decide]
  simp only [go_sem, ↓reduceIte, zA, zB, zC, zD, zE, zF, reduceCtorEq, zG, zH, zI, zJ, zK, zL, zM, zN, zO, zP]
end Dv
