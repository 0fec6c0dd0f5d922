/- Layer 17's laws: WaveOK. -/
import Derived.Test.YtjmceebhnjiikaaDoorD8a
import Derived.Test.YtjmceebhnjiikaaDoorD14
import Derived.Test.YtjmceebhnjiikaaDoorL6
set_option linter.unusedVariables false
set_option linter.unusedSimpArgs false
namespace Dv
open Go Go.Proofs
open Nat renaming reduceEqDiff → zA, reduceAdd → zB, reduceSub → zC, reduceMul → zD, reduceLT → zE, reduceLeDiff → zF
open Int renaming reduceLE → zG, reduceLT → zH, reduceToNat → zI, reduceBEq → zJ, reduceBNe → zK, reduceEq → zL, reduceAdd → zM, reduceSub → zN, reduceMul → zO, reduceNeg → zP
attribute [local go_sem] argEnv W_nil W_seq W_skip W_ret W_exit W_scope W_block W_blk W_reg W_regD W_cond WC_t WC_f WC_any Wx_c Wx_ops Wx_lp Wx_blk W_ops_nil W_opsD_q W_guard W_guardD WG_tt WG_ff WG_tf WG_ft WG_u WGD_tt WGD_ff WGD_tf WGD_ft WGD_u WE_some WED_some W_mv W_pick W_new W_box W_build W_bsl W_ld1 W_ldn W_st W_nck W_bin W_eqb W_not W_cvt W_fad W_fld1 W_fldn W_ixa W_ixr W_ix1 W_ixs W_len W_lens W_mkf W_ext W_app W_min W_isnp W_isns W_eqs W_neg W_ixn W_sli W_sls WD_mv WD_pick WD_new WD_box WD_build WD_bsl WD_ld1 WD_ldn WD_st WD_nck WD_bin WD_eqb WD_not WD_cvt WD_fad WD_fld1 WD_fldn WD_ixa WD_ixr WD_ix1 WD_ixs WD_len WD_lens WD_mkf WD_ext WD_app WD_min WD_isnp WD_isns WD_eqs WD_neg WD_ixn WD_sli WD_sls effF Opd.ev getE putE binV LV.int LV.bool LV.undef Go.undef LV.cells LV.toD LV.toDs splice fillL rowsOf srcRows updL objL Eff.owned nwp St.get St.obj St.put Value.oneCell' Ends adopt Ad.ap isNil St.keep St.okKeep okObj idl idlL idlO RVs.of RV.of oneOr Ends0 EndsO_iff frzs rn rnL rnO piOf eqCells eqV boundV Option.map_some Option.map_none List.append_nil List.nil_append List.cons_append List.map_nil List.map_cons List.length_nil List.length_cons List.set_cons_zero List.set_cons_succ List.take_succ_cons List.take_zero List.take_nil List.drop_succ_cons List.drop_zero List.drop_nil List.getElem?_cons_zero List.getElem?_cons_succ List.getElem?_nil List.isEmpty_nil List.isEmpty_cons List.all_cons List.all_nil List.isEmpty_nil cond_true cond_false Bool.true_and Bool.false_and Bool.and_true Bool.and_false Bool.not_true Bool.not_false Bool.or_true Bool.true_or Bool.or_false Bool.false_or true_and and_true true_or or_true Option.some.injEq LV.d.injEq DV.val.injEq Value.bool.injEq Value.int.injEq decide_true decide_false and_self Nat.zero_add Nat.add_zero if_true if_false Int.toNat_zero beq_self_eq_true Nat.zero_lt_succ Int.toNat_natCast Int.natCast_nonneg List.length_map i64 bl List.zip_cons_cons List.zip_nil_left List.zip_nil_right nwp confV stateV nodeV jobV nodesV jobsV opV msgV nodeR jobR opR msgR zeroOp zeroMsg
variable {G : Nat → Option (List DV)}

/-- dunnagelaw17.WaveOK -/
def ir11 : Nat × C × List RV := (48,
(.seq (.reg [⟨(some 3), .box 23 (.t 0), none, []⟩,
 ⟨(some 4), .box 27 (.t 1), none, []⟩,
 ⟨(some 6), .mv (.c (.val (.bool false))), none, []⟩])
 (.seq (.seq (.reg [⟨(some 11), .call (.f 33) [], none, []⟩,
 ⟨(some 12), .not (.t 11), none, []⟩])
 (.cond (.t 12) (.seq (.reg [⟨(some 6), .mv (.c (.val (.bool false))), none, []⟩])
 .ret)
 .skip))
 (.seq (.seq (.reg [⟨(some 13), .ldn 9 (.t 3), none, []⟩,
 ⟨(some 14), .ldn 6 (.t 4), none, []⟩,
 ⟨(some 15), .call (.f 21) [(.t 13), (.t 14)], none, []⟩,
 ⟨(some 16), .not (.t 15), none, []⟩,
 ⟨(some 17), .mv (.t 16), none, []⟩,
 ⟨(some 18), .mv (.t 2), (some (17, false)), []⟩,
 ⟨(some 19), .call (.f 34) [(.t 18)], (some (17, false)), []⟩,
 ⟨(some 20), .not (.t 19), (some (17, false)), []⟩,
 ⟨(some 21), .pick (.t 17) (.c (.val (.bool true))) (.t 20), none, []⟩])
 (.cond (.t 21) (.seq (.reg [⟨(some 6), .mv (.c (.val (.bool true))), none, []⟩])
 .ret)
 .skip))
 (.seq (.reg [⟨(some 23), .ldn 9 (.t 3), none, []⟩,
 ⟨(some 24), .ldn 6 (.t 4), none, []⟩,
 ⟨(some 25), .mv (.t 2), none, []⟩,
 ⟨(some 26), .call (.f 35) [(.t 23), (.t 24), (.t 25)], none, []⟩,
 ⟨(some 22), .mv (.t 26), none, []⟩,
 ⟨(some 27), .ext (.t 22) 0, none, []⟩,
 ⟨(some 28), .ext (.t 22) 1, none, []⟩,
 ⟨(some 7), .new 35 [(.val (.int .i64 0)), (.val (.int .i64 0)), (.val (.int .i64 0)), (.val (.int .i64 0)), (.val (.int .i64 0)), (.val (.int .i64 0)), (.val (.int .i64 0))], none, []⟩,
 ⟨none, .st 7 (.t 7) (.t 27), none, []⟩,
 ⟨(some 8), .mv (.t 28), none, []⟩])
 (.seq (.seq (.reg [⟨(some 29), .mv (.t 8), none, []⟩,
 ⟨(some 30), .not (.t 29), none, []⟩])
 (.cond (.t 30) (.seq (.reg [⟨(some 31), .ldn 7 (.t 7), none, []⟩,
 ⟨(some 32), .build [(.val (.int .i64 0)), (.val (.int .i64 0)), (.val (.int .i64 0)), (.val (.int .i64 0)), (.val (.int .i64 0)), (.val (.int .i64 0)), (.val (.int .i64 0))] [], none, []⟩,
 ⟨(some 33), .eqs false [0, 0, 0, 0, 0, 0, 0] (.t 31) (.t 32), none, []⟩,
 ⟨(some 6), .mv (.t 33), none, []⟩])
 .ret)
 .skip))
 (.seq (.reg [⟨(some 35), .ldn 9 (.t 3), none, []⟩,
 ⟨(some 36), .ldn 6 (.t 4), none, []⟩,
 ⟨(some 37), .ldn 7 (.t 7), none, []⟩,
 ⟨(some 38), .call (.f 23) [(.t 35), (.t 36), (.t 37)], none, []⟩,
 ⟨(some 34), .mv (.t 38), none, []⟩,
 ⟨(some 39), .ext (.t 34) 0, none, []⟩,
 ⟨(some 40), .ext (.t 34) 1, none, []⟩,
 ⟨(some 9), .new 27 [(.val (.slice none 0 0)), (.val (.slice none 0 0)), (.val (.int .i64 0)), (.val (.int .i64 0)), (.val (.int .i64 0)), (.val (.int .i64 0))], none, []⟩,
 ⟨none, .st 6 (.t 9) (.t 39), none, []⟩,
 ⟨(some 10), .mv (.t 40), none, []⟩])
 (.seq (.reg [⟨(some 41), .mv (.t 10), none, []⟩,
 ⟨(some 42), .bin .eql (.t 41) (.c (.val (.int .i64 0))), none, []⟩,
 ⟨(some 43), .mv (.t 42), none, []⟩,
 ⟨(some 44), .fad 4 (.t 4), (some (43, true)), []⟩,
 ⟨(some 45), .ld1 (.t 44), (some (43, true)), []⟩,
 ⟨(some 46), .bin .neq (.t 45) (.c (.val (.int .i64 1))), (some (43, true)), []⟩,
 ⟨(some 47), .pick (.t 43) (.t 46) (.c (.val (.bool false))), none, []⟩,
 ⟨(some 6), .mv (.t 47), none, []⟩])
 .ret))))))),
[(.t 6)])
theorem irOk11 : convFn Tryd.prog Tryd.f11 = some ir11 := by kernel_rfl


theorem waveOK_tri (c : ConfD) (s : StateD) (now : Int) : Tri Tryd.prog bookG 11 [confV c, stateV s, .int now] [] (.bool true) [] := by
  refine tri_W0 Tryd.func11 (by decide) irOk11 (Nat.le_of_ble_eq_true rfl) rfl ?_
  simp only [ir11, go_sem, ↓reduceIte, zA, zB, zC, zD, zE, zF, reduceCtorEq, zG, zH, zI, zJ, zK, zL, zM, zN, zO, zP]
  refine W_calld (alive_tri) rfl rfl rfl rfl ?_; simp only [go_sem, ↓reduceIte, zA, zB, zC, zD, zE, zF, reduceCtorEq, zG, zH, zI, zJ, zK, zL, zM, zN, zO, zP]
  refine W_calld (right_tri c s) rfl rfl rfl rfl ?_; simp only [go_sem, ↓reduceIte, zA, zB, zC, zD, zE, zF, reduceCtorEq, zG, zH, zI, zJ, zK, zL, zM, zN, zO, zP]
  cases hr : rightB c s with
  | false => simp only [go_sem, ↓reduceIte, zA, zB, zC, zD, zE, zF, reduceCtorEq, zG, zH, zI, zJ, zK, zL, zM, zN, zO, zP]
  | true =>
  simp only [go_sem, ↓reduceIte, zA, zB, zC, zD, zE, zF, reduceCtorEq, zG, zH, zI, zJ, zK, zL, zM, zN, zO, zP]
  refine W_calld (time_tri now) rfl rfl rfl rfl ?_; simp only [go_sem, ↓reduceIte, zA, zB, zC, zD, zE, zF, reduceCtorEq, zG, zH, zI, zJ, zK, zL, zM, zN, zO, zP]
  cases ht : withinB now 0 1000000 with
  | false => simp only [go_sem, ↓reduceIte, zA, zB, zC, zD, zE, zF, reduceCtorEq, zG, zH, zI, zJ, zK, zL, zM, zN, zO, zP]
  | true =>
  have hp := (right_iff c s).1 hr
  have hk := right_ok hr
  have hnj := hk.nj
  have hnow : 0 ≤ now ∧ now ≤ 1000000 := of_decide_eq_true ht
  have hdl := hk.conf
  have hd : -1000000000 ≤ now + c.deadline ∧ now + c.deadline ≤ 1000000000 := by omega
  simp only [go_sem, ↓reduceIte, zA, zB, zC, zD, zE, zF, reduceCtorEq, zG, zH, zI, zJ, zK, zL, zM, zN, zO, zP]
  refine W_calld (next_tri c s now hnj hd) rfl rfl rfl rfl ?_; simp only [go_sem, ↓reduceIte, zA, zB, zC, zD, zE, zF, reduceCtorEq, zG, zH, zI, zJ, zK, zL, zM, zN, zO, zP]
  simp only [optV, go_sem, ↓reduceIte, zA, zB, zC, zD, zE, zF, reduceCtorEq, zG, zH, zI, zJ, zK, zL, zM, zN, zO, zP]
  cases hq : nextW c s now with
  | none => simp only [Option.getD_none, Option.isSome_none, go_sem, ↓reduceIte, zA, zB, zC, zD, zE, zF, reduceCtorEq, zG, zH, zI, zJ, zK, zL, zM, zN, zO, zP]
  | some o =>
    obtain ⟨hm, hN⟩ := next_is (by omega) hnow.1 hq
    have hok := (next_ok hp hN).1
    have hm2 : (s.mode != 1) = true := by simpa using hm
    simp only [Option.getD_some, Option.isSome_some, go_sem, ↓reduceIte, zA, zB, zC, zD, zE, zF, reduceCtorEq, zG, zH, zI, zJ, zK, zL, zM, zN, zO, zP]
    refine W_calld (apply_tri c s o) rfl rfl rfl rfl ?_; simp only [go_sem, ↓reduceIte, zA, zB, zC, zD, zE, zF, reduceCtorEq, zG, zH, zI, zJ, zK, zL, zM, zN, zO, zP]
    generalize applyD c s o = p at *
    simp only [hok, hm2, go_sem, ↓reduceIte, zA, zB, zC, zD, zE, zF, reduceCtorEq, zG, zH, zI, zJ, zK, zL, zM, zN, zO, zP]
end Dv
