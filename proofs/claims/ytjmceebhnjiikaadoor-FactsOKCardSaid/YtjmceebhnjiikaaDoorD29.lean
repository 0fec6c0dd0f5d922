/- Layer 20's laws: FactsOK. -/
import Derived.Test.YtjmceebhnjiikaaDoorG4
import Derived.Test.YtjmceebhnjiikaaDoorD14
import Derived.Test.YtjmceebhnjiikaaDoorL7
set_option linter.unusedVariables false
set_option linter.unusedSimpArgs false
namespace Dv
open Go Go.Proofs
open Nat renaming reduceEqDiff → zA, reduceAdd → zB, reduceSub → zC, reduceMul → zD, reduceLT → zE, reduceLeDiff → zF
open Int renaming reduceLE → zG, reduceLT → zH, reduceToNat → zI, reduceBEq → zJ, reduceBNe → zK, reduceEq → zL, reduceAdd → zM, reduceSub → zN, reduceMul → zO, reduceNeg → zP
attribute [local go_sem] argEnv W_nil W_seq W_skip W_ret W_exit W_scope W_block W_blk W_reg W_regD W_cond WC_t WC_f WC_any Wx_c Wx_ops Wx_lp Wx_blk W_ops_nil W_opsD_q W_guard W_guardD WG_tt WG_ff WG_tf WG_ft WG_u WGD_tt WGD_ff WGD_tf WGD_ft WGD_u WE_some WED_some W_mv W_pick W_new W_box W_build W_bsl W_ld1 W_ldn W_st W_nck W_bin W_eqb W_not W_cvt W_fad W_fld1 W_fldn W_ixa W_ixr W_ix1 W_ixs W_len W_lens W_mkf W_ext W_app W_min W_isnp W_isns W_eqs W_neg W_ixn W_sli W_sls WD_mv WD_pick WD_new WD_box WD_build WD_bsl WD_ld1 WD_ldn WD_st WD_nck WD_bin WD_eqb WD_not WD_cvt WD_fad WD_fld1 WD_fldn WD_ixa WD_ixr WD_ix1 WD_ixs WD_len WD_lens WD_mkf WD_ext WD_app WD_min WD_isnp WD_isns WD_eqs WD_neg WD_ixn WD_sli WD_sls effF Opd.ev getE putE binV LV.int LV.bool LV.undef Go.undef LV.cells LV.toD LV.toDs splice fillL rowsOf srcRows updL objL Eff.owned nwp St.get St.obj St.put Value.oneCell' Ends adopt Ad.ap isNil St.keep St.okKeep okObj idl idlL idlO RVs.of RV.of oneOr Ends0 EndsO_iff frzs rn rnL rnO piOf eqCells eqV boundV Option.map_some Option.map_none List.append_nil List.nil_append List.cons_append List.map_nil List.map_cons List.length_nil List.length_cons List.set_cons_zero List.set_cons_succ List.take_succ_cons List.take_zero List.take_nil List.drop_succ_cons List.drop_zero List.drop_nil List.getElem?_cons_zero List.getElem?_cons_succ List.getElem?_nil List.isEmpty_nil List.isEmpty_cons List.all_cons List.all_nil List.isEmpty_nil cond_true cond_false Bool.true_and Bool.false_and Bool.and_true Bool.and_false Bool.not_true Bool.not_false Bool.or_true Bool.true_or Bool.or_false Bool.false_or true_and and_true true_or or_true Option.some.injEq LV.d.injEq DV.val.injEq Value.bool.injEq Value.int.injEq decide_true decide_false and_self Nat.zero_add Nat.add_zero if_true if_false Int.toNat_zero beq_self_eq_true Nat.zero_lt_succ Int.toNat_natCast Int.natCast_nonneg List.length_map i64 bl List.zip_cons_cons List.zip_nil_left List.zip_nil_right nwp confV stateV nodeV jobV nodesV jobsV opV msgV nodeR jobR opR msgR zeroOp zeroMsg msgsV
variable {G : Nat → Option (List DV)}

/-- dunnagelaw20.FactsOK -/
def ir13 : Nat × C × List RV := (50,
(.seq (.reg [⟨(some 4), .box 23 (.t 0), none, []⟩,
 ⟨(some 5), .box 27 (.t 1), none, []⟩,
 ⟨(some 8), .mv (.c (.val (.bool false))), none, []⟩])
 (.seq (.seq (.reg [⟨(some 13), .call (.f 37) [], none, []⟩,
 ⟨(some 14), .not (.t 13), none, []⟩])
 (.cond (.t 14) (.seq (.reg [⟨(some 8), .mv (.c (.val (.bool false))), none, []⟩])
 .ret)
 .skip))
 (.seq (.seq (.reg [⟨(some 15), .ldn 9 (.t 4), none, []⟩,
 ⟨(some 16), .ldn 6 (.t 5), none, []⟩,
 ⟨(some 17), .call (.f 21) [(.t 15), (.t 16)], none, []⟩,
 ⟨(some 18), .not (.t 17), none, []⟩,
 ⟨(some 19), .mv (.t 18), none, []⟩,
 ⟨(some 20), .mv (.t 3), (some (19, false)), []⟩,
 ⟨(some 21), .call (.f 38) [(.t 20)], (some (19, false)), []⟩,
 ⟨(some 22), .not (.t 21), (some (19, false)), []⟩,
 ⟨(some 23), .pick (.t 19) (.c (.val (.bool true))) (.t 22), none, []⟩,
 ⟨(some 24), .mv (.t 23), none, []⟩,
 ⟨(some 25), .mv (.t 2), (some (24, false)), []⟩,
 ⟨(some 26), .len (.t 25), (some (24, false)), []⟩,
 ⟨(some 27), .bin .gtr (.t 26) (.c (.val (.int .i64 50))), (some (24, false)), []⟩,
 ⟨(some 28), .pick (.t 24) (.c (.val (.bool true))) (.t 27), none, []⟩])
 (.cond (.t 28) (.seq (.reg [⟨(some 8), .mv (.c (.val (.bool true))), none, []⟩])
 .ret)
 .skip))
 (.seq (.reg [⟨(some 30), .ldn 6 (.t 5), none, []⟩,
 ⟨(some 31), .mv (.t 2), none, []⟩,
 ⟨(some 32), .mv (.t 3), none, []⟩,
 ⟨(some 33), .call (.f 39) [(.t 30), (.t 31), (.t 32)], none, []⟩,
 ⟨(some 29), .mv (.t 33), none, []⟩,
 ⟨(some 34), .ext (.t 29) 0, none, []⟩,
 ⟨(some 35), .ext (.t 29) 1, none, []⟩,
 ⟨(some 9), .new 35 [(.val (.int .i64 0)), (.val (.int .i64 0)), (.val (.int .i64 0)), (.val (.int .i64 0)), (.val (.int .i64 0)), (.val (.int .i64 0)), (.val (.int .i64 0))], none, []⟩,
 ⟨none, .st 7 (.t 9) (.t 34), none, []⟩,
 ⟨(some 10), .mv (.t 35), none, []⟩])
 (.seq (.seq (.reg [⟨(some 36), .mv (.t 10), none, []⟩,
 ⟨(some 37), .not (.t 36), none, []⟩])
 (.cond (.t 37) (.seq (.reg [⟨(some 38), .ldn 7 (.t 9), none, []⟩,
 ⟨(some 39), .build [(.val (.int .i64 0)), (.val (.int .i64 0)), (.val (.int .i64 0)), (.val (.int .i64 0)), (.val (.int .i64 0)), (.val (.int .i64 0)), (.val (.int .i64 0))] [], none, []⟩,
 ⟨(some 40), .eqs false [0, 0, 0, 0, 0, 0, 0] (.t 38) (.t 39), none, []⟩,
 ⟨(some 8), .mv (.t 40), none, []⟩])
 .ret)
 .skip))
 (.seq (.reg [⟨(some 42), .ldn 9 (.t 4), none, []⟩,
 ⟨(some 43), .ldn 6 (.t 5), none, []⟩,
 ⟨(some 44), .ldn 7 (.t 9), none, []⟩,
 ⟨(some 45), .call (.f 23) [(.t 42), (.t 43), (.t 44)], none, []⟩,
 ⟨(some 41), .mv (.t 45), none, []⟩,
 ⟨(some 46), .ext (.t 41) 0, none, []⟩,
 ⟨(some 47), .ext (.t 41) 1, none, []⟩,
 ⟨(some 11), .new 27 [(.val (.slice none 0 0)), (.val (.slice none 0 0)), (.val (.int .i64 0)), (.val (.int .i64 0)), (.val (.int .i64 0)), (.val (.int .i64 0))], none, []⟩,
 ⟨none, .st 6 (.t 11) (.t 46), none, []⟩,
 ⟨(some 12), .mv (.t 47), none, []⟩])
 (.seq (.reg [⟨(some 48), .mv (.t 12), none, []⟩,
 ⟨(some 49), .bin .eql (.t 48) (.c (.val (.int .i64 0))), none, []⟩,
 ⟨(some 8), .mv (.t 49), none, []⟩])
 .ret))))))),
[(.t 8)])
theorem irOk13 : convFn Tryd.prog Tryd.f13 = some ir13 := by kernel_rfl


theorem factsOK_tri (c : ConfD) (s : StateD) (r : List MsgD) (now : Int) : Tri Tryd.prog bookG 13 [confV c, stateV s, msgsV r, .int now] [] (.bool true) [] := by
  refine tri_W0 Tryd.func13 (by decide) irOk13 (Nat.le_of_ble_eq_true rfl) rfl ?_
  simp only [ir13, go_sem, ↓reduceIte, zA, zB, zC, zD, zE, zF, reduceCtorEq, zG, zH, zI, zJ, zK, zL, zM, zN, zO, zP]
  refine W_calld (alive20_tri) rfl rfl rfl rfl ?_; simp only [go_sem, ↓reduceIte, zA, zB, zC, zD, zE, zF, reduceCtorEq, zG, zH, zI, zJ, zK, zL, zM, zN, zO, zP]
  refine W_calld (right_tri c s) rfl rfl rfl rfl ?_; simp only [go_sem, ↓reduceIte, zA, zB, zC, zD, zE, zF, reduceCtorEq, zG, zH, zI, zJ, zK, zL, zM, zN, zO, zP]
  cases hr : rightB c s with
  | false => simp only [go_sem, ↓reduceIte, zA, zB, zC, zD, zE, zF, reduceCtorEq, zG, zH, zI, zJ, zK, zL, zM, zN, zO, zP]
  | true =>
  simp only [go_sem, ↓reduceIte, zA, zB, zC, zD, zE, zF, reduceCtorEq, zG, zH, zI, zJ, zK, zL, zM, zN, zO, zP]
  refine W_calld (time20_tri now) rfl rfl rfl rfl ?_; simp only [go_sem, ↓reduceIte, zA, zB, zC, zD, zE, zF, reduceCtorEq, zG, zH, zI, zJ, zK, zL, zM, zN, zO, zP]
  cases ht : withinB now 0 1000000 with
  | false => simp only [go_sem, ↓reduceIte, zA, zB, zC, zD, zE, zF, reduceCtorEq, zG, zH, zI, zJ, zK, zL, zM, zN, zO, zP]
  | true =>
  have hp := (right_iff c s).1 hr
  have hln := hp.len
  have hlj := hp.jobs
  have hnow : 0 ≤ now ∧ now ≤ 1000000 := of_decide_eq_true ht
  simp only [go_sem, ↓reduceIte, zA, zB, zC, zD, zE, zF, reduceCtorEq, zG, zH, zI, zJ, zK, zL, zM, zN, zO, zP]
  refine WC_split (fun h50 => ?_) (fun h50 => ?_) <;> simp only [h50, go_sem, ↓reduceIte, zA, zB, zC, zD, zE, zF, reduceCtorEq, zG, zH, zI, zJ, zK, zL, zM, zN, zO, zP] <;> (try simp only [beq_iff_eq, beq_eq_false_iff_ne, bne_iff_ne, ne_eq, decide_eq_true_eq, decide_eq_false_iff_not, Bool.not_true, Bool.not_false, Bool.not_eq_true, Bool.not_eq_false, bne_eq_false_iff_eq, Decidable.not_not] at h50)
  refine W_calld (factsNext_tri s r now (by omega) (by omega)) rfl rfl rfl rfl ?_; simp only [go_sem, ↓reduceIte, zA, zB, zC, zD, zE, zF, reduceCtorEq, zG, zH, zI, zJ, zK, zL, zM, zN, zO, zP]
  simp only [optM, go_sem, ↓reduceIte, zA, zB, zC, zD, zE, zF, reduceCtorEq, zG, zH, zI, zJ, zK, zL, zM, zN, zO, zP]
  cases hq : factsF s r now with
  | none => simp only [Option.getD_none, Option.isSome_none, go_sem, ↓reduceIte, zA, zB, zC, zD, zE, zF, reduceCtorEq, zG, zH, zI, zJ, zK, zL, zM, zN, zO, zP]
  | some o =>
    have hok := facts_ok hp hnow (facts_is hq)
    simp only [Option.getD_some, Option.isSome_some, go_sem, ↓reduceIte, zA, zB, zC, zD, zE, zF, reduceCtorEq, zG, zH, zI, zJ, zK, zL, zM, zN, zO, zP]
    refine W_calld (apply_tri c s o) rfl rfl rfl rfl ?_; simp only [go_sem, ↓reduceIte, zA, zB, zC, zD, zE, zF, reduceCtorEq, zG, zH, zI, zJ, zK, zL, zM, zN, zO, zP]
    generalize applyD c s o = p at *
    simp only [hok, go_sem, ↓reduceIte, zA, zB, zC, zD, zE, zF, reduceCtorEq, zG, zH, zI, zJ, zK, zL, zM, zN, zO, zP]
end Dv
