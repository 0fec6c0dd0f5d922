/- Layer 9's laws: BookBack. -/
import Derived.Test.YtjmceebhnjiikaaDoorD20
import Derived.Test.YtjmceebhnjiikaaDoorL5
set_option linter.unusedVariables false
set_option linter.unusedSimpArgs false
namespace Dv
open Go Go.Proofs
open Nat renaming reduceEqDiff → zA, reduceAdd → zB, reduceSub → zC, reduceMul → zD, reduceLT → zE, reduceLeDiff → zF
open Int renaming reduceLE → zG, reduceLT → zH, reduceToNat → zI, reduceBEq → zJ, reduceBNe → zK, reduceEq → zL, reduceAdd → zM, reduceSub → zN, reduceMul → zO, reduceNeg → zP
attribute [local go_sem] argEnv W_nil W_seq W_skip W_ret W_exit W_scope W_block W_blk W_reg W_regD W_cond WC_t WC_f WC_any Wx_c Wx_ops Wx_lp Wx_blk W_ops_nil W_opsD_q W_guard W_guardD WG_tt WG_ff WG_tf WG_ft WG_u WGD_tt WGD_ff WGD_tf WGD_ft WGD_u WE_some WED_some W_mv W_pick W_new W_box W_build W_bsl W_ld1 W_ldn W_st W_nck W_bin W_eqb W_not W_cvt W_fad W_fld1 W_fldn W_ixa W_ixr W_ix1 W_ixs W_len W_lens W_mkf W_ext W_app W_min W_isnp W_isns W_eqs W_neg W_ixn W_sli W_sls WD_mv WD_pick WD_new WD_box WD_build WD_bsl WD_ld1 WD_ldn WD_st WD_nck WD_bin WD_eqb WD_not WD_cvt WD_fad WD_fld1 WD_fldn WD_ixa WD_ixr WD_ix1 WD_ixs WD_len WD_lens WD_mkf WD_ext WD_app WD_min WD_isnp WD_isns WD_eqs WD_neg WD_ixn WD_sli WD_sls effF Opd.ev getE putE binV LV.int LV.bool LV.undef Go.undef LV.cells LV.toD LV.toDs splice fillL rowsOf srcRows updL objL Eff.owned nwp St.get St.obj St.put Value.oneCell' Ends adopt Ad.ap isNil St.keep St.okKeep okObj idl idlL idlO RVs.of RV.of oneOr Ends0 EndsO_iff frzs rn rnL rnO piOf eqCells eqV boundV Option.map_some Option.map_none List.append_nil List.nil_append List.cons_append List.map_nil List.map_cons List.length_nil List.length_cons List.set_cons_zero List.set_cons_succ List.take_succ_cons List.take_zero List.take_nil List.drop_succ_cons List.drop_zero List.drop_nil List.getElem?_cons_zero List.getElem?_cons_succ List.getElem?_nil List.isEmpty_nil List.isEmpty_cons List.all_cons List.all_nil List.isEmpty_nil cond_true cond_false Bool.true_and Bool.false_and Bool.and_true Bool.and_false Bool.not_true Bool.not_false Bool.or_true Bool.true_or Bool.or_false Bool.false_or true_and and_true true_or or_true Option.some.injEq LV.d.injEq DV.val.injEq Value.bool.injEq Value.int.injEq decide_true decide_false and_self Nat.zero_add Nat.add_zero if_true if_false Int.toNat_zero beq_self_eq_true Nat.zero_lt_succ Int.toNat_natCast Int.natCast_nonneg List.length_map i64 bl List.zip_cons_cons List.zip_nil_left List.zip_nil_right nwp confV stateV nodeV jobV nodesV jobsV opV msgV nodeR jobR opR msgR zeroOp zeroMsg
variable {G : Nat → Option (List DV)}

/-- dunnagelaw09.BookBack -/
def ir9 : Nat × C × List RV := (138,
(.seq (.reg [⟨(some 5), .box 23 (.t 0), none, []⟩,
 ⟨(some 6), .box 27 (.t 1), none, []⟩,
 ⟨(some 10), .mv (.c (.val (.bool false))), none, []⟩])
 (.seq (.seq (.reg [⟨(some 19), .call (.f 14) [], none, []⟩,
 ⟨(some 20), .not (.t 19), none, []⟩])
 (.cond (.t 20) (.seq (.reg [⟨(some 10), .mv (.c (.val (.bool false))), none, []⟩])
 .ret)
 .skip))
 (.seq (.seq (.reg [⟨(some 21), .ldn 6 (.t 6), none, []⟩,
 ⟨(some 22), .call (.f 15) [(.t 21)], none, []⟩,
 ⟨(some 23), .mv (.t 22), none, []⟩,
 ⟨(some 24), .ldn 9 (.t 5), (some (23, false)), []⟩,
 ⟨(some 25), .ldn 6 (.t 6), (some (23, false)), []⟩,
 ⟨(some 26), .call (.f 21) [(.t 24), (.t 25)], (some (23, false)), []⟩,
 ⟨(some 27), .not (.t 26), (some (23, false)), []⟩,
 ⟨(some 28), .pick (.t 23) (.c (.val (.bool true))) (.t 27), none, []⟩,
 ⟨(some 29), .mv (.t 28), none, []⟩,
 ⟨(some 30), .mv (.t 4), (some (29, false)), []⟩,
 ⟨(some 31), .bin .lss (.t 30) (.c (.val (.int .i64 0))), (some (29, false)), []⟩,
 ⟨(some 32), .pick (.t 29) (.c (.val (.bool true))) (.t 31), none, []⟩,
 ⟨(some 33), .mv (.t 32), none, []⟩,
 ⟨(some 34), .mv (.t 4), (some (33, false)), []⟩,
 ⟨(some 35), .bin .gtr (.t 34) (.c (.val (.int .i64 1000000))), (some (33, false)), []⟩,
 ⟨(some 36), .pick (.t 33) (.c (.val (.bool true))) (.t 35), none, []⟩])
 (.cond (.t 36) (.seq (.reg [⟨(some 10), .mv (.c (.val (.bool true))), none, []⟩])
 .ret)
 .skip))
 (.seq (.reg [⟨(some 38), .ldn 9 (.t 5), none, []⟩,
 ⟨(some 39), .ldn 6 (.t 6), none, []⟩,
 ⟨(some 40), .mv (.t 2), none, []⟩,
 ⟨(some 41), .mv (.t 3), none, []⟩,
 ⟨(some 42), .build [(.val (.int .i64 0)), (.val (.int .i64 0)), (.val (.int .i64 0)), (.val (.int .i64 0)), (.val (.int .i64 0)), (.val (.int .i64 0)), (.val (.int .i64 0))] [(0, 1, (.c (.val (.int .i64 9)))), (1, 1, (.t 40)), (2, 1, (.t 41))], none, []⟩,
 ⟨(some 43), .call (.f 23) [(.t 38), (.t 39), (.t 42)], none, []⟩,
 ⟨(some 37), .mv (.t 43), none, []⟩,
 ⟨(some 44), .ext (.t 37) 0, none, []⟩,
 ⟨(some 45), .ext (.t 37) 1, none, []⟩,
 ⟨(some 11), .new 27 [(.val (.slice none 0 0)), (.val (.slice none 0 0)), (.val (.int .i64 0)), (.val (.int .i64 0)), (.val (.int .i64 0)), (.val (.int .i64 0))], none, []⟩,
 ⟨none, .st 6 (.t 11) (.t 44), none, []⟩,
 ⟨(some 12), .mv (.t 45), none, []⟩])
 (.seq (.seq (.reg [⟨(some 46), .mv (.t 12), none, []⟩,
 ⟨(some 47), .bin .neq (.t 46) (.c (.val (.int .i64 0))), none, []⟩])
 (.cond (.t 47) (.seq (.reg [⟨(some 10), .mv (.c (.val (.bool true))), none, []⟩])
 .ret)
 .skip))
 (.seq (.reg [⟨(some 49), .ldn 9 (.t 5), none, []⟩,
 ⟨(some 50), .ldn 6 (.t 11), none, []⟩,
 ⟨(some 51), .mv (.t 2), none, []⟩,
 ⟨(some 52), .build [(.val (.int .i64 0)), (.val (.int .i64 0)), (.val (.int .i64 0)), (.val (.int .i64 0)), (.val (.int .i64 0)), (.val (.int .i64 0)), (.val (.int .i64 0))] [(0, 1, (.c (.val (.int .i64 11)))), (1, 1, (.t 51))], none, []⟩,
 ⟨(some 53), .call (.f 23) [(.t 49), (.t 50), (.t 52)], none, []⟩,
 ⟨(some 48), .mv (.t 53), none, []⟩,
 ⟨(some 54), .ext (.t 48) 0, none, []⟩,
 ⟨(some 55), .ext (.t 48) 1, none, []⟩,
 ⟨(some 13), .new 27 [(.val (.slice none 0 0)), (.val (.slice none 0 0)), (.val (.int .i64 0)), (.val (.int .i64 0)), (.val (.int .i64 0)), (.val (.int .i64 0))], none, []⟩,
 ⟨none, .st 6 (.t 13) (.t 54), none, []⟩,
 ⟨(some 14), .mv (.t 55), none, []⟩])
 (.seq (.reg [⟨(some 57), .ldn 9 (.t 5), none, []⟩,
 ⟨(some 58), .ldn 6 (.t 11), none, []⟩,
 ⟨(some 59), .mv (.t 2), none, []⟩,
 ⟨(some 60), .mv (.t 4), none, []⟩,
 ⟨(some 61), .build [(.val (.int .i64 0)), (.val (.int .i64 0)), (.val (.int .i64 0)), (.val (.int .i64 0)), (.val (.int .i64 0)), (.val (.int .i64 0)), (.val (.int .i64 0))] [(0, 1, (.c (.val (.int .i64 10)))), (1, 1, (.t 59)), (2, 1, (.t 60))], none, []⟩,
 ⟨(some 62), .call (.f 23) [(.t 57), (.t 58), (.t 61)], none, []⟩,
 ⟨(some 56), .mv (.t 62), none, []⟩,
 ⟨(some 63), .ext (.t 56) 0, none, []⟩,
 ⟨(some 64), .ext (.t 56) 1, none, []⟩,
 ⟨(some 15), .new 27 [(.val (.slice none 0 0)), (.val (.slice none 0 0)), (.val (.int .i64 0)), (.val (.int .i64 0)), (.val (.int .i64 0)), (.val (.int .i64 0))], none, []⟩,
 ⟨none, .st 6 (.t 15) (.t 63), none, []⟩,
 ⟨(some 16), .mv (.t 64), none, []⟩])
 (.seq (.reg [⟨(some 66), .ldn 9 (.t 5), none, []⟩,
 ⟨(some 67), .ldn 6 (.t 15), none, []⟩,
 ⟨(some 68), .mv (.t 2), none, []⟩,
 ⟨(some 69), .mv (.t 4), none, []⟩,
 ⟨(some 70), .build [(.val (.int .i64 0)), (.val (.int .i64 0)), (.val (.int .i64 0)), (.val (.int .i64 0)), (.val (.int .i64 0)), (.val (.int .i64 0)), (.val (.int .i64 0))] [(0, 1, (.c (.val (.int .i64 12)))), (1, 1, (.t 68)), (2, 1, (.t 69))], none, []⟩,
 ⟨(some 71), .call (.f 23) [(.t 66), (.t 67), (.t 70)], none, []⟩,
 ⟨(some 65), .mv (.t 71), none, []⟩,
 ⟨(some 72), .ext (.t 65) 0, none, []⟩,
 ⟨(some 73), .ext (.t 65) 1, none, []⟩,
 ⟨none, .st 6 (.t 15) (.t 72), none, []⟩,
 ⟨(some 17), .mv (.t 73), none, []⟩])
 (.seq (.reg [⟨(some 75), .ldn 9 (.t 5), none, []⟩,
 ⟨(some 76), .ldn 6 (.t 15), none, []⟩,
 ⟨(some 77), .mv (.t 2), none, []⟩,
 ⟨(some 78), .build [(.val (.int .i64 0)), (.val (.int .i64 0)), (.val (.int .i64 0)), (.val (.int .i64 0)), (.val (.int .i64 0)), (.val (.int .i64 0)), (.val (.int .i64 0))] [(0, 1, (.c (.val (.int .i64 14)))), (1, 1, (.t 77))], none, []⟩,
 ⟨(some 79), .call (.f 23) [(.t 75), (.t 76), (.t 78)], none, []⟩,
 ⟨(some 74), .mv (.t 79), none, []⟩,
 ⟨(some 80), .ext (.t 74) 0, none, []⟩,
 ⟨(some 81), .ext (.t 74) 1, none, []⟩,
 ⟨none, .st 6 (.t 15) (.t 80), none, []⟩])
 (.seq (.seq (.regD [⟨(some 82), .mv (.t 14), none, []⟩,
 ⟨(some 83), .bin .neq (.t 82) (.c (.val (.int .i64 0))), none, [0]⟩,
 ⟨(some 84), .mv (.t 83), none, [1, 0]⟩,
 ⟨(some 85), .fad 1 (.t 13), (some (84, false)), [2, 1, 0]⟩,
 ⟨(some 86), .ld1 (.t 85), (some (84, false)), [3, 2, 1, 0]⟩,
 ⟨(some 87), .mv (.t 2), (some (84, false)), [2, 1, 0]⟩,
 ⟨(some 88), .bin .sub (.t 87) (.c (.val (.int .i64 1))), (some (84, false)), [5, 2, 1, 0]⟩,
 ⟨(some 89), .ixa 12 (.t 86) (.t 88), (some (84, false)), [4, 3, 2, 1, 0, 6, 5]⟩,
 ⟨(some 90), .fad 7 (.t 89), (some (84, false)), [7, 4, 3, 2, 1, 0, 6, 5]⟩,
 ⟨(some 91), .ld1 (.t 90), (some (84, false)), [8, 7, 4, 3, 2, 1, 0, 6, 5]⟩,
 ⟨(some 92), .fad 1 (.t 6), (some (84, false)), [2, 1, 0]⟩,
 ⟨(some 93), .ld1 (.t 92), (some (84, false)), [10, 2, 1, 0]⟩,
 ⟨(some 94), .mv (.t 2), (some (84, false)), [2, 1, 0]⟩,
 ⟨(some 95), .bin .sub (.t 94) (.c (.val (.int .i64 1))), (some (84, false)), [12, 2, 1, 0]⟩,
 ⟨(some 96), .ixa 12 (.t 93) (.t 95), (some (84, false)), [11, 10, 2, 1, 0, 13, 12]⟩,
 ⟨(some 97), .fad 7 (.t 96), (some (84, false)), [14, 11, 10, 2, 1, 0, 13, 12]⟩,
 ⟨(some 98), .ld1 (.t 97), (some (84, false)), [15, 14, 11, 10, 2, 1, 0, 13, 12]⟩,
 ⟨(some 99), .bin .add (.t 98) (.c (.val (.int .i64 1))), (some (84, false)), [16, 15, 14, 11, 10, 2, 1, 0, 13, 12]⟩,
 ⟨(some 100), .bin .neq (.t 91) (.t 99), (some (84, false)), [9, 8, 7, 4, 3, 2, 1, 0, 6, 5, 17, 16, 15, 14, 11, 10, 13, 12]⟩,
 ⟨(some 101), .pick (.t 84) (.c (.val (.bool true))) (.t 100), none, [2, 1, 0, 18, 9, 8, 7, 4, 3, 6, 5, 17, 16, 15, 14, 11, 10, 13, 12]⟩])
 (.cond (.t 101) (.seq (.reg [⟨(some 10), .mv (.c (.val (.bool false))), none, []⟩])
 .ret)
 .skip))
 (.seq (.reg [⟨(some 102), .ldn 6 (.t 6), none, []⟩,
 ⟨(some 103), .call (.f 29) [(.t 102)], none, []⟩,
 ⟨(some 18), .new 27 [(.val (.slice none 0 0)), (.val (.slice none 0 0)), (.val (.int .i64 0)), (.val (.int .i64 0)), (.val (.int .i64 0)), (.val (.int .i64 0))], none, []⟩,
 ⟨none, .st 6 (.t 18) (.t 103), none, []⟩])
 (.seq (.reg [⟨(some 104), .fad 1 (.t 18), none, []⟩,
 ⟨(some 105), .ld1 (.t 104), none, []⟩,
 ⟨(some 106), .mv (.t 2), none, []⟩,
 ⟨(some 107), .bin .sub (.t 106) (.c (.val (.int .i64 1))), none, []⟩,
 ⟨(some 108), .ixa 12 (.t 105) (.t 107), none, []⟩,
 ⟨(some 109), .fad 7 (.t 108), none, []⟩,
 ⟨(some 110), .ld1 (.t 109), none, []⟩,
 ⟨(some 111), .bin .add (.t 110) (.c (.val (.int .i64 1))), none, []⟩,
 ⟨(some 112), .ixa 12 (.t 105) (.t 107), none, []⟩,
 ⟨(some 113), .fad 7 (.t 112), none, []⟩,
 ⟨none, .st 1 (.t 113) (.t 111), none, []⟩])
 (.seq (.reg [⟨(some 114), .fad 1 (.t 18), none, []⟩,
 ⟨(some 115), .ld1 (.t 114), none, []⟩,
 ⟨(some 116), .mv (.t 2), none, []⟩,
 ⟨(some 117), .bin .sub (.t 116) (.c (.val (.int .i64 1))), none, []⟩,
 ⟨(some 118), .ixa 12 (.t 115) (.t 117), none, []⟩,
 ⟨(some 119), .fad 9 (.t 118), none, []⟩,
 ⟨none, .st 1 (.t 119) (.c (.val (.int .i64 0))), none, []⟩])
 (.seq (.reg [⟨(some 120), .fad 1 (.t 18), none, []⟩,
 ⟨(some 121), .ld1 (.t 120), none, []⟩,
 ⟨(some 122), .mv (.t 2), none, []⟩,
 ⟨(some 123), .bin .sub (.t 122) (.c (.val (.int .i64 1))), none, []⟩,
 ⟨(some 124), .ixa 12 (.t 121) (.t 123), none, []⟩,
 ⟨(some 125), .fad 10 (.t 124), none, []⟩,
 ⟨none, .st 1 (.t 125) (.c (.val (.int .i64 0))), none, []⟩])
 (.seq (.reg [⟨(some 126), .ldn 6 (.t 13), none, []⟩,
 ⟨(some 127), .ldn 6 (.t 18), none, []⟩,
 ⟨(some 128), .call (.f 18) [(.t 126), (.t 127)], none, []⟩,
 ⟨(some 129), .mv (.t 128), none, []⟩,
 ⟨(some 130), .mv (.t 17), (some (129, true)), []⟩,
 ⟨(some 131), .bin .neq (.t 130) (.c (.val (.int .i64 0))), (some (129, true)), []⟩,
 ⟨(some 132), .mv (.t 131), (some (129, true)), []⟩,
 ⟨(some 133), .ldn 6 (.t 15), (some (132, false)), []⟩,
 ⟨(some 134), .ldn 6 (.t 18), (some (132, false)), []⟩,
 ⟨(some 135), .call (.f 18) [(.t 133), (.t 134)], (some (132, false)), []⟩,
 ⟨(some 136), .pick (.t 132) (.c (.val (.bool true))) (.t 135), (some (129, true)), []⟩,
 ⟨(some 137), .pick (.t 129) (.t 136) (.c (.val (.bool false))), none, []⟩,
 ⟨(some 10), .mv (.t 137), none, []⟩])
 .ret))))))))))))))),
[(.t 10)])
theorem irOk9 : convFn Tryd.prog Tryd.f9 = some ir9 := by kernel_rfl


theorem bookBack_tri (c : ConfD) (s : StateD) (job nodes now : Int) : Tri Tryd.prog bookG 9 [confV c, stateV s, .int job, .int nodes, .int now] [] (.bool true) [] := by
  refine tri_W0 Tryd.func9 (by decide) irOk9 (Nat.le_of_ble_eq_true rfl) rfl ?_
  simp only [ir9, go_sem, ↓reduceIte, zA, zB, zC, zD, zE, zF, reduceCtorEq, zG, zH, zI, zJ, zK, zL, zM, zN, zO, zP]
  refine W_calld (alive9_tri) rfl rfl rfl rfl ?_; simp only [go_sem, ↓reduceIte, zA, zB, zC, zD, zE, zF, reduceCtorEq, zG, zH, zI, zJ, zK, zL, zM, zN, zO, zP]
  refine W_calld (great_tri s) rfl rfl rfl rfl ?_; simp only [go_sem, ↓reduceIte, zA, zB, zC, zD, zE, zF, reduceCtorEq, zG, zH, zI, zJ, zK, zL, zM, zN, zO, zP]
  cases hg : greatB s with
  | true => simp only [go_sem, ↓reduceIte, zA, zB, zC, zD, zE, zF, reduceCtorEq, zG, zH, zI, zJ, zK, zL, zM, zN, zO, zP]
  | false =>
  have hgr := great_not hg
  simp only [go_sem, ↓reduceIte, zA, zB, zC, zD, zE, zF, reduceCtorEq, zG, zH, zI, zJ, zK, zL, zM, zN, zO, zP]
  refine W_calld (right_tri c s) rfl rfl rfl rfl ?_; simp only [go_sem, ↓reduceIte, zA, zB, zC, zD, zE, zF, reduceCtorEq, zG, zH, zI, zJ, zK, zL, zM, zN, zO, zP]
  cases hr : rightB c s with
  | false => simp only [go_sem, ↓reduceIte, zA, zB, zC, zD, zE, zF, reduceCtorEq, zG, zH, zI, zJ, zK, zL, zM, zN, zO, zP]
  | true =>
  have hp := (right_iff c s).1 hr
  simp only [go_sem, ↓reduceIte, zA, zB, zC, zD, zE, zF, reduceCtorEq, zG, zH, zI, zJ, zK, zL, zM, zN, zO, zP]
  refine WG_split (fun hn1 => ?_) (fun hn1 => ?_) <;> simp only [hn1, go_sem, ↓reduceIte, zA, zB, zC, zD, zE, zF, reduceCtorEq, zG, zH, zI, zJ, zK, zL, zM, zN, zO, zP] <;> (try simp only [beq_iff_eq, beq_eq_false_iff_ne, bne_iff_ne, ne_eq, decide_eq_true_eq, decide_eq_false_iff_not, Bool.not_true, Bool.not_false, Bool.not_eq_true, Bool.not_eq_false, bne_eq_false_iff_eq, Decidable.not_not] at hn1)
  refine WC_split (fun hn2 => ?_) (fun hn2 => ?_) <;> simp only [hn2, go_sem, ↓reduceIte, zA, zB, zC, zD, zE, zF, reduceCtorEq, zG, zH, zI, zJ, zK, zL, zM, zN, zO, zP] <;> (try simp only [beq_iff_eq, beq_eq_false_iff_ne, bne_iff_ne, ne_eq, decide_eq_true_eq, decide_eq_false_iff_not, Bool.not_true, Bool.not_false, Bool.not_eq_true, Bool.not_eq_false, bne_eq_false_iff_eq, Decidable.not_not] at hn2)
  have hnow : 0 ≤ now ∧ now ≤ 1000000 := by omega
  have hq := apply_right hp ⟨9, job, nodes, 0, 0, 0, 0⟩
  have hbk := back hp (job := job) (nodes := nodes) hnow
  have hpl := hp.len
  have hpj := hp.jobs
  refine W_calld (apply_tri c s ⟨9, job, nodes, 0, 0, 0, 0⟩) rfl rfl rfl rfl ?_; simp only [go_sem, ↓reduceIte, zA, zB, zC, zD, zE, zF, reduceCtorEq, zG, zH, zI, zJ, zK, zL, zM, zN, zO, zP]
  generalize applyD c s ⟨9, job, nodes, 0, 0, 0, 0⟩ = p at *
  cases he : (p.2 != 0) with
  | true => simp only [he, go_sem, ↓reduceIte, zA, zB, zC, zD, zE, zF, reduceCtorEq, zG, zH, zI, zJ, zK, zL, zM, zN, zO, zP]
  | false =>
  obtain ⟨hja, hu, hv⟩ := hbk (by simpa using he)
  obtain ⟨k, rfl, hk2, hk, hJ⟩ := job_of hp hja
  have hinc := (hp.num k hk).inc
  have hw : IntKind.i64.wrap ((k : Int) + 1 - 1) = k := by rw [wrap_in (by omega) (by omega)]; omega
  have hwi : IntKind.i64.wrap ((joA s k).inc + 1) = (joA s k).inc + 1 := wrap_in (by omega) (by omega)
  have hg : (s.jobs.map jobR)[k]? = some (jobR (joA s k)) := get_mapD (f := jobR) zeroJob hk
  have hwr : wantD s ((k : Int) + 1) = { s with jobs := s.jobs.set k { joA s k with inc := (joA s k).inc + 1, since := 0, til := 0 } } := by unfold wantD setJ; rw [hk2, hJ]
  rw [hwr] at hu hv
  generalize joA s k = j at *
  simp only [he, go_sem, ↓reduceIte, zA, zB, zC, zD, zE, zF, reduceCtorEq, zG, zH, zI, zJ, zK, zL, zM, zN, zO, zP]
  refine W_calld (apply_tri c p.1 ⟨11, (k : Int) + 1, 0, 0, 0, 0, 0⟩) rfl rfl rfl rfl ?_; simp only [go_sem, ↓reduceIte, zA, zB, zC, zD, zE, zF, reduceCtorEq, zG, zH, zI, zJ, zK, zL, zM, zN, zO, zP]
  rw [hu]
  simp only [go_sem, ↓reduceIte, zA, zB, zC, zD, zE, zF, reduceCtorEq, zG, zH, zI, zJ, zK, zL, zM, zN, zO, zP]
  refine W_calld (apply_tri c p.1 ⟨10, (k : Int) + 1, now, 0, 0, 0, 0⟩) rfl rfl rfl rfl ?_; simp only [go_sem, ↓reduceIte, zA, zB, zC, zD, zE, zF, reduceCtorEq, zG, zH, zI, zJ, zK, zL, zM, zN, zO, zP]
  generalize applyD c p.1 ⟨10, (k : Int) + 1, now, 0, 0, 0, 0⟩ = v1 at *
  refine W_calld (apply_tri c v1.1 ⟨12, (k : Int) + 1, now, 0, 0, 0, 0⟩) rfl rfl rfl rfl ?_; simp only [go_sem, ↓reduceIte, zA, zB, zC, zD, zE, zF, reduceCtorEq, zG, zH, zI, zJ, zK, zL, zM, zN, zO, zP]
  generalize applyD c v1.1 ⟨12, (k : Int) + 1, now, 0, 0, 0, 0⟩ = v2 at *
  refine W_calld (apply_tri c v2.1 ⟨14, (k : Int) + 1, 0, 0, 0, 0, 0⟩) rfl rfl rfl rfl ?_; simp only [go_sem, ↓reduceIte, zA, zB, zC, zD, zE, zF, reduceCtorEq, zG, zH, zI, zJ, zK, zL, zM, zN, zO, zP]
  generalize applyD c v2.1 ⟨14, (k : Int) + 1, 0, 0, 0, 0, 0⟩ = v3 at *
  simp only [hw, hwi, hk, hg, List.map_set, List.getElem?_set_self, List.length_map, List.length_set, List.set_set, bne_self_eq_false, go_sem, ↓reduceIte, zA, zB, zC, zD, zE, zF, reduceCtorEq, zG, zH, zI, zJ, zK, zL, zM, zN, zO, zP]
  refine W_calln (copy_tri s (by omega) (by omega)) rfl rfl rfl ?_
  simp only [hw, hwi, hk, hg, List.getElem?_set_self, List.length_map, List.length_set, List.set_set, go_sem, ↓reduceIte, zA, zB, zC, zD, zE, zF, reduceCtorEq, zG, zH, zI, zJ, zK, zL, zM, zN, zO, zP]
  have hl1 : ({ s with jobs := s.jobs.set k { j with inc := j.inc + 1, since := 0, til := 0 } } : StateD).nodes.length ≤ 1000000000000 := by dsimp only; omega
  have hl2 : ({ s with jobs := s.jobs.set k { j with inc := j.inc + 1, since := 0, til := 0 } } : StateD).jobs.length ≤ 1000000000000 := by dsimp only; rw [List.length_set]; omega
  refine W_callz [5, 6] (same9_tri { s with jobs := s.jobs.set k { j with inc := j.inc + 1, since := 0, til := 0 } } { s with jobs := s.jobs.set k { j with inc := j.inc + 1, since := 0, til := 0 } } hl1 hl2) rfl (by simp [argRs, argR, rowsAt, objL, List.take_of_length_le, List.map_set, jobR, go_sem, ↓reduceIte, zA, zB, zC, zD, zE, zF, reduceCtorEq, zG, zH, zI, zJ, zK, zL, zM, zN, zO, zP]) (by simp [objL]) rfl rfl ?_; simp only [go_sem, ↓reduceIte, zA, zB, zC, zD, zE, zF, reduceCtorEq, zG, zH, zI, zJ, zK, zL, zM, zN, zO, zP]
  cases hg2 : (v2.2 != 0) with
  | true => simp only [hg2, go_sem, ↓reduceIte, zA, zB, zC, zD, zE, zF, reduceCtorEq, zG, zH, zI, zJ, zK, zL, zM, zN, zO, zP]
  | false =>
    simp only [hg2, hv (by simpa using hg2), List.map_set, go_sem, ↓reduceIte, zA, zB, zC, zD, zE, zF, reduceCtorEq, zG, zH, zI, zJ, zK, zL, zM, zN, zO, zP]
    refine W_callz [5, 6] (same9_tri { s with jobs := s.jobs.set k { j with inc := j.inc + 1, since := 0, til := 0 } } { s with jobs := s.jobs.set k { j with inc := j.inc + 1, since := 0, til := 0 } } hl1 hl2) rfl (by simp [argRs, argR, rowsAt, objL, List.take_of_length_le, List.map_set, jobR, go_sem, ↓reduceIte, zA, zB, zC, zD, zE, zF, reduceCtorEq, zG, zH, zI, zJ, zK, zL, zM, zN, zO, zP]) (by simp [objL]) rfl rfl ?_; simp only [go_sem, ↓reduceIte, zA, zB, zC, zD, zE, zF, reduceCtorEq, zG, zH, zI, zJ, zK, zL, zM, zN, zO, zP]
end Dv
