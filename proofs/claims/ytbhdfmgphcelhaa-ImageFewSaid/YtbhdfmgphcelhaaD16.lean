/- The document's book: Fits, Right, LetGo, Same. -/
import Derived.Test.YtbhdfmgphcelhaaD15
set_option linter.unusedVariables false
set_option linter.unusedSimpArgs false
namespace Dv
open Go Go.Proofs
open Nat renaming reduceEqDiff → zA, reduceAdd → zB, reduceSub → zC, reduceMul → zD, reduceLT → zE, reduceLeDiff → zF
open Int renaming reduceLE → zG, reduceLT → zH, reduceToNat → zI, reduceBEq → zJ, reduceBNe → zK, reduceEq → zL, reduceAdd → zM, reduceSub → zN, reduceMul → zO, reduceNeg → zP
attribute [local go_sem] argEnv W_nil W_seq W_skip W_ret W_exit W_scope W_block W_blk W_reg W_regD W_cond WC_t WC_f WC_any Wx_c Wx_ops Wx_lp Wx_blk W_ops_nil W_opsD_q W_guard W_guardD WG_tt WG_ff WG_tf WG_ft WG_u WGD_tt WGD_ff WGD_tf WGD_ft WGD_u WE_some WED_some W_mv W_pick W_new W_box W_build W_bsl W_ld1 W_ldn W_st W_nck W_bin W_eqb W_not W_cvt W_fad W_fld1 W_fldn W_ixa W_ixr W_ix1 W_ixs W_len W_lens W_mkf W_ext W_app W_min W_isnp W_isns W_eqs W_neg W_ixn W_sli W_sls WD_mv WD_pick WD_new WD_box WD_build WD_bsl WD_ld1 WD_ldn WD_st WD_nck WD_bin WD_eqb WD_not WD_cvt WD_fad WD_fld1 WD_fldn WD_ixa WD_ixr WD_ix1 WD_ixs WD_len WD_lens WD_mkf WD_ext WD_app WD_min WD_isnp WD_isns WD_eqs WD_neg WD_ixn WD_sli WD_sls effF Opd.ev getE putE binV LV.int LV.bool LV.undef Go.undef LV.cells LV.toD LV.toDs splice fillL rowsOf srcRows updL objL Eff.owned nwp St.get St.obj St.put Value.oneCell' Ends adopt Ad.ap isNil St.keep St.okKeep okObj idl idlL idlO RVs.of RV.of oneOr Ends0 EndsO_iff frzs rn rnL rnO piOf eqCells eqV boundV Option.map_some Option.map_none List.append_nil List.nil_append List.cons_append List.map_nil List.map_cons List.length_nil List.length_cons List.set_cons_zero List.set_cons_succ List.take_succ_cons List.take_zero List.take_nil List.drop_succ_cons List.drop_zero List.drop_nil List.getElem?_cons_zero List.getElem?_cons_succ List.getElem?_nil List.isEmpty_nil List.isEmpty_cons List.all_cons List.all_nil List.isEmpty_nil cond_true cond_false Bool.true_and Bool.false_and Bool.and_true Bool.and_false Bool.not_true Bool.not_false Bool.or_true Bool.true_or Bool.or_false Bool.false_or true_and and_true true_or or_true Option.some.injEq LV.d.injEq DV.val.injEq Value.bool.injEq Value.int.injEq decide_true decide_false and_self Nat.zero_add Nat.add_zero if_true if_false Int.toNat_zero beq_self_eq_true Nat.zero_lt_succ Int.toNat_natCast Int.natCast_nonneg List.length_map i64 bl List.zip_cons_cons List.zip_nil_left List.zip_nil_right nwp confV stateV nodeV jobV nodesV jobsV opV msgV nodeR jobR opR msgR zeroOp zeroMsg msgsV
variable {G : Nat → Option (List DV)}

/-- dunnageref09.Fits -/
def ir43 : Nat × C × List RV := (68,
(.seq (.reg [⟨(some 3), .box 25 (.t 0), none, []⟩,
 ⟨(some 4), .box 45 (.t 1), none, []⟩,
 ⟨(some 6), .mv (.c (.val (.bool false))), none, []⟩])
 (.seq (.seq (.regD [⟨(some 10), .mv (.t 2), none, []⟩,
 ⟨(some 11), .bin .lss (.t 10) (.c (.val (.int .i64 0))), none, [0]⟩,
 ⟨(some 12), .mv (.t 11), none, [1, 0]⟩,
 ⟨(some 13), .mv (.t 2), (some (12, false)), [2, 1, 0]⟩,
 ⟨(some 14), .bin .geq (.t 13) (.c (.val (.int .i64 64))), (some (12, false)), [3, 2, 1, 0]⟩,
 ⟨(some 15), .pick (.t 12) (.c (.val (.bool true))) (.t 14), none, [2, 1, 0, 4, 3]⟩,
 ⟨(some 16), .mv (.t 15), none, [5, 2, 1, 0, 4, 3]⟩,
 ⟨(some 17), .mv (.t 2), (some (16, false)), [6, 5, 2, 1, 0, 4, 3]⟩,
 ⟨(some 18), .call (.f 49) [(.t 17)], (some (16, false)), [7, 6, 5, 2, 1, 0, 4, 3]⟩,
 ⟨(some 19), .fad 2 (.t 4), (some (16, false)), [6, 5, 2, 1, 0, 4, 3]⟩,
 ⟨(some 20), .ld1 (.t 19), (some (16, false)), [9, 6, 5, 2, 1, 0, 4, 3]⟩,
 ⟨(some 21), .bin .lss (.t 18) (.t 20), (some (16, false)), [8, 7, 6, 5, 2, 1, 0, 4, 3, 10, 9]⟩,
 ⟨(some 22), .pick (.t 16) (.c (.val (.bool true))) (.t 21), none, [6, 5, 2, 1, 0, 4, 3, 11, 8, 7, 10, 9]⟩,
 ⟨(some 23), .mv (.t 22), none, [12, 6, 5, 2, 1, 0, 4, 3, 11, 8, 7, 10, 9]⟩,
 ⟨(some 24), .mv (.t 2), (some (23, false)), [13, 12, 6, 5, 2, 1, 0, 4, 3, 11, 8, 7, 10, 9]⟩,
 ⟨(some 25), .call (.f 49) [(.t 24)], (some (23, false)), [14, 13, 12, 6, 5, 2, 1, 0, 4, 3, 11, 8, 7, 10, 9]⟩,
 ⟨(some 26), .fad 3 (.t 4), (some (23, false)), [13, 12, 6, 5, 2, 1, 0, 4, 3, 11, 8, 7, 10, 9]⟩,
 ⟨(some 27), .ld1 (.t 26), (some (23, false)), [16, 13, 12, 6, 5, 2, 1, 0, 4, 3, 11, 8, 7, 10, 9]⟩,
 ⟨(some 28), .bin .gtr (.t 25) (.t 27), (some (23, false)), [15, 14, 13, 12, 6, 5, 2, 1, 0, 4, 3, 11, 8, 7, 10, 9, 17, 16]⟩,
 ⟨(some 29), .pick (.t 23) (.c (.val (.bool true))) (.t 28), none, [13, 12, 6, 5, 2, 1, 0, 4, 3, 11, 8, 7, 10, 9, 18, 15, 14, 17, 16]⟩])
 (.cond (.t 29) (.seq (.reg [⟨(some 6), .mv (.c (.val (.bool false))), none, []⟩])
 .ret)
 .skip))
 (.seq (.reg [⟨(some 7), .mv (.c (.val (.int .i64 0))), none, []⟩])
 (.seq (.seq (.reg [⟨(some 8), .mv (.c (.val (.int .i64 0))), none, []⟩])
 (.block 0 (.loop (.seq (.seq (.reg [⟨(some 30), .mv (.t 8), none, []⟩,
 ⟨(some 31), .bin .lss (.t 30) (.c (.val (.int .i64 6))), none, []⟩])
 (.cond (.t 31) .skip
 (.exit 0)))
 (.seq (.block 1 (.seq (.seq (.reg [⟨(some 34), .mv (.t 2), none, []⟩,
 ⟨(some 35), .mv (.t 8), none, []⟩,
 ⟨(some 36), .call (.f 44) [(.t 34), (.t 35)], none, []⟩,
 ⟨(some 37), .not (.t 36), none, []⟩])
 (.cond (.t 37) (.exit 1)
 .skip))
 (.seq (.seq (.reg [⟨(some 38), .mv (.t 8), none, []⟩,
 ⟨(some 39), .fad 0 (.t 3), none, []⟩,
 ⟨(some 40), .ld1 (.t 39), none, []⟩,
 ⟨(some 41), .len (.t 40), none, []⟩,
 ⟨(some 42), .bin .geq (.t 38) (.t 41), none, []⟩])
 (.cond (.t 42) (.seq (.reg [⟨(some 6), .mv (.c (.val (.bool false))), none, []⟩])
 .ret)
 .skip))
 (.seq (.reg [⟨(some 43), .fad 0 (.t 3), none, []⟩,
 ⟨(some 44), .ld1 (.t 43), none, []⟩,
 ⟨(some 45), .mv (.t 8), none, []⟩,
 ⟨(some 46), .ixa 5 (.t 44) (.t 45), none, []⟩,
 ⟨(some 47), .fad 3 (.t 46), none, []⟩,
 ⟨(some 48), .ld1 (.t 47), none, []⟩,
 ⟨(some 9), .mv (.t 48), none, []⟩])
 (.seq (.seq (.reg [⟨(some 49), .mv (.t 7), none, []⟩,
 ⟨(some 50), .bin .neq (.t 49) (.c (.val (.int .i64 0))), none, []⟩,
 ⟨(some 51), .mv (.t 50), none, []⟩,
 ⟨(some 52), .mv (.t 9), (some (51, true)), []⟩,
 ⟨(some 53), .mv (.t 7), (some (51, true)), []⟩,
 ⟨(some 54), .bin .neq (.t 52) (.t 53), (some (51, true)), []⟩,
 ⟨(some 55), .pick (.t 51) (.t 54) (.c (.val (.bool false))), none, []⟩,
 ⟨(some 56), .mv (.t 55), none, []⟩,
 ⟨(some 57), .fad 5 (.t 4), (some (56, false)), []⟩,
 ⟨(some 58), .ld1 (.t 57), (some (56, false)), []⟩,
 ⟨(some 59), .bin .neq (.t 58) (.c (.val (.int .i64 0))), (some (56, false)), []⟩,
 ⟨(some 60), .mv (.t 59), (some (56, false)), []⟩,
 ⟨(some 61), .mv (.t 9), (some (60, true)), []⟩,
 ⟨(some 62), .fad 5 (.t 4), (some (60, true)), []⟩,
 ⟨(some 63), .ld1 (.t 62), (some (60, true)), []⟩,
 ⟨(some 64), .bin .neq (.t 61) (.t 63), (some (60, true)), []⟩,
 ⟨(some 65), .pick (.t 60) (.t 64) (.c (.val (.bool false))), (some (56, false)), []⟩,
 ⟨(some 66), .pick (.t 56) (.c (.val (.bool true))) (.t 65), none, []⟩])
 (.cond (.t 66) (.seq (.reg [⟨(some 6), .mv (.c (.val (.bool false))), none, []⟩])
 .ret)
 .skip))
 (.reg [⟨(some 67), .mv (.t 9), none, []⟩,
 ⟨(some 7), .mv (.t 67), none, []⟩]))))))
 (.reg [⟨(some 32), .mv (.t 8), none, []⟩,
 ⟨(some 33), .bin .add (.t 32) (.c (.val (.int .i64 1))), none, []⟩,
 ⟨(some 8), .mv (.t 33), none, []⟩]))))))
 (.seq (.reg [⟨(some 6), .mv (.c (.val (.bool true))), none, []⟩])
 .ret))))),
[(.t 6)])
theorem irOk43 : convFn Try.prog Try.f43 = some ir43 := by kernel_rfl
/-- dunnageref09.Right -/
def ir25 : Nat × C × List RV := (243,
(.seq (.reg [⟨(some 2), .box 32 (.t 0), none, []⟩,
 ⟨(some 3), .box 25 (.t 1), none, []⟩,
 ⟨(some 4), .mv (.c (.val (.bool false))), none, []⟩])
 (.seq (.seq (.reg [⟨(some 12), .ldn 9 (.t 2), none, []⟩,
 ⟨(some 13), .call (.f 39) [(.t 12)], none, []⟩,
 ⟨(some 14), .not (.t 13), none, []⟩,
 ⟨(some 15), .mv (.t 14), none, []⟩,
 ⟨(some 16), .fad 0 (.t 3), (some (15, false)), []⟩,
 ⟨(some 17), .ld1 (.t 16), (some (15, false)), []⟩,
 ⟨(some 18), .len (.t 17), (some (15, false)), []⟩,
 ⟨(some 19), .fad 0 (.t 2), (some (15, false)), []⟩,
 ⟨(some 20), .ld1 (.t 19), (some (15, false)), []⟩,
 ⟨(some 21), .bin .neq (.t 18) (.t 20), (some (15, false)), []⟩,
 ⟨(some 22), .pick (.t 15) (.c (.val (.bool true))) (.t 21), none, []⟩,
 ⟨(some 23), .mv (.t 22), none, []⟩,
 ⟨(some 24), .fad 1 (.t 3), (some (23, false)), []⟩,
 ⟨(some 25), .ld1 (.t 24), (some (23, false)), []⟩,
 ⟨(some 26), .len (.t 25), (some (23, false)), []⟩,
 ⟨(some 27), .bin .gtr (.t 26) (.c (.val (.int .i64 24))), (some (23, false)), []⟩,
 ⟨(some 28), .pick (.t 23) (.c (.val (.bool true))) (.t 27), none, []⟩,
 ⟨(some 29), .mv (.t 28), none, []⟩,
 ⟨(some 30), .fad 2 (.t 3), (some (29, false)), []⟩,
 ⟨(some 31), .ld1 (.t 30), (some (29, false)), []⟩,
 ⟨(some 32), .bin .lss (.t 31) (.c (.val (.int .i64 1))), (some (29, false)), []⟩,
 ⟨(some 33), .pick (.t 29) (.c (.val (.bool true))) (.t 32), none, []⟩,
 ⟨(some 34), .mv (.t 33), none, []⟩,
 ⟨(some 35), .fad 2 (.t 3), (some (34, false)), []⟩,
 ⟨(some 36), .ld1 (.t 35), (some (34, false)), []⟩,
 ⟨(some 37), .bin .gtr (.t 36) (.c (.val (.int .i64 9))), (some (34, false)), []⟩,
 ⟨(some 38), .pick (.t 34) (.c (.val (.bool true))) (.t 37), none, []⟩,
 ⟨(some 39), .mv (.t 38), none, []⟩,
 ⟨(some 40), .fad 3 (.t 3), (some (39, false)), []⟩,
 ⟨(some 41), .ld1 (.t 40), (some (39, false)), []⟩,
 ⟨(some 42), .bin .lss (.t 41) (.c (.val (.int .i64 1))), (some (39, false)), []⟩,
 ⟨(some 43), .pick (.t 39) (.c (.val (.bool true))) (.t 42), none, []⟩,
 ⟨(some 44), .mv (.t 43), none, []⟩,
 ⟨(some 45), .fad 3 (.t 3), (some (44, false)), []⟩,
 ⟨(some 46), .ld1 (.t 45), (some (44, false)), []⟩,
 ⟨(some 47), .bin .gtr (.t 46) (.c (.val (.int .i64 9))), (some (44, false)), []⟩,
 ⟨(some 48), .pick (.t 44) (.c (.val (.bool true))) (.t 47), none, []⟩,
 ⟨(some 49), .mv (.t 48), none, []⟩,
 ⟨(some 50), .fad 4 (.t 3), (some (49, false)), []⟩,
 ⟨(some 51), .ld1 (.t 50), (some (49, false)), []⟩,
 ⟨(some 52), .bin .lss (.t 51) (.c (.val (.int .i64 0))), (some (49, false)), []⟩,
 ⟨(some 53), .pick (.t 49) (.c (.val (.bool true))) (.t 52), none, []⟩,
 ⟨(some 54), .mv (.t 53), none, []⟩,
 ⟨(some 55), .fad 4 (.t 3), (some (54, false)), []⟩,
 ⟨(some 56), .ld1 (.t 55), (some (54, false)), []⟩,
 ⟨(some 57), .bin .gtr (.t 56) (.c (.val (.int .i64 2))), (some (54, false)), []⟩,
 ⟨(some 58), .pick (.t 54) (.c (.val (.bool true))) (.t 57), none, []⟩,
 ⟨(some 59), .mv (.t 58), none, []⟩,
 ⟨(some 60), .fad 5 (.t 3), (some (59, false)), []⟩,
 ⟨(some 61), .ld1 (.t 60), (some (59, false)), []⟩,
 ⟨(some 62), .call (.f 40) [(.t 61)], (some (59, false)), []⟩,
 ⟨(some 63), .not (.t 62), (some (59, false)), []⟩,
 ⟨(some 64), .pick (.t 59) (.c (.val (.bool true))) (.t 63), none, []⟩])
 (.cond (.t 64) (.seq (.reg [⟨(some 4), .mv (.c (.val (.bool false))), none, []⟩])
 .ret)
 .skip))
 (.seq (.seq (.reg [⟨(some 5), .mv (.c (.val (.int .i64 0))), none, []⟩])
 (.block 0 (.loop (.seq (.seq (.reg [⟨(some 65), .mv (.t 5), none, []⟩,
 ⟨(some 66), .fad 0 (.t 3), none, []⟩,
 ⟨(some 67), .ld1 (.t 66), none, []⟩,
 ⟨(some 68), .len (.t 67), none, []⟩,
 ⟨(some 69), .bin .lss (.t 65) (.t 68), none, []⟩])
 (.cond (.t 69) .skip
 (.exit 0)))
 (.seq (.block 1 (.seq (.reg [⟨(some 72), .fad 0 (.t 3), none, []⟩,
 ⟨(some 73), .ld1 (.t 72), none, []⟩,
 ⟨(some 74), .mv (.t 5), none, []⟩,
 ⟨(some 75), .ixa 5 (.t 73) (.t 74), none, []⟩,
 ⟨(some 76), .ldn 5 (.t 75), none, []⟩,
 ⟨(some 6), .new 42 [(.val (.bool false)), (.val (.bool false)), (.val (.bool false)), (.val (.int .i64 0)), (.val (.int .i64 0))], none, []⟩,
 ⟨none, .st 5 (.t 6) (.t 76), none, []⟩])
 (.seq (.reg [⟨(some 77), .fad 3 (.t 6), none, []⟩,
 ⟨(some 78), .ld1 (.t 77), none, []⟩,
 ⟨(some 79), .bin .lss (.t 78) (.c (.val (.int .i64 1))), none, []⟩,
 ⟨(some 80), .mv (.t 79), none, []⟩,
 ⟨(some 81), .fad 3 (.t 6), (some (80, false)), []⟩,
 ⟨(some 82), .ld1 (.t 81), (some (80, false)), []⟩,
 ⟨(some 83), .bin .gtr (.t 82) (.c (.val (.int .i64 9))), (some (80, false)), []⟩,
 ⟨(some 84), .pick (.t 80) (.c (.val (.bool true))) (.t 83), none, []⟩,
 ⟨(some 85), .mv (.t 84), none, []⟩,
 ⟨(some 86), .fad 4 (.t 6), (some (85, false)), []⟩,
 ⟨(some 87), .ld1 (.t 86), (some (85, false)), []⟩,
 ⟨(some 88), .bin .lss (.t 87) (.c (.val (.int .i64 0))), (some (85, false)), []⟩,
 ⟨(some 89), .pick (.t 85) (.c (.val (.bool true))) (.t 88), none, []⟩,
 ⟨(some 90), .mv (.t 89), none, []⟩,
 ⟨(some 91), .fad 4 (.t 6), (some (90, false)), []⟩,
 ⟨(some 92), .ld1 (.t 91), (some (90, false)), []⟩,
 ⟨(some 93), .fad 1 (.t 3), (some (90, false)), []⟩,
 ⟨(some 94), .ld1 (.t 93), (some (90, false)), []⟩,
 ⟨(some 95), .len (.t 94), (some (90, false)), []⟩,
 ⟨(some 96), .bin .gtr (.t 92) (.t 95), (some (90, false)), []⟩,
 ⟨(some 97), .pick (.t 90) (.c (.val (.bool true))) (.t 96), none, []⟩,
 ⟨(some 98), .mv (.t 97), none, []⟩,
 ⟨(some 99), .fad 2 (.t 6), (some (98, false)), []⟩,
 ⟨(some 100), .ld1 (.t 99), (some (98, false)), []⟩,
 ⟨(some 101), .mv (.t 100), (some (98, false)), []⟩,
 ⟨(some 102), .fad 0 (.t 6), (some (101, true)), []⟩,
 ⟨(some 103), .ld1 (.t 102), (some (101, true)), []⟩,
 ⟨(some 104), .mv (.t 103), (some (101, true)), []⟩,
 ⟨(some 105), .fad 1 (.t 6), (some (104, true)), []⟩,
 ⟨(some 106), .ld1 (.t 105), (some (104, true)), []⟩,
 ⟨(some 107), .pick (.t 104) (.t 106) (.c (.val (.bool false))), (some (101, true)), []⟩,
 ⟨(some 108), .mv (.t 107), (some (101, true)), []⟩,
 ⟨(some 109), .fad 4 (.t 6), (some (108, true)), []⟩,
 ⟨(some 110), .ld1 (.t 109), (some (108, true)), []⟩,
 ⟨(some 111), .bin .eql (.t 110) (.c (.val (.int .i64 0))), (some (108, true)), []⟩,
 ⟨(some 112), .pick (.t 108) (.t 111) (.c (.val (.bool false))), (some (101, true)), []⟩,
 ⟨(some 113), .not (.t 112), (some (101, true)), []⟩,
 ⟨(some 114), .pick (.t 101) (.t 113) (.c (.val (.bool false))), (some (98, false)), []⟩,
 ⟨(some 115), .pick (.t 98) (.c (.val (.bool true))) (.t 114), none, []⟩])
 (.cond (.t 115) (.seq (.reg [⟨(some 4), .mv (.c (.val (.bool false))), none, []⟩])
 .ret)
 .skip))))
 (.reg [⟨(some 70), .mv (.t 5), none, []⟩,
 ⟨(some 71), .bin .add (.t 70) (.c (.val (.int .i64 1))), none, []⟩,
 ⟨(some 5), .mv (.t 71), none, []⟩]))))))
 (.seq (.seq (.reg [⟨(some 7), .mv (.c (.val (.int .i64 0))), none, []⟩])
 (.block 2 (.loop (.seq (.seq (.reg [⟨(some 116), .mv (.t 7), none, []⟩,
 ⟨(some 117), .fad 1 (.t 2), none, []⟩,
 ⟨(some 118), .ld1 (.t 117), none, []⟩,
 ⟨(some 119), .bin .lss (.t 116) (.t 118), none, []⟩])
 (.cond (.t 119) .skip
 (.exit 2)))
 (.seq (.block 3 (.seq (.regD [⟨(some 122), .ldn 6 (.t 3), none, []⟩,
 ⟨(some 123), .mv (.t 7), none, []⟩,
 ⟨(some 124), .call (.f 41) [(.t 122), (.t 123)], none, [0, 1]⟩,
 ⟨(some 125), .fad 2 (.t 2), none, []⟩,
 ⟨(some 126), .ld1 (.t 125), none, [3]⟩,
 ⟨(some 127), .bin .gtr (.t 124) (.t 126), none, [2, 0, 1, 4, 3]⟩])
 (.cond (.t 127) (.seq (.reg [⟨(some 4), .mv (.c (.val (.bool false))), none, []⟩])
 .ret)
 .skip)))
 (.reg [⟨(some 120), .mv (.t 7), none, []⟩,
 ⟨(some 121), .bin .add (.t 120) (.c (.val (.int .i64 1))), none, []⟩,
 ⟨(some 7), .mv (.t 121), none, []⟩]))))))
 (.seq (.seq (.reg [⟨(some 8), .mv (.c (.val (.int .i64 0))), none, []⟩])
 (.block 4 (.loop (.seq (.seq (.reg [⟨(some 128), .mv (.t 8), none, []⟩,
 ⟨(some 129), .fad 1 (.t 3), none, []⟩,
 ⟨(some 130), .ld1 (.t 129), none, []⟩,
 ⟨(some 131), .len (.t 130), none, []⟩,
 ⟨(some 132), .bin .lss (.t 128) (.t 131), none, []⟩])
 (.cond (.t 132) .skip
 (.exit 4)))
 (.seq (.block 5 (.seq (.reg [⟨(some 135), .fad 1 (.t 3), none, []⟩,
 ⟨(some 136), .ld1 (.t 135), none, []⟩,
 ⟨(some 137), .mv (.t 8), none, []⟩,
 ⟨(some 138), .ixa 12 (.t 136) (.t 137), none, []⟩,
 ⟨(some 139), .ldn 12 (.t 138), none, []⟩,
 ⟨(some 9), .new 45 [(.val (.int .i64 0)), (.val (.int .i64 0)), (.val (.int .i64 0)), (.val (.int .i64 0)), (.val (.int .i64 0)), (.val (.int .i64 0)), (.val (.int .i64 0)), (.val (.int .i64 0)), (.val (.int .i64 0)), (.val (.int .i64 0)), (.val (.int .i64 0)), (.val (.int .i64 0))], none, []⟩,
 ⟨none, .st 12 (.t 9) (.t 139), none, []⟩])
 (.seq (.seq (.reg [⟨(some 140), .ldn 9 (.t 2), none, []⟩,
 ⟨(some 141), .ldn 12 (.t 9), none, []⟩,
 ⟨(some 142), .call (.f 42) [(.t 140), (.t 141)], none, []⟩,
 ⟨(some 143), .not (.t 142), none, []⟩,
 ⟨(some 144), .mv (.t 143), none, []⟩,
 ⟨(some 145), .fad 6 (.t 9), (some (144, false)), []⟩,
 ⟨(some 146), .ld1 (.t 145), (some (144, false)), []⟩,
 ⟨(some 147), .bin .lss (.t 146) (.c (.val (.int .i64 0))), (some (144, false)), []⟩,
 ⟨(some 148), .pick (.t 144) (.c (.val (.bool true))) (.t 147), none, []⟩,
 ⟨(some 149), .mv (.t 148), none, []⟩,
 ⟨(some 150), .fad 6 (.t 9), (some (149, false)), []⟩,
 ⟨(some 151), .ld1 (.t 150), (some (149, false)), []⟩,
 ⟨(some 152), .bin .gtr (.t 151) (.c (.val (.int .i64 4))), (some (149, false)), []⟩,
 ⟨(some 153), .pick (.t 149) (.c (.val (.bool true))) (.t 152), none, []⟩,
 ⟨(some 154), .mv (.t 153), none, []⟩,
 ⟨(some 155), .fad 7 (.t 9), (some (154, false)), []⟩,
 ⟨(some 156), .ld1 (.t 155), (some (154, false)), []⟩,
 ⟨(some 157), .call (.f 40) [(.t 156)], (some (154, false)), []⟩,
 ⟨(some 158), .not (.t 157), (some (154, false)), []⟩,
 ⟨(some 159), .pick (.t 154) (.c (.val (.bool true))) (.t 158), none, []⟩,
 ⟨(some 160), .mv (.t 159), none, []⟩,
 ⟨(some 161), .fad 9 (.t 9), (some (160, false)), []⟩,
 ⟨(some 162), .ld1 (.t 161), (some (160, false)), []⟩,
 ⟨(some 163), .call (.f 40) [(.t 162)], (some (160, false)), []⟩,
 ⟨(some 164), .not (.t 163), (some (160, false)), []⟩,
 ⟨(some 165), .pick (.t 160) (.c (.val (.bool true))) (.t 164), none, []⟩,
 ⟨(some 166), .mv (.t 165), none, []⟩,
 ⟨(some 167), .fad 10 (.t 9), (some (166, false)), []⟩,
 ⟨(some 168), .ld1 (.t 167), (some (166, false)), []⟩,
 ⟨(some 169), .call (.f 40) [(.t 168)], (some (166, false)), []⟩,
 ⟨(some 170), .not (.t 169), (some (166, false)), []⟩,
 ⟨(some 171), .pick (.t 166) (.c (.val (.bool true))) (.t 170), none, []⟩,
 ⟨(some 172), .mv (.t 171), none, []⟩,
 ⟨(some 173), .fad 11 (.t 9), (some (172, false)), []⟩,
 ⟨(some 174), .ld1 (.t 173), (some (172, false)), []⟩,
 ⟨(some 175), .bin .lss (.t 174) (.c (.val (.int .i64 0))), (some (172, false)), []⟩,
 ⟨(some 176), .pick (.t 172) (.c (.val (.bool true))) (.t 175), none, []⟩,
 ⟨(some 177), .mv (.t 176), none, []⟩,
 ⟨(some 178), .fad 11 (.t 9), (some (177, false)), []⟩,
 ⟨(some 179), .ld1 (.t 178), (some (177, false)), []⟩,
 ⟨(some 180), .fad 7 (.t 9), (some (177, false)), []⟩,
 ⟨(some 181), .ld1 (.t 180), (some (177, false)), []⟩,
 ⟨(some 182), .bin .gtr (.t 179) (.t 181), (some (177, false)), []⟩,
 ⟨(some 183), .pick (.t 177) (.c (.val (.bool true))) (.t 182), none, []⟩])
 (.cond (.t 183) (.seq (.reg [⟨(some 4), .mv (.c (.val (.bool false))), none, []⟩])
 .ret)
 .skip))
 (.seq (.seq (.reg [⟨(some 184), .fad 6 (.t 9), none, []⟩,
 ⟨(some 185), .ld1 (.t 184), none, []⟩,
 ⟨(some 186), .bin .geq (.t 185) (.c (.val (.int .i64 1))), none, []⟩,
 ⟨(some 187), .mv (.t 186), none, []⟩,
 ⟨(some 188), .fad 6 (.t 9), (some (187, true)), []⟩,
 ⟨(some 189), .ld1 (.t 188), (some (187, true)), []⟩,
 ⟨(some 190), .bin .leq (.t 189) (.c (.val (.int .i64 3))), (some (187, true)), []⟩,
 ⟨(some 191), .pick (.t 187) (.t 190) (.c (.val (.bool false))), none, []⟩])
 (.cond (.t 191) (.seq (.reg [⟨(some 192), .ldn 6 (.t 3), none, []⟩,
 ⟨(some 193), .ldn 12 (.t 9), none, []⟩,
 ⟨(some 194), .fad 8 (.t 9), none, []⟩,
 ⟨(some 195), .ld1 (.t 194), none, []⟩,
 ⟨(some 196), .call (.f 43) [(.t 192), (.t 193), (.t 195)], none, []⟩,
 ⟨(some 197), .not (.t 196), none, []⟩])
 (.cond (.t 197) (.seq (.reg [⟨(some 4), .mv (.c (.val (.bool false))), none, []⟩])
 .ret)
 .skip))
 (.seq (.reg [⟨(some 198), .fad 8 (.t 9), none, []⟩,
 ⟨(some 199), .ld1 (.t 198), none, []⟩,
 ⟨(some 200), .bin .neq (.t 199) (.c (.val (.int .i64 0))), none, []⟩])
 (.cond (.t 200) (.seq (.reg [⟨(some 4), .mv (.c (.val (.bool false))), none, []⟩])
 .ret)
 .skip))))
 (.seq (.reg [⟨(some 10), .mv (.c (.val (.int .i64 0))), none, []⟩])
 (.block 6 (.loop (.seq (.seq (.reg [⟨(some 201), .mv (.t 10), none, []⟩,
 ⟨(some 202), .fad 0 (.t 3), none, []⟩,
 ⟨(some 203), .ld1 (.t 202), none, []⟩,
 ⟨(some 204), .len (.t 203), none, []⟩,
 ⟨(some 205), .bin .lss (.t 201) (.t 204), none, []⟩])
 (.cond (.t 205) .skip
 (.exit 6)))
 (.seq (.block 7 (.seq (.reg [⟨(some 208), .fad 0 (.t 3), none, []⟩,
 ⟨(some 209), .ld1 (.t 208), none, []⟩,
 ⟨(some 210), .mv (.t 10), none, []⟩,
 ⟨(some 211), .ixa 5 (.t 209) (.t 210), none, []⟩,
 ⟨(some 212), .fad 4 (.t 211), none, []⟩,
 ⟨(some 213), .ld1 (.t 212), none, []⟩,
 ⟨(some 214), .mv (.t 8), none, []⟩,
 ⟨(some 215), .bin .add (.t 214) (.c (.val (.int .i64 1))), none, []⟩,
 ⟨(some 216), .bin .eql (.t 213) (.t 215), none, []⟩,
 ⟨(some 11), .mv (.t 216), none, []⟩])
 (.seq (.reg [⟨(some 217), .mv (.t 11), none, []⟩,
 ⟨(some 218), .fad 8 (.t 9), none, []⟩,
 ⟨(some 219), .ld1 (.t 218), none, []⟩,
 ⟨(some 220), .mv (.t 10), none, []⟩,
 ⟨(some 221), .call (.f 44) [(.t 219), (.t 220)], none, []⟩,
 ⟨(some 222), .eqb true (.t 217) (.t 221), none, []⟩,
 ⟨(some 223), .mv (.t 222), none, []⟩,
 ⟨(some 224), .mv (.t 11), (some (223, false)), []⟩,
 ⟨(some 225), .mv (.t 224), (some (223, false)), []⟩,
 ⟨(some 226), .fad 0 (.t 3), (some (225, true)), []⟩,
 ⟨(some 227), .ld1 (.t 226), (some (225, true)), []⟩,
 ⟨(some 228), .mv (.t 10), (some (225, true)), []⟩,
 ⟨(some 229), .ixa 5 (.t 227) (.t 228), (some (225, true)), []⟩,
 ⟨(some 230), .fad 0 (.t 229), (some (225, true)), []⟩,
 ⟨(some 231), .ld1 (.t 230), (some (225, true)), []⟩,
 ⟨(some 232), .not (.t 231), (some (225, true)), []⟩,
 ⟨(some 233), .mv (.t 232), (some (225, true)), []⟩,
 ⟨(some 234), .fad 0 (.t 3), (some (233, false)), []⟩,
 ⟨(some 235), .ld1 (.t 234), (some (233, false)), []⟩,
 ⟨(some 236), .mv (.t 10), (some (233, false)), []⟩,
 ⟨(some 237), .ixa 5 (.t 235) (.t 236), (some (233, false)), []⟩,
 ⟨(some 238), .fad 2 (.t 237), (some (233, false)), []⟩,
 ⟨(some 239), .ld1 (.t 238), (some (233, false)), []⟩,
 ⟨(some 240), .pick (.t 233) (.c (.val (.bool true))) (.t 239), (some (225, true)), []⟩,
 ⟨(some 241), .pick (.t 225) (.t 240) (.c (.val (.bool false))), (some (223, false)), []⟩,
 ⟨(some 242), .pick (.t 223) (.c (.val (.bool true))) (.t 241), none, []⟩])
 (.cond (.t 242) (.seq (.reg [⟨(some 4), .mv (.c (.val (.bool false))), none, []⟩])
 .ret)
 .skip))))
 (.reg [⟨(some 206), .mv (.t 10), none, []⟩,
 ⟨(some 207), .bin .add (.t 206) (.c (.val (.int .i64 1))), none, []⟩,
 ⟨(some 10), .mv (.t 207), none, []⟩]))))))))))
 (.reg [⟨(some 133), .mv (.t 8), none, []⟩,
 ⟨(some 134), .bin .add (.t 133) (.c (.val (.int .i64 1))), none, []⟩,
 ⟨(some 8), .mv (.t 134), none, []⟩]))))))
 (.seq (.reg [⟨(some 4), .mv (.c (.val (.bool true))), none, []⟩])
 .ret)))))),
[(.t 4)])
theorem irOk25 : convFn Try.prog Try.f25 = some ir25 := by kernel_rfl


def fits9S (s : StateD) (j : JobD) (nodes : Int) (kv : Nat × Int) : St := ⟨[(2, .int nodes), (3, .ptr 0 0), (4, .ptr 1 0), (7, .int kv.2), (8, .int kv.1)], [some (.box 25 [nodesV s.nodes, jobsV s.jobs, .int s.goal, .int s.prior, .int s.mode, .int s.term]), some (.box 45 [.int j.queue, .int j.prio, .int j.min, .int j.max, .int j.work, .int j.pin, .int j.phase, .int j.inc, .int j.nodes, .int j.since, .int j.til, .int j.epoch])]⟩
theorem fits9_tri (s : StateD) (j : JobD) (nodes : Int) : Tri Try.prog G 43 [stateV s, jobV j, .int nodes] [] (.bool (fitsRB s.nodes j nodes)) [] := by
  refine tri_W0 Try.func43 (by decide) irOk43 (Nat.le_of_ble_eq_true rfl) rfl ?_
  simp only [ir43, go_sem, ↓reduceIte, zA, zB, zC, zD, zE, zF, reduceCtorEq, zG, zH, zI, zJ, zK, zL, zM, zN, zO, zP]
  unfold fitsRB
  repeat' (first
    | (refine WD_calld (many9_tri _) rfl rfl rfl rfl ?_; simp only [go_sem, ↓reduceIte, zA, zB, zC, zD, zE, zF, reduceCtorEq, zG, zH, zI, zJ, zK, zL, zM, zN, zO, zP])
    | ((first | with_reducible refine WGD_splitn (fun h => ?_) (fun h => ?_) | refine WGD_split (fun h => ?_) (fun h => ?_)) <;> simp only [h, go_sem, ↓reduceIte, zA, zB, zC, zD, zE, zF, reduceCtorEq, zG, zH, zI, zJ, zK, zL, zM, zN, zO, zP] <;> (try simp only [beq_iff_eq, beq_eq_false_iff_ne, bne_iff_ne, ne_eq, decide_eq_true_eq, decide_eq_false_iff_not, Bool.not_true, Bool.not_false, Bool.not_eq_true, Bool.not_eq_false, bne_eq_false_iff_eq, Decidable.not_not] at h)) | ((first | with_reducible refine WC_splitn (fun h => ?_) (fun h => ?_) | refine WC_split (fun h => ?_) (fun h => ?_)) <;> simp only [h, go_sem, ↓reduceIte, zA, zB, zC, zD, zE, zF, reduceCtorEq, zG, zH, zI, zJ, zK, zL, zM, zN, zO, zP] <;> (try simp only [beq_iff_eq, beq_eq_false_iff_ne, bne_iff_ne, ne_eq, decide_eq_true_eq, decide_eq_false_iff_not, Bool.not_true, Bool.not_false, Bool.not_eq_true, Bool.not_eq_false, bne_eq_false_iff_eq, Decidable.not_not] at h)))
  all_goals try (rw [if_pos (by omega)]; done)
  rw [if_neg (by omega)]
  generalize hF0 : fitsR s.nodes nodes j.pin 6 0 0 = r
  refine W_loopI [2, 3, 4, 7, 8] [] (fun kv : Nat × Int => kv.1 ≤ 6 ∧ fitsR s.nodes nodes j.pin (6 - kv.1) kv.1 kv.2 = r) (fun kv => 6 - kv.1) (fits9S s j nodes) (0, 0) ?_ ⟨by omega, hF0⟩ ?_
  · simp only [fits9S, go_sem, ↓reduceIte, zA, zB, zC, zD, zE, zF, reduceCtorEq, zG, zH, zI, zJ, zK, zL, zM, zN, zO, zP, Int.natCast_zero]
  rintro ⟨k, v⟩ ⟨hk, hF⟩
  dsimp only at hk hF
  simp only [fits9S, go_sem, ↓reduceIte, zA, zB, zC, zD, zE, zF, reduceCtorEq, zG, zH, zI, zJ, zK, zL, zM, zN, zO, zP]
  refine WC_split (fun h => ?_) (fun h => ?_) <;> simp only [h, go_sem, ↓reduceIte, zA, zB, zC, zD, zE, zF, reduceCtorEq, zG, zH, zI, zJ, zK, zL, zM, zN, zO, zP] <;> (try simp only [beq_iff_eq, beq_eq_false_iff_ne, bne_iff_ne, ne_eq, decide_eq_true_eq, decide_eq_false_iff_not, Bool.not_true, Bool.not_false, Bool.not_eq_true, Bool.not_eq_false, bne_eq_false_iff_eq, Decidable.not_not] at h)
  · rw [show 6 - k = (6 - (k + 1)) + 1 by omega, fitsR] at hF
    have go : ∀ v', fitsR s.nodes nodes j.pin (6 - (k + 1)) (k + 1) v' = r → (k + 1, v').1 ≤ 6 ∧ fitsR s.nodes nodes j.pin (6 - (k + 1, v').1) (k + 1, v').1 (k + 1, v').2 = r := fun v' h' => ⟨by dsimp only; omega, h'⟩
    refine W_calld (has9_tri nodes k (by omega)) rfl rfl rfl rfl ?_; simp only [go_sem, ↓reduceIte, zA, zB, zC, zD, zE, zF, reduceCtorEq, zG, zH, zI, zJ, zK, zL, zM, zN, zO, zP]
    cases hb : hasB nodes k with
    | false =>
      rw [if_pos hb] at hF
      simp only [go_sem, ↓reduceIte, zA, zB, zC, zD, zE, zF, reduceCtorEq, zG, zH, zI, zJ, zK, zL, zM, zN, zO, zP]
      refine W_lpI (k + 1, v) ?_ ?_ (go _ hF) (by dsimp only; omega)
      · simp only [go_sem, ↓reduceIte, zA, zB, zC, zD, zE, zF, reduceCtorEq, zG, zH, zI, zJ, zK, zL, zM, zN, zO, zP]
      · simp only [fits9S, go_sem, ↓reduceIte, zA, zB, zC, zD, zE, zF, reduceCtorEq, zG, zH, zI, zJ, zK, zL, zM, zN, zO, zP, wrap_succ (show k < 9223372036854775807 by omega)]
    | true =>
      rw [if_neg (by simp [hb])] at hF
      simp only [go_sem, ↓reduceIte, zA, zB, zC, zD, zE, zF, reduceCtorEq, zG, zH, zI, zJ, zK, zL, zM, zN, zO, zP]
      refine WC_split (fun h2 => ?_) (fun h2 => ?_) <;> simp only [h2, go_sem, ↓reduceIte, zA, zB, zC, zD, zE, zF, reduceCtorEq, zG, zH, zI, zJ, zK, zL, zM, zN, zO, zP] <;> (try simp only [beq_iff_eq, beq_eq_false_iff_ne, bne_iff_ne, ne_eq, decide_eq_true_eq, decide_eq_false_iff_not, Bool.not_true, Bool.not_false, Bool.not_eq_true, Bool.not_eq_false, bne_eq_false_iff_eq, Decidable.not_not] at h2)
      · rw [if_pos (by omega)] at hF
        simp only [← hF]
      · rw [if_neg (by omega)] at hF
        have hkl : k < s.nodes.length := by omega
        have hg := get_mapD (f := nodeR) zeroNode hkl
        generalize s.nodes.getD k zeroNode = n at *
        simp only [hg, go_sem, ↓reduceIte, zA, zB, zC, zD, zE, zF, reduceCtorEq, zG, zH, zI, zJ, zK, zL, zM, zN, zO, zP]
        have stop : ((v ≠ 0 ∧ n.version ≠ v) ∨ (j.pin ≠ 0 ∧ n.version ≠ j.pin)) → false = r := fun h' => by rw [if_pos h'] at hF; exact hF
        have on : ¬ ((v ≠ 0 ∧ n.version ≠ v) ∨ (j.pin ≠ 0 ∧ n.version ≠ j.pin)) → fitsR s.nodes nodes j.pin (6 - (k + 1)) (k + 1) n.version = r := fun h' => by rw [if_neg h'] at hF; exact hF
        repeat' (first | ((first | with_reducible refine WG_splitn (fun h => ?_) (fun h => ?_) | refine WG_split (fun h => ?_) (fun h => ?_)) <;> simp only [h, go_sem, ↓reduceIte, zA, zB, zC, zD, zE, zF, reduceCtorEq, zG, zH, zI, zJ, zK, zL, zM, zN, zO, zP] <;> (try simp only [beq_iff_eq, beq_eq_false_iff_ne, bne_iff_ne, ne_eq, decide_eq_true_eq, decide_eq_false_iff_not, Bool.not_true, Bool.not_false, Bool.not_eq_true, Bool.not_eq_false, bne_eq_false_iff_eq, Decidable.not_not] at h)) | ((first | with_reducible refine WC_splitn (fun h => ?_) (fun h => ?_) | refine WC_split (fun h => ?_) (fun h => ?_)) <;> simp only [h, go_sem, ↓reduceIte, zA, zB, zC, zD, zE, zF, reduceCtorEq, zG, zH, zI, zJ, zK, zL, zM, zN, zO, zP] <;> (try simp only [beq_iff_eq, beq_eq_false_iff_ne, bne_iff_ne, ne_eq, decide_eq_true_eq, decide_eq_false_iff_not, Bool.not_true, Bool.not_false, Bool.not_eq_true, Bool.not_eq_false, bne_eq_false_iff_eq, Decidable.not_not] at h)))
        all_goals first
          | exact stop (by omega)
          | (refine W_lpI (k + 1, n.version) ?_ ?_ (go _ (on (by omega))) (by dsimp only; omega)
             · simp only [go_sem, ↓reduceIte, zA, zB, zC, zD, zE, zF, reduceCtorEq, zG, zH, zI, zJ, zK, zL, zM, zN, zO, zP]
             · simp only [fits9S, go_sem, ↓reduceIte, zA, zB, zC, zD, zE, zF, reduceCtorEq, zG, zH, zI, zJ, zK, zL, zM, zN, zO, zP, wrap_succ (show k < 9223372036854775807 by omega)])
  · obtain rfl : k = 6 := by omega
    simp only [Nat.sub_self, fitsR] at hF
    simp only [← hF]

theorem nodeRB_dec (s : StateD) (n : NodeD) : nodeRB s n = decide ((1 ≤ n.version ∧ n.version ≤ 9) ∧ (0 ≤ n.job ∧ n.job ≤ s.jobs.length) ∧ (n.moving = true → n.up = true ∧ n.cordon = true ∧ n.job = 0)) := by
  rw [Bool.eq_iff_iff, decide_eq_true_eq]; exact nodeRB_iff s n
theorem numRB_dec (c : ConfD) (j : JobD) : numRB c j = (askedB c j && decide (0 ≤ j.phase ∧ j.phase ≤ 4 ∧ 0 ≤ j.inc ∧ j.inc ≤ 1000000 ∧ 0 ≤ j.since ∧ j.since ≤ 1000000 ∧ 0 ≤ j.til ∧ j.til ≤ 1000000 ∧ 0 ≤ j.epoch ∧ j.epoch ≤ j.inc)) := by
  rw [Bool.eq_iff_iff]
  simp only [numRB, withinB, Bool.and_eq_true, decide_eq_true_eq, and_assoc]
theorem rightRB_dec (c : ConfD) (s : StateD) : rightRB c s = (mayB c && (decide ((s.nodes.length : Int) = c.nodes ∧ s.jobs.length ≤ 24 ∧ 1 ≤ s.goal ∧ s.goal ≤ 9 ∧ 1 ≤ s.prior ∧ s.prior ≤ 9 ∧ 0 ≤ s.mode ∧ s.mode ≤ 2 ∧ 0 ≤ s.term ∧ s.term ≤ 1000000) && (nodesR s s.nodes && quotaFrom c s 0 c.queues.toNat && jobsRB c s s.jobs 0))) := by
  rw [Bool.eq_iff_iff]
  simp only [rightRB, withinB, Bool.and_eq_true, decide_eq_true_eq, and_assoc]
theorem within_num {n lo hi : Int} (h : withinB n lo hi = true) : lo ≤ n ∧ n ≤ hi := within_t h
theorem within_not {n lo hi : Int} (h : withinB n lo hi = false) : ¬ (lo ≤ n ∧ n ≤ hi) := of_decide_eq_false h

def right9S1 (c : ConfD) (s : StateD) (k : Nat) : St := ⟨[(2, .ptr 0 0), (3, .ptr 1 0), (5, .int k)], [some (.box 32 [.int c.nodes, .int c.queues, .int c.quota, .int c.wave, .int c.lease, .int c.retry, .int c.deadline, .int c.room, .int c.disk]), some (.box 25 [nodesV s.nodes, jobsV s.jobs, .int s.goal, .int s.prior, .int s.mode, .int s.term])]⟩
def right9S2 (c : ConfD) (s : StateD) (k : Nat) : St := ⟨[(2, .ptr 0 0), (3, .ptr 1 0), (7, .int k)], [some (.box 32 [.int c.nodes, .int c.queues, .int c.quota, .int c.wave, .int c.lease, .int c.retry, .int c.deadline, .int c.room, .int c.disk]), some (.box 25 [nodesV s.nodes, jobsV s.jobs, .int s.goal, .int s.prior, .int s.mode, .int s.term])]⟩
def right9S3 (c : ConfD) (s : StateD) (k : Nat) : St := ⟨[(2, .ptr 0 0), (3, .ptr 1 0), (8, .int k)], [some (.box 32 [.int c.nodes, .int c.queues, .int c.quota, .int c.wave, .int c.lease, .int c.retry, .int c.deadline, .int c.room, .int c.disk]), some (.box 25 [nodesV s.nodes, jobsV s.jobs, .int s.goal, .int s.prior, .int s.mode, .int s.term])]⟩
def right9S4 (c : ConfD) (s : StateD) (j : JobD) (k i : Nat) : St := ⟨[(2, .ptr 0 0), (3, .ptr 1 0), (8, .int k), (9, .ptr 2 0), (10, .int i)], [some (.box 32 [.int c.nodes, .int c.queues, .int c.quota, .int c.wave, .int c.lease, .int c.retry, .int c.deadline, .int c.room, .int c.disk]), some (.box 25 [nodesV s.nodes, jobsV s.jobs, .int s.goal, .int s.prior, .int s.mode, .int s.term]), some (.box 45 [.int j.queue, .int j.prio, .int j.min, .int j.max, .int j.work, .int j.pin, .int j.phase, .int j.inc, .int j.nodes, .int j.since, .int j.til, .int j.epoch])]⟩
set_option maxHeartbeats 1600000 in
theorem right9_tri (c : ConfD) (s : StateD) : Tri Try.prog G 25 [confV c, stateV s] [] (.bool (rightRB c s)) [] := by
  refine tri_W0 Try.func25 (by decide) irOk25 (Nat.le_of_ble_eq_true rfl) rfl ?_
  simp only [ir25, go_sem, ↓reduceIte, zA, zB, zC, zD, zE, zF, reduceCtorEq, zG, zH, zI, zJ, zK, zL, zM, zN, zO, zP]
  rw [rightRB_dec]
  refine W_calld (may9_tri c) rfl rfl rfl rfl ?_; simp only [go_sem, ↓reduceIte, zA, zB, zC, zD, zE, zF, reduceCtorEq, zG, zH, zI, zJ, zK, zL, zM, zN, zO, zP]
  cases hm : mayB c with
  | false => simp only [go_sem, ↓reduceIte, zA, zB, zC, zD, zE, zF, reduceCtorEq, zG, zH, zI, zJ, zK, zL, zM, zN, zO, zP]
  | true =>
  have hc := mayB_spec hm
  simp only [go_sem, ↓reduceIte, zA, zB, zC, zD, zE, zF, reduceCtorEq, zG, zH, zI, zJ, zK, zL, zM, zN, zO, zP]
  repeat' (first
    | (refine W_calld (number9_tri _) rfl rfl rfl rfl ?_; simp only [go_sem, ↓reduceIte, zA, zB, zC, zD, zE, zF, reduceCtorEq, zG, zH, zI, zJ, zK, zL, zM, zN, zO, zP])
    | ((first | with_reducible refine WG_splitn (fun h => ?_) (fun h => ?_) | refine WG_split (fun h => ?_) (fun h => ?_)) <;> simp only [h, go_sem, ↓reduceIte, zA, zB, zC, zD, zE, zF, reduceCtorEq, zG, zH, zI, zJ, zK, zL, zM, zN, zO, zP] <;> (try simp only [beq_iff_eq, beq_eq_false_iff_ne, bne_iff_ne, ne_eq, decide_eq_true_eq, decide_eq_false_iff_not, Bool.not_true, Bool.not_false, Bool.not_eq_true, Bool.not_eq_false, bne_eq_false_iff_eq, Decidable.not_not] at h)))
  all_goals try (symm; refine Bool.and_eq_false_imp.2 (fun hP => ?_); have hP := of_decide_eq_true hP; omega)
  cases ht : withinB s.term 0 1000000 with
  | false =>
    have := within_not ht
    simp only [go_sem, ↓reduceIte, zA, zB, zC, zD, zE, zF, reduceCtorEq, zG, zH, zI, zJ, zK, zL, zM, zN, zO, zP]
    symm; refine Bool.and_eq_false_imp.2 (fun hP => ?_); have hP := of_decide_eq_true hP; omega
  | true =>
  have ht := within_num ht
  have hlj : s.jobs.length ≤ 24 := by omega
  have hln : s.nodes.length ≤ 6 := by omega
  simp only [go_sem, ↓reduceIte, zA, zB, zC, zD, zE, zF, reduceCtorEq, zG, zH, zI, zJ, zK, zL, zM, zN, zO, zP]
  rw [decide_eq_true (show (s.nodes.length : Int) = c.nodes ∧ s.jobs.length ≤ 24 ∧ 1 ≤ s.goal ∧ s.goal ≤ 9 ∧ 1 ≤ s.prior ∧ s.prior ≤ 9 ∧ 0 ≤ s.mode ∧ s.mode ≤ 2 ∧ 0 ≤ s.term ∧ s.term ≤ 1000000 by omega), Bool.true_and]
  generalize hq : (nodesR s s.nodes && quotaFrom c s 0 c.queues.toNat && jobsRB c s s.jobs 0) = r
  refine W_loopI [2, 3, 5] [] (fun k : Nat => k ≤ s.nodes.length ∧ (nodesR s (s.nodes.drop k) && quotaFrom c s 0 c.queues.toNat && jobsRB c s s.jobs 0) = r) (fun k => s.nodes.length - k) (right9S1 c s) 0 ?_ ⟨Nat.zero_le _, hq⟩ ?_
  · simp only [right9S1, go_sem, ↓reduceIte, zA, zB, zC, zD, zE, zF, reduceCtorEq, zG, zH, zI, zJ, zK, zL, zM, zN, zO, zP, Int.natCast_zero]
  rintro k ⟨hk, hF⟩
  simp only [right9S1, go_sem, ↓reduceIte, zA, zB, zC, zD, zE, zF, reduceCtorEq, zG, zH, zI, zJ, zK, zL, zM, zN, zO, zP]
  refine WC_split (fun h => ?_) (fun h => ?_)
  · have h := lt_of_dec h
    rw [drop_cons _ _ zeroNode h, nodesR, nodeRB_dec] at hF
    have hg := get_mapD (f := nodeR) zeroNode h
    generalize s.nodes.getD k zeroNode = n at *
    obtain ⟨up, cordon, moving, v, jb⟩ := n
    simp only [hg, go_sem, ↓reduceIte, zA, zB, zC, zD, zE, zF, reduceCtorEq, zG, zH, zI, zJ, zK, zL, zM, zN, zO, zP]
    cases moving with
    | false =>
      simp only [Bool.false_eq_true, false_implies, and_true] at hF
      repeat' (first | ((first | with_reducible refine WG_splitn (fun h => ?_) (fun h => ?_) | refine WG_split (fun h => ?_) (fun h => ?_)) <;> simp only [h, go_sem, ↓reduceIte, zA, zB, zC, zD, zE, zF, reduceCtorEq, zG, zH, zI, zJ, zK, zL, zM, zN, zO, zP] <;> (try simp only [beq_iff_eq, beq_eq_false_iff_ne, bne_iff_ne, ne_eq, decide_eq_true_eq, decide_eq_false_iff_not, Bool.not_true, Bool.not_false, Bool.not_eq_true, Bool.not_eq_false, bne_eq_false_iff_eq, Decidable.not_not] at h)) | ((first | with_reducible refine WC_splitn (fun h => ?_) (fun h => ?_) | refine WC_split (fun h => ?_) (fun h => ?_)) <;> simp only [h, go_sem, ↓reduceIte, zA, zB, zC, zD, zE, zF, reduceCtorEq, zG, zH, zI, zJ, zK, zL, zM, zN, zO, zP] <;> (try simp only [beq_iff_eq, beq_eq_false_iff_ne, bne_iff_ne, ne_eq, decide_eq_true_eq, decide_eq_false_iff_not, Bool.not_true, Bool.not_false, Bool.not_eq_true, Bool.not_eq_false, bne_eq_false_iff_eq, Decidable.not_not] at h)))
      all_goals first
        | (rw [decide_eq_false (by omega)] at hF; exact hF)
        | (rw [decide_eq_true (by omega), Bool.true_and] at hF
           refine W_lpI (k + 1) ?_ ?_ ⟨by omega, hF⟩ (by omega)
           · simp only [go_sem, ↓reduceIte, zA, zB, zC, zD, zE, zF, reduceCtorEq, zG, zH, zI, zJ, zK, zL, zM, zN, zO, zP]
           · simp only [right9S1, go_sem, ↓reduceIte, zA, zB, zC, zD, zE, zF, reduceCtorEq, zG, zH, zI, zJ, zK, zL, zM, zN, zO, zP, wrap_succ (show k < 9223372036854775807 by omega)])
    | true =>
      cases up <;> cases cordon <;> simp only [Bool.false_eq_true, true_implies, false_and, and_false, true_and, decide_false, Bool.false_and] at hF <;>
      repeat' (first | ((first | with_reducible refine WG_splitn (fun h => ?_) (fun h => ?_) | refine WG_split (fun h => ?_) (fun h => ?_)) <;> simp only [h, go_sem, ↓reduceIte, zA, zB, zC, zD, zE, zF, reduceCtorEq, zG, zH, zI, zJ, zK, zL, zM, zN, zO, zP] <;> (try simp only [beq_iff_eq, beq_eq_false_iff_ne, bne_iff_ne, ne_eq, decide_eq_true_eq, decide_eq_false_iff_not, Bool.not_true, Bool.not_false, Bool.not_eq_true, Bool.not_eq_false, bne_eq_false_iff_eq, Decidable.not_not] at h)) | ((first | with_reducible refine WC_splitn (fun h => ?_) (fun h => ?_) | refine WC_split (fun h => ?_) (fun h => ?_)) <;> simp only [h, go_sem, ↓reduceIte, zA, zB, zC, zD, zE, zF, reduceCtorEq, zG, zH, zI, zJ, zK, zL, zM, zN, zO, zP] <;> (try simp only [beq_iff_eq, beq_eq_false_iff_ne, bne_iff_ne, ne_eq, decide_eq_true_eq, decide_eq_false_iff_not, Bool.not_true, Bool.not_false, Bool.not_eq_true, Bool.not_eq_false, bne_eq_false_iff_eq, Decidable.not_not] at h)))
      all_goals first
        | exact hF
        | (rw [decide_eq_false (by omega)] at hF; exact hF)
        | (rw [decide_eq_true (by omega), Bool.true_and] at hF
           refine W_lpI (k + 1) ?_ ?_ ⟨by omega, hF⟩ (by omega)
           · simp only [go_sem, ↓reduceIte, zA, zB, zC, zD, zE, zF, reduceCtorEq, zG, zH, zI, zJ, zK, zL, zM, zN, zO, zP]
           · simp only [right9S1, go_sem, ↓reduceIte, zA, zB, zC, zD, zE, zF, reduceCtorEq, zG, zH, zI, zJ, zK, zL, zM, zN, zO, zP, wrap_succ (show k < 9223372036854775807 by omega)])
  · obtain rfl := eq_of_dec h hk
    clear hq hk
    rw [List.drop_length, nodesR, Bool.true_and] at hF
    simp only [go_sem, ↓reduceIte, zA, zB, zC, zD, zE, zF, reduceCtorEq, zG, zH, zI, zJ, zK, zL, zM, zN, zO, zP]
    refine W_loopI [2, 3, 7] [] (fun k : Nat => (k : Int) ≤ c.queues ∧ (quotaFrom c s k (c.queues - k).toNat && jobsRB c s s.jobs 0) = r) (fun k => (c.queues - k).toNat) (right9S2 c s) 0 ?_ ⟨by omega, by simpa using hF⟩ ?_
    · simp only [right9S2, go_sem, ↓reduceIte, zA, zB, zC, zD, zE, zF, reduceCtorEq, zG, zH, zI, zJ, zK, zL, zM, zN, zO, zP, Int.natCast_zero]
    clear hF
    rintro k ⟨hk, hF⟩
    simp only [right9S2, go_sem, ↓reduceIte, zA, zB, zC, zD, zE, zF, reduceCtorEq, zG, zH, zI, zJ, zK, zL, zM, zN, zO, zP]
    refine WC_split (fun h => ?_) (fun h => ?_) <;> simp only [h, go_sem, ↓reduceIte, zA, zB, zC, zD, zE, zF, reduceCtorEq, zG, zH, zI, zJ, zK, zL, zM, zN, zO, zP] <;> (try simp only [beq_iff_eq, beq_eq_false_iff_ne, bne_iff_ne, ne_eq, decide_eq_true_eq, decide_eq_false_iff_not, Bool.not_true, Bool.not_false, Bool.not_eq_true, Bool.not_eq_false, bne_eq_false_iff_eq, Decidable.not_not] at h)
    · rw [show (c.queues - (k : Int)).toNat = (c.queues - ((k + 1 : Nat) : Int)).toNat + 1 by omega, quotaFrom] at hF
      refine WD_calld (drains9_tri s k (by omega)) rfl rfl rfl rfl ?_; simp only [go_sem, ↓reduceIte, zA, zB, zC, zD, zE, zF, reduceCtorEq, zG, zH, zI, zJ, zK, zL, zM, zN, zO, zP]
      refine WC_split (fun hs => ?_) (fun hs => ?_) <;> simp only [hs, go_sem, ↓reduceIte, zA, zB, zC, zD, zE, zF, reduceCtorEq, zG, zH, zI, zJ, zK, zL, zM, zN, zO, zP] <;> (try simp only [beq_iff_eq, beq_eq_false_iff_ne, bne_iff_ne, ne_eq, decide_eq_true_eq, decide_eq_false_iff_not, Bool.not_true, Bool.not_false, Bool.not_eq_true, Bool.not_eq_false, bne_eq_false_iff_eq, Decidable.not_not] at hs)
      · rw [show decide (c.quota < drainsL s.jobs k) = true by simpa using hs] at hF
        simp only [Bool.not_true, Bool.false_and] at hF
        simp only [← hF, go_sem, ↓reduceIte, zA, zB, zC, zD, zE, zF, reduceCtorEq, zG, zH, zI, zJ, zK, zL, zM, zN, zO, zP]
      · rw [show decide (c.quota < drainsL s.jobs k) = false by simpa using hs] at hF
        simp only [Bool.not_false, Bool.true_and] at hF
        refine W_lpI (k + 1) ?_ ?_ ⟨by omega, hF⟩ (by omega)
        · simp only [go_sem, ↓reduceIte, zA, zB, zC, zD, zE, zF, reduceCtorEq, zG, zH, zI, zJ, zK, zL, zM, zN, zO, zP]
        · simp only [right9S2, go_sem, ↓reduceIte, zA, zB, zC, zD, zE, zF, reduceCtorEq, zG, zH, zI, zJ, zK, zL, zM, zN, zO, zP, wrap_succ (show k < 9223372036854775807 by omega)]
    · rw [show (c.queues - (k : Int)).toNat = 0 by omega, quotaFrom, Bool.true_and] at hF
      clear hk
      refine W_loopI [2, 3, 8] [] (fun k : Nat => k ≤ s.jobs.length ∧ jobsRB c s (s.jobs.drop k) k = r) (fun k => s.jobs.length - k) (right9S3 c s) 0 ?_ ⟨by omega, hF⟩ ?_
      · simp only [right9S3, go_sem, ↓reduceIte, zA, zB, zC, zD, zE, zF, reduceCtorEq, zG, zH, zI, zJ, zK, zL, zM, zN, zO, zP, Int.natCast_zero]
      clear hF
      rintro k ⟨hk, hF⟩
      simp only [right9S3, go_sem, ↓reduceIte, zA, zB, zC, zD, zE, zF, reduceCtorEq, zG, zH, zI, zJ, zK, zL, zM, zN, zO, zP]
      refine WC_split (fun h => ?_) (fun h => ?_)
      · have h := lt_of_dec h
        rw [drop_cons _ _ zeroJob h, jobsRB, jobRB, numRB_dec] at hF
        have hg := get_mapD (f := jobR) zeroJob h
        generalize s.jobs.getD k zeroJob = j at *
        simp only [hg, go_sem, ↓reduceIte, zA, zB, zC, zD, zE, zF, reduceCtorEq, zG, zH, zI, zJ, zK, zL, zM, zN, zO, zP]
        refine W_calld (asked9_tri c j) rfl rfl rfl rfl ?_; simp only [go_sem, ↓reduceIte, zA, zB, zC, zD, zE, zF, reduceCtorEq, zG, zH, zI, zJ, zK, zL, zM, zN, zO, zP]
        cases hak : askedB c j with
        | false =>
          rw [hak] at hF
          simp only [Bool.false_and] at hF
          simp only [go_sem, ↓reduceIte, zA, zB, zC, zD, zE, zF, reduceCtorEq, zG, zH, zI, zJ, zK, zL, zM, zN, zO, zP, ← hF]
        | true =>
        rw [hak, Bool.true_and] at hF
        simp only [go_sem, ↓reduceIte, zA, zB, zC, zD, zE, zF, reduceCtorEq, zG, zH, zI, zJ, zK, zL, zM, zN, zO, zP]
        have stop : ¬ (0 ≤ j.phase ∧ j.phase ≤ 4 ∧ 0 ≤ j.inc ∧ j.inc ≤ 1000000 ∧ 0 ≤ j.since ∧ j.since ≤ 1000000 ∧ 0 ≤ j.til ∧ j.til ≤ 1000000 ∧ 0 ≤ j.epoch ∧ j.epoch ≤ j.inc) → false = r := fun h' => by rw [decide_eq_false h'] at hF; simpa using hF
        repeat' (first
          | (refine W_calld (number9_tri _) rfl rfl rfl rfl ?_; simp only [withinB, go_sem, ↓reduceIte, zA, zB, zC, zD, zE, zF, reduceCtorEq, zG, zH, zI, zJ, zK, zL, zM, zN, zO, zP])
          | ((first | with_reducible refine WG_splitn (fun h => ?_) (fun h => ?_) | refine WG_split (fun h => ?_) (fun h => ?_)) <;> simp only [h, go_sem, ↓reduceIte, zA, zB, zC, zD, zE, zF, reduceCtorEq, zG, zH, zI, zJ, zK, zL, zM, zN, zO, zP] <;> (try simp only [beq_iff_eq, beq_eq_false_iff_ne, bne_iff_ne, ne_eq, decide_eq_true_eq, decide_eq_false_iff_not, Bool.not_true, Bool.not_false, Bool.not_eq_true, Bool.not_eq_false, bne_eq_false_iff_eq, Decidable.not_not] at h)))
        all_goals try (refine stop ?_; omega)
        refine WC_split (fun hpe => ?_) (fun hpe => ?_) <;> simp only [hpe, go_sem, ↓reduceIte, zA, zB, zC, zD, zE, zF, reduceCtorEq, zG, zH, zI, zJ, zK, zL, zM, zN, zO, zP] <;> (try simp only [beq_iff_eq, beq_eq_false_iff_ne, bne_iff_ne, ne_eq, decide_eq_true_eq, decide_eq_false_iff_not, Bool.not_true, Bool.not_false, Bool.not_eq_true, Bool.not_eq_false, bne_eq_false_iff_eq, Decidable.not_not] at hpe)
        · exact stop (by omega)
        rw [decide_eq_true (by omega), Bool.true_and] at hF
        clear stop
        cases hp : placedB j.phase with
        | true =>
          have hp2 := of_decide_eq_true hp
          have d1 : decide (j.phase ≥ 1) = true := by simp; omega
          have d2 : decide (j.phase ≤ 3) = true := by simp; omega
          rw [hp, if_pos rfl] at hF
          simp only [d1, d2, go_sem, ↓reduceIte, zA, zB, zC, zD, zE, zF, reduceCtorEq, zG, zH, zI, zJ, zK, zL, zM, zN, zO, zP]
          refine W_calld (fits9_tri s j j.nodes) rfl rfl rfl rfl ?_; simp only [go_sem, ↓reduceIte, zA, zB, zC, zD, zE, zF, reduceCtorEq, zG, zH, zI, zJ, zK, zL, zM, zN, zO, zP]
          cases hf : fitsRB s.nodes j j.nodes with
          | false =>
            rw [hf] at hF
            simp only [Bool.false_and] at hF
            simp only [go_sem, ↓reduceIte, zA, zB, zC, zD, zE, zF, reduceCtorEq, zG, zH, zI, zJ, zK, zL, zM, zN, zO, zP, ← hF]
          | true =>
            rw [hf, Bool.true_and] at hF
            simp only [go_sem, ↓reduceIte, zA, zB, zC, zD, zE, zF, reduceCtorEq, zG, zH, zI, zJ, zK, zL, zM, zN, zO, zP]
            refine W_loopI [2, 3, 8, 9, 10] [] (fun i : Nat => i ≤ s.nodes.length ∧ (linkR j k (s.nodes.drop i) i && jobsRB c s (s.jobs.drop (k + 1)) (k + 1)) = r) (fun i => s.nodes.length - i) (right9S4 c s j k) 0 ?_ ⟨Nat.zero_le _, hF⟩ ?_
            · simp only [right9S4, go_sem, ↓reduceIte, zA, zB, zC, zD, zE, zF, reduceCtorEq, zG, zH, zI, zJ, zK, zL, zM, zN, zO, zP, Int.natCast_zero]
            clear hF
            rintro i ⟨hi, hF⟩
            simp only [right9S4, go_sem, ↓reduceIte, zA, zB, zC, zD, zE, zF, reduceCtorEq, zG, zH, zI, zJ, zK, zL, zM, zN, zO, zP]
            refine WC_split (fun h2 => ?_) (fun h2 => ?_)
            · have h2 := lt_of_dec h2
              rw [drop_cons _ _ zeroNode h2, linkR, linkRB] at hF
              have hgn := get_mapD (f := nodeR) zeroNode h2
              generalize s.nodes.getD i zeroNode = n at *
              have hown : decide (n.job = (k : Int) + 1) = (n.job == ((k + 1 : Nat) : Int)) := rfl
              rw [hown] at hF
              simp only [hgn, wrap_succ (show k < 9223372036854775807 by omega), go_sem, ↓reduceIte, zA, zB, zC, zD, zE, zF, reduceCtorEq, zG, zH, zI, zJ, zK, zL, zM, zN, zO, zP]
              refine W_calld (has9_tri j.nodes i (by omega)) rfl rfl rfl rfl ?_; simp only [go_sem, ↓reduceIte, zA, zB, zC, zD, zE, zF, reduceCtorEq, zG, zH, zI, zJ, zK, zL, zM, zN, zO, zP]
              generalize (n.job == ((k + 1 : Nat) : Int)) = own at *
              generalize hasB j.nodes i = has at *
              obtain ⟨up, cordon, moving, v, jb⟩ := n
              cases own <;> cases has <;> cases up <;> cases moving <;> simp only [hgn, show (true == false) = false from rfl, show (false == true) = false from rfl, go_sem, ↓reduceIte, zA, zB, zC, zD, zE, zF, reduceCtorEq, zG, zH, zI, zJ, zK, zL, zM, zN, zO, zP]
              all_goals first
                | exact hF
                | (refine W_lpI (i + 1) ?_ ?_ ⟨by omega, hF⟩ (by omega)
                   · simp only [go_sem, ↓reduceIte, zA, zB, zC, zD, zE, zF, reduceCtorEq, zG, zH, zI, zJ, zK, zL, zM, zN, zO, zP]
                   · simp only [right9S4, go_sem, ↓reduceIte, zA, zB, zC, zD, zE, zF, reduceCtorEq, zG, zH, zI, zJ, zK, zL, zM, zN, zO, zP, wrap_succ (show i < 9223372036854775807 by omega)])
            · obtain rfl := eq_of_dec h2 hi
              rw [List.drop_length, linkR, Bool.true_and] at hF
              simp only [go_sem, ↓reduceIte, zA, zB, zC, zD, zE, zF, reduceCtorEq, zG, zH, zI, zJ, zK, zL, zM, zN, zO, zP]
              refine W_lpI (k + 1) ?_ ?_ ⟨by omega, hF⟩ (by omega)
              · simp only [go_sem, ↓reduceIte, zA, zB, zC, zD, zE, zF, reduceCtorEq, zG, zH, zI, zJ, zK, zL, zM, zN, zO, zP]
              · simp only [right9S3, go_sem, ↓reduceIte, zA, zB, zC, zD, zE, zF, reduceCtorEq, zG, zH, zI, zJ, zK, zL, zM, zN, zO, zP, wrap_succ (show k < 9223372036854775807 by omega)]
        | false =>
          have hp2 := of_decide_eq_false hp
          rw [hp, if_neg (by simp)] at hF
          have d3 : (decide (j.phase ≥ 1) && decide (j.phase ≤ 3)) = false := by simp; omega
          cases d1 : decide (j.phase ≥ 1) with
          | true =>
            have d2 : decide (j.phase ≤ 3) = false := by rw [d1, Bool.true_and] at d3; exact d3
            simp only [d2, go_sem, ↓reduceIte, zA, zB, zC, zD, zE, zF, reduceCtorEq, zG, zH, zI, zJ, zK, zL, zM, zN, zO, zP]
            refine WC_split (fun hz => ?_) (fun hz => ?_) <;> simp only [hz, go_sem, ↓reduceIte, zA, zB, zC, zD, zE, zF, reduceCtorEq, zG, zH, zI, zJ, zK, zL, zM, zN, zO, zP] <;> (try simp only [beq_iff_eq, beq_eq_false_iff_ne, bne_iff_ne, ne_eq, decide_eq_true_eq, decide_eq_false_iff_not, Bool.not_true, Bool.not_false, Bool.not_eq_true, Bool.not_eq_false, bne_eq_false_iff_eq, Decidable.not_not] at hz)
            · rw [decide_eq_false hz] at hF
              simp only [Bool.false_and] at hF
              simp only [← hF]
            · rw [decide_eq_true hz, Bool.true_and] at hF
              refine W_loopI [2, 3, 8, 9, 10] [] (fun i : Nat => i ≤ s.nodes.length ∧ (linkR j k (s.nodes.drop i) i && jobsRB c s (s.jobs.drop (k + 1)) (k + 1)) = r) (fun i => s.nodes.length - i) (right9S4 c s j k) 0 ?_ ⟨Nat.zero_le _, hF⟩ ?_
              · simp only [right9S4, go_sem, ↓reduceIte, zA, zB, zC, zD, zE, zF, reduceCtorEq, zG, zH, zI, zJ, zK, zL, zM, zN, zO, zP, Int.natCast_zero]
              clear hF
              rintro i ⟨hi, hF⟩
              simp only [right9S4, go_sem, ↓reduceIte, zA, zB, zC, zD, zE, zF, reduceCtorEq, zG, zH, zI, zJ, zK, zL, zM, zN, zO, zP]
              refine WC_split (fun h2 => ?_) (fun h2 => ?_)
              · have h2 := lt_of_dec h2
                rw [drop_cons _ _ zeroNode h2, linkR, linkRB] at hF
                have hgn := get_mapD (f := nodeR) zeroNode h2
                generalize s.nodes.getD i zeroNode = n at *
                have hown : decide (n.job = (k : Int) + 1) = (n.job == ((k + 1 : Nat) : Int)) := rfl
                rw [hown] at hF
                simp only [hgn, wrap_succ (show k < 9223372036854775807 by omega), go_sem, ↓reduceIte, zA, zB, zC, zD, zE, zF, reduceCtorEq, zG, zH, zI, zJ, zK, zL, zM, zN, zO, zP]
                refine W_calld (has9_tri j.nodes i (by omega)) rfl rfl rfl rfl ?_; simp only [go_sem, ↓reduceIte, zA, zB, zC, zD, zE, zF, reduceCtorEq, zG, zH, zI, zJ, zK, zL, zM, zN, zO, zP]
                generalize (n.job == ((k + 1 : Nat) : Int)) = own at *
                generalize hasB j.nodes i = has at *
                obtain ⟨up, cordon, moving, v, jb⟩ := n
                cases own <;> cases has <;> cases up <;> cases moving <;> simp only [hgn, show (true == false) = false from rfl, show (false == true) = false from rfl, go_sem, ↓reduceIte, zA, zB, zC, zD, zE, zF, reduceCtorEq, zG, zH, zI, zJ, zK, zL, zM, zN, zO, zP]
                all_goals first
                  | exact hF
                  | (refine W_lpI (i + 1) ?_ ?_ ⟨by omega, hF⟩ (by omega)
                     · simp only [go_sem, ↓reduceIte, zA, zB, zC, zD, zE, zF, reduceCtorEq, zG, zH, zI, zJ, zK, zL, zM, zN, zO, zP]
                     · simp only [right9S4, go_sem, ↓reduceIte, zA, zB, zC, zD, zE, zF, reduceCtorEq, zG, zH, zI, zJ, zK, zL, zM, zN, zO, zP, wrap_succ (show i < 9223372036854775807 by omega)])
              · obtain rfl := eq_of_dec h2 hi
                rw [List.drop_length, linkR, Bool.true_and] at hF
                simp only [go_sem, ↓reduceIte, zA, zB, zC, zD, zE, zF, reduceCtorEq, zG, zH, zI, zJ, zK, zL, zM, zN, zO, zP]
                refine W_lpI (k + 1) ?_ ?_ ⟨by omega, hF⟩ (by omega)
                · simp only [go_sem, ↓reduceIte, zA, zB, zC, zD, zE, zF, reduceCtorEq, zG, zH, zI, zJ, zK, zL, zM, zN, zO, zP]
                · simp only [right9S3, go_sem, ↓reduceIte, zA, zB, zC, zD, zE, zF, reduceCtorEq, zG, zH, zI, zJ, zK, zL, zM, zN, zO, zP, wrap_succ (show k < 9223372036854775807 by omega)]
          | false =>
            simp only [go_sem, ↓reduceIte, zA, zB, zC, zD, zE, zF, reduceCtorEq, zG, zH, zI, zJ, zK, zL, zM, zN, zO, zP]
            refine WC_split (fun hz => ?_) (fun hz => ?_) <;> simp only [hz, go_sem, ↓reduceIte, zA, zB, zC, zD, zE, zF, reduceCtorEq, zG, zH, zI, zJ, zK, zL, zM, zN, zO, zP] <;> (try simp only [beq_iff_eq, beq_eq_false_iff_ne, bne_iff_ne, ne_eq, decide_eq_true_eq, decide_eq_false_iff_not, Bool.not_true, Bool.not_false, Bool.not_eq_true, Bool.not_eq_false, bne_eq_false_iff_eq, Decidable.not_not] at hz)
            · rw [decide_eq_false hz] at hF
              simp only [Bool.false_and] at hF
              simp only [← hF]
            · rw [decide_eq_true hz, Bool.true_and] at hF
              refine W_loopI [2, 3, 8, 9, 10] [] (fun i : Nat => i ≤ s.nodes.length ∧ (linkR j k (s.nodes.drop i) i && jobsRB c s (s.jobs.drop (k + 1)) (k + 1)) = r) (fun i => s.nodes.length - i) (right9S4 c s j k) 0 ?_ ⟨Nat.zero_le _, hF⟩ ?_
              · simp only [right9S4, go_sem, ↓reduceIte, zA, zB, zC, zD, zE, zF, reduceCtorEq, zG, zH, zI, zJ, zK, zL, zM, zN, zO, zP, Int.natCast_zero]
              clear hF
              rintro i ⟨hi, hF⟩
              simp only [right9S4, go_sem, ↓reduceIte, zA, zB, zC, zD, zE, zF, reduceCtorEq, zG, zH, zI, zJ, zK, zL, zM, zN, zO, zP]
              refine WC_split (fun h2 => ?_) (fun h2 => ?_)
              · have h2 := lt_of_dec h2
                rw [drop_cons _ _ zeroNode h2, linkR, linkRB] at hF
                have hgn := get_mapD (f := nodeR) zeroNode h2
                generalize s.nodes.getD i zeroNode = n at *
                have hown : decide (n.job = (k : Int) + 1) = (n.job == ((k + 1 : Nat) : Int)) := rfl
                rw [hown] at hF
                simp only [hgn, wrap_succ (show k < 9223372036854775807 by omega), go_sem, ↓reduceIte, zA, zB, zC, zD, zE, zF, reduceCtorEq, zG, zH, zI, zJ, zK, zL, zM, zN, zO, zP]
                refine W_calld (has9_tri j.nodes i (by omega)) rfl rfl rfl rfl ?_; simp only [go_sem, ↓reduceIte, zA, zB, zC, zD, zE, zF, reduceCtorEq, zG, zH, zI, zJ, zK, zL, zM, zN, zO, zP]
                generalize (n.job == ((k + 1 : Nat) : Int)) = own at *
                generalize hasB j.nodes i = has at *
                obtain ⟨up, cordon, moving, v, jb⟩ := n
                cases own <;> cases has <;> cases up <;> cases moving <;> simp only [hgn, show (true == false) = false from rfl, show (false == true) = false from rfl, go_sem, ↓reduceIte, zA, zB, zC, zD, zE, zF, reduceCtorEq, zG, zH, zI, zJ, zK, zL, zM, zN, zO, zP]
                all_goals first
                  | exact hF
                  | (refine W_lpI (i + 1) ?_ ?_ ⟨by omega, hF⟩ (by omega)
                     · simp only [go_sem, ↓reduceIte, zA, zB, zC, zD, zE, zF, reduceCtorEq, zG, zH, zI, zJ, zK, zL, zM, zN, zO, zP]
                     · simp only [right9S4, go_sem, ↓reduceIte, zA, zB, zC, zD, zE, zF, reduceCtorEq, zG, zH, zI, zJ, zK, zL, zM, zN, zO, zP, wrap_succ (show i < 9223372036854775807 by omega)])
              · obtain rfl := eq_of_dec h2 hi
                rw [List.drop_length, linkR, Bool.true_and] at hF
                simp only [go_sem, ↓reduceIte, zA, zB, zC, zD, zE, zF, reduceCtorEq, zG, zH, zI, zJ, zK, zL, zM, zN, zO, zP]
                refine W_lpI (k + 1) ?_ ?_ ⟨by omega, hF⟩ (by omega)
                · simp only [go_sem, ↓reduceIte, zA, zB, zC, zD, zE, zF, reduceCtorEq, zG, zH, zI, zJ, zK, zL, zM, zN, zO, zP]
                · simp only [right9S3, go_sem, ↓reduceIte, zA, zB, zC, zD, zE, zF, reduceCtorEq, zG, zH, zI, zJ, zK, zL, zM, zN, zO, zP, wrap_succ (show k < 9223372036854775807 by omega)]
      · obtain rfl := eq_of_dec h hk
        rw [List.drop_length, jobsRB] at hF
        simp only [go_sem, ↓reduceIte, zA, zB, zC, zD, zE, zF, reduceCtorEq, zG, zH, zI, zJ, zK, zL, zM, zN, zO, zP, ← hF]
end Dv
