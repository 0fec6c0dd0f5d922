/- The document's state of bytes. -/
import Derived.Test.YtbhdfmgphcelhaaI12
import Derived.Test.YtbhdfmgphcelhaaI13
import Derived.Test.YtbhdfmgphcelhaaI7
import Derived.Test.YtbhdfmgphcelhaaPB
import Derived.Test.YtbhdfmgphcelhaaD16
set_option linter.unusedVariables false
set_option linter.unusedSimpArgs false
namespace Dv
open Go Go.Proofs
open Nat renaming reduceEqDiff → zA, reduceAdd → zB, reduceSub → zC, reduceMul → zD, reduceLT → zE, reduceLeDiff → zF
open Int renaming reduceLE → zG, reduceLT → zH, reduceToNat → zI, reduceBEq → zJ, reduceBNe → zK, reduceEq → zL, reduceAdd → zM, reduceSub → zN, reduceMul → zO, reduceNeg → zP
attribute [local go_sem] argEnv W_nil W_seq W_skip W_ret W_exit W_scope W_block W_blk W_reg W_regD W_cond WC_t WC_f WC_any Wx_c Wx_ops Wx_lp Wx_blk W_ops_nil W_opsD_q W_guard W_guardD WG_tt WG_ff WG_tf WG_ft WG_u WGD_tt WGD_ff WGD_tf WGD_ft WGD_u WE_some WED_some W_mv W_pick W_new W_box W_build W_bsl W_ld1 W_ldn W_st W_nck W_bin W_eqb W_not W_cvt W_fad W_fld1 W_fldn W_ixa W_ixr W_ix1 W_ixs W_len W_lens W_mkf W_ext W_app W_min W_isnp W_isns W_eqs W_neg W_ixn W_sli W_sls WD_mv WD_pick WD_new WD_box WD_build WD_bsl WD_ld1 WD_ldn WD_st WD_nck WD_bin WD_eqb WD_not WD_cvt WD_fad WD_fld1 WD_fldn WD_ixa WD_ixr WD_ix1 WD_ixs WD_len WD_lens WD_mkf WD_ext WD_app WD_min WD_isnp WD_isns WD_eqs WD_neg WD_ixn WD_sli WD_sls effF Opd.ev getE putE binV LV.int LV.bool LV.undef Go.undef LV.cells LV.toD LV.toDs splice fillL rowsOf srcRows updL objL Eff.owned nwp St.get St.obj St.put Value.oneCell' Ends adopt Ad.ap isNil St.keep St.okKeep okObj idl idlL idlO RVs.of RV.of oneOr Ends0 EndsO_iff frzs rn rnL rnO piOf eqCells eqV boundV Option.map_some Option.map_none List.append_nil List.nil_append List.cons_append List.map_nil List.map_cons List.length_nil List.length_cons List.set_cons_zero List.set_cons_succ List.take_succ_cons List.take_zero List.take_nil List.drop_succ_cons List.drop_zero List.drop_nil List.getElem?_cons_zero List.getElem?_cons_succ List.getElem?_nil List.isEmpty_nil List.isEmpty_cons List.all_cons List.all_nil List.isEmpty_nil cond_true cond_false Bool.true_and Bool.false_and Bool.and_true Bool.and_false Bool.not_true Bool.not_false Bool.or_true Bool.true_or Bool.or_false Bool.false_or true_and and_true true_or or_true Option.some.injEq LV.d.injEq DV.val.injEq Value.bool.injEq Value.int.injEq decide_true decide_false and_self Nat.zero_add Nat.add_zero if_true if_false Int.toNat_zero beq_self_eq_true Nat.zero_lt_succ Int.toNat_natCast Int.natCast_nonneg List.length_map i64 bl List.zip_cons_cons List.zip_nil_left List.zip_nil_right nwp confV stateV nodeV jobV nodesV jobsV opV msgV nodeR jobR opR msgR zeroOp zeroMsg msgsV
variable {G : Nat → Option (List DV)}

/-- dunnageref10.Get -/
def ir12 : Nat × C × List RV := (195,
(.seq (.reg [⟨(some 2), .box 32 (.t 0), none, []⟩,
 ⟨(some 4), .new 25 [(.val (.slice none 0 0)), (.val (.slice none 0 0)), (.val (.int .i64 0)), (.val (.int .i64 0)), (.val (.int .i64 0)), (.val (.int .i64 0))], none, []⟩,
 ⟨(some 5), .mv (.c (.val (.bool false))), none, []⟩])
 (.seq (.reg [⟨(some 6), .new 25 [(.val (.slice none 0 0)), (.val (.slice none 0 0)), (.val (.int .i64 0)), (.val (.int .i64 0)), (.val (.int .i64 0)), (.val (.int .i64 0))], none, []⟩])
 (.seq (.reg [⟨(some 17), .mv (.t 1), none, []⟩,
 ⟨(some 18), .call (.f 24) [(.t 17), (.c (.val (.int .i64 0))), (.c (.val (.int .i64 400)))], none, []⟩,
 ⟨(some 16), .mv (.t 18), none, []⟩,
 ⟨(some 19), .ext (.t 16) 0, none, []⟩,
 ⟨(some 20), .ext (.t 16) 1, none, []⟩,
 ⟨(some 21), .ext (.t 16) 2, none, []⟩,
 ⟨(some 7), .mv (.t 19), none, []⟩,
 ⟨(some 8), .mv (.t 20), none, []⟩,
 ⟨(some 9), .mv (.t 21), none, []⟩])
 (.seq (.seq (.reg [⟨(some 22), .mv (.t 9), none, []⟩,
 ⟨(some 23), .not (.t 22), none, []⟩,
 ⟨(some 24), .mv (.t 23), none, []⟩,
 ⟨(some 25), .mv (.t 7), (some (24, false)), []⟩,
 ⟨(some 26), .len (.t 25), (some (24, false)), []⟩,
 ⟨(some 27), .bin .lss (.t 26) (.c (.val (.int .i64 6))), (some (24, false)), []⟩,
 ⟨(some 28), .pick (.t 24) (.c (.val (.bool true))) (.t 27), none, []⟩,
 ⟨(some 29), .mv (.t 28), none, []⟩,
 ⟨(some 30), .mv (.t 7), (some (29, false)), []⟩,
 ⟨(some 31), .ixa 1 (.t 30) (.c (.val (.int .i64 0))), (some (29, false)), []⟩,
 ⟨(some 32), .ld1 (.t 31), (some (29, false)), []⟩,
 ⟨(some 33), .bin .gtr (.t 32) (.c (.val (.int .i64 6))), (some (29, false)), []⟩,
 ⟨(some 34), .pick (.t 29) (.c (.val (.bool true))) (.t 33), none, []⟩,
 ⟨(some 35), .mv (.t 34), none, []⟩,
 ⟨(some 36), .mv (.t 7), (some (35, false)), []⟩,
 ⟨(some 37), .len (.t 36), (some (35, false)), []⟩,
 ⟨(some 38), .mv (.t 7), (some (35, false)), []⟩,
 ⟨(some 39), .ixa 1 (.t 38) (.c (.val (.int .i64 0))), (some (35, false)), []⟩,
 ⟨(some 40), .ld1 (.t 39), (some (35, false)), []⟩,
 ⟨(some 41), .bin .mul (.c (.val (.int .i64 3))) (.t 40), (some (35, false)), []⟩,
 ⟨(some 42), .bin .add (.c (.val (.int .i64 6))) (.t 41), (some (35, false)), []⟩,
 ⟨(some 43), .bin .lss (.t 37) (.t 42), (some (35, false)), []⟩,
 ⟨(some 44), .pick (.t 35) (.c (.val (.bool true))) (.t 43), none, []⟩])
 (.cond (.t 44) (.seq (.reg [⟨(some 45), .ldn 6 (.t 6), none, []⟩,
 ⟨none, .st 6 (.t 4) (.t 45), none, []⟩,
 ⟨(some 5), .mv (.c (.val (.bool false))), none, []⟩])
 .ret)
 .skip))
 (.seq (.reg [⟨(some 10), .mv (.c (.val (.int .i64 1))), none, []⟩])
 (.seq (.seq (.reg [⟨(some 11), .mv (.c (.val (.int .i64 0))), none, []⟩])
 (.block 0 (.loop (.seq (.seq (.reg [⟨(some 46), .mv (.t 11), none, []⟩,
 ⟨(some 47), .mv (.t 7), none, []⟩,
 ⟨(some 48), .ixa 1 (.t 47) (.c (.val (.int .i64 0))), none, []⟩,
 ⟨(some 49), .ld1 (.t 48), none, []⟩,
 ⟨(some 50), .bin .lss (.t 46) (.t 49), none, []⟩])
 (.cond (.t 50) .skip
 (.exit 0)))
 (.seq (.block 1 (.seq (.reg [⟨(some 53), .mv (.t 7), none, []⟩,
 ⟨(some 54), .mv (.t 10), none, []⟩,
 ⟨(some 55), .ixa 1 (.t 53) (.t 54), none, []⟩,
 ⟨(some 56), .ld1 (.t 55), none, []⟩,
 ⟨(some 12), .mv (.t 56), none, []⟩])
 (.seq (.regD [⟨(some 57), .fad 0 (.t 6), none, []⟩,
 ⟨(some 58), .ld1 (.t 57), none, [0]⟩,
 ⟨(some 59), .mv (.t 12), none, []⟩,
 ⟨(some 60), .bin .rem (.t 59) (.c (.val (.int .i64 2))), none, [2]⟩,
 ⟨(some 61), .bin .eql (.t 60) (.c (.val (.int .i64 1))), none, [3, 2]⟩,
 ⟨(some 62), .mv (.t 12), none, []⟩,
 ⟨(some 63), .bin .quo (.t 62) (.c (.val (.int .i64 2))), none, [5]⟩,
 ⟨(some 64), .bin .rem (.t 63) (.c (.val (.int .i64 2))), none, [6, 5]⟩,
 ⟨(some 65), .bin .eql (.t 64) (.c (.val (.int .i64 1))), none, [7, 6, 5]⟩,
 ⟨(some 66), .mv (.t 12), none, []⟩,
 ⟨(some 67), .bin .quo (.t 66) (.c (.val (.int .i64 4))), none, [9]⟩,
 ⟨(some 68), .bin .rem (.t 67) (.c (.val (.int .i64 2))), none, [10, 9]⟩,
 ⟨(some 69), .bin .eql (.t 68) (.c (.val (.int .i64 1))), none, [11, 10, 9]⟩,
 ⟨(some 70), .mv (.t 7), none, []⟩,
 ⟨(some 71), .mv (.t 10), none, []⟩,
 ⟨(some 72), .bin .add (.t 71) (.c (.val (.int .i64 1))), none, [14]⟩,
 ⟨(some 73), .ixa 1 (.t 70) (.t 72), none, [13, 15, 14]⟩,
 ⟨(some 74), .ld1 (.t 73), none, [16, 13, 15, 14]⟩,
 ⟨(some 75), .mv (.t 7), none, []⟩,
 ⟨(some 76), .mv (.t 10), none, []⟩,
 ⟨(some 77), .bin .add (.t 76) (.c (.val (.int .i64 2))), none, [19]⟩,
 ⟨(some 78), .ixa 1 (.t 75) (.t 77), none, [18, 20, 19]⟩,
 ⟨(some 79), .ld1 (.t 78), none, [21, 18, 20, 19]⟩,
 ⟨(some 80), .build [(.val (.bool false)), (.val (.bool false)), (.val (.bool false)), (.val (.int .i64 0)), (.val (.int .i64 0))] [(0, 1, (.t 61)), (1, 1, (.t 65)), (2, 1, (.t 69)), (3, 1, (.t 74)), (4, 1, (.t 79))], none, [4, 3, 2, 8, 7, 6, 5, 12, 11, 10, 9, 17, 16, 13, 15, 14, 22, 21, 18, 20, 19]⟩,
 ⟨(some 81), .bsl 42 5 [(.t 80)], none, [23, 4, 3, 2, 8, 7, 6, 5, 12, 11, 10, 9, 17, 16, 13, 15, 14, 22, 21, 18, 20, 19]⟩,
 ⟨(some 82), .app 42 5 24 (.t 58) (.t 81), none, [1, 0, 24, 23, 4, 3, 2, 8, 7, 6, 5, 12, 11, 10, 9, 17, 16, 13, 15, 14, 22, 21, 18, 20, 19]⟩,
 ⟨(some 83), .fad 0 (.t 6), none, [0, 1, 2, 3, 4, 5, 6, 7, 8, 9, 10, 11, 12, 13, 14, 15, 16, 17, 18, 19, 20, 21, 22, 23, 24, 25]⟩,
 ⟨none, .st 1 (.t 83) (.t 82), none, [26, 0, 1, 2, 3, 4, 5, 6, 7, 8, 9, 10, 11, 12, 13, 14, 15, 16, 17, 18, 19, 20, 21, 22, 23, 24, 25]⟩])
 (.reg [⟨(some 84), .mv (.t 10), none, []⟩,
 ⟨(some 85), .bin .add (.t 84) (.c (.val (.int .i64 3))), none, []⟩,
 ⟨(some 10), .mv (.t 85), none, []⟩]))))
 (.reg [⟨(some 51), .mv (.t 11), none, []⟩,
 ⟨(some 52), .bin .add (.t 51) (.c (.val (.int .i64 1))), none, []⟩,
 ⟨(some 11), .mv (.t 52), none, []⟩]))))))
 (.seq (.reg [⟨(some 86), .mv (.t 7), none, []⟩,
 ⟨(some 87), .mv (.t 10), none, []⟩,
 ⟨(some 88), .ixa 1 (.t 86) (.t 87), none, []⟩,
 ⟨(some 89), .ld1 (.t 88), none, []⟩,
 ⟨(some 13), .mv (.t 89), none, []⟩])
 (.seq (.reg [⟨(some 90), .mv (.t 10), none, []⟩,
 ⟨(some 91), .bin .add (.t 90) (.c (.val (.int .i64 1))), none, []⟩,
 ⟨(some 10), .mv (.t 91), none, []⟩])
 (.seq (.seq (.reg [⟨(some 92), .mv (.t 13), none, []⟩,
 ⟨(some 93), .bin .gtr (.t 92) (.c (.val (.int .i64 24))), none, []⟩,
 ⟨(some 94), .mv (.t 93), none, []⟩,
 ⟨(some 95), .mv (.t 7), (some (94, false)), []⟩,
 ⟨(some 96), .len (.t 95), (some (94, false)), []⟩,
 ⟨(some 97), .mv (.t 10), (some (94, false)), []⟩,
 ⟨(some 98), .mv (.t 13), (some (94, false)), []⟩,
 ⟨(some 99), .bin .mul (.c (.val (.int .i64 12))) (.t 98), (some (94, false)), []⟩,
 ⟨(some 100), .bin .add (.t 97) (.t 99), (some (94, false)), []⟩,
 ⟨(some 101), .bin .add (.t 100) (.c (.val (.int .i64 4))), (some (94, false)), []⟩,
 ⟨(some 102), .bin .neq (.t 96) (.t 101), (some (94, false)), []⟩,
 ⟨(some 103), .pick (.t 94) (.c (.val (.bool true))) (.t 102), none, []⟩])
 (.cond (.t 103) (.seq (.reg [⟨(some 104), .build [(.val (.slice none 0 0)), (.val (.slice none 0 0)), (.val (.int .i64 0)), (.val (.int .i64 0)), (.val (.int .i64 0)), (.val (.int .i64 0))] [], none, []⟩,
 ⟨none, .st 6 (.t 4) (.t 104), none, []⟩,
 ⟨(some 5), .mv (.c (.val (.bool false))), none, []⟩])
 .ret)
 .skip))
 (.seq (.seq (.reg [⟨(some 14), .mv (.c (.val (.int .i64 0))), none, []⟩])
 (.block 2 (.loop (.seq (.seq (.reg [⟨(some 105), .mv (.t 14), none, []⟩,
 ⟨(some 106), .mv (.t 13), none, []⟩,
 ⟨(some 107), .bin .lss (.t 105) (.t 106), none, []⟩])
 (.cond (.t 107) .skip
 (.exit 2)))
 (.seq (.block 3 (.seq (.reg [⟨(some 110), .mv (.t 7), none, []⟩,
 ⟨(some 111), .mv (.t 10), none, []⟩,
 ⟨(some 112), .mv (.t 10), none, []⟩,
 ⟨(some 113), .bin .add (.t 112) (.c (.val (.int .i64 12))), none, []⟩,
 ⟨(some 114), .sli 1 (.t 110) (some (.t 111)) (some (.t 113)) none, none, []⟩,
 ⟨(some 15), .mv (.t 114), none, []⟩])
 (.seq (.regD [⟨(some 115), .fad 1 (.t 6), none, []⟩,
 ⟨(some 116), .ld1 (.t 115), none, [0]⟩,
 ⟨(some 117), .mv (.t 15), none, []⟩,
 ⟨(some 118), .ixa 1 (.t 117) (.c (.val (.int .i64 0))), none, [2]⟩,
 ⟨(some 119), .ld1 (.t 118), none, [3, 2]⟩,
 ⟨(some 120), .mv (.t 15), none, []⟩,
 ⟨(some 121), .ixa 1 (.t 120) (.c (.val (.int .i64 1))), none, [5]⟩,
 ⟨(some 122), .ld1 (.t 121), none, [6, 5]⟩,
 ⟨(some 123), .mv (.t 15), none, []⟩,
 ⟨(some 124), .ixa 1 (.t 123) (.c (.val (.int .i64 2))), none, [8]⟩,
 ⟨(some 125), .ld1 (.t 124), none, [9, 8]⟩,
 ⟨(some 126), .mv (.t 15), none, []⟩,
 ⟨(some 127), .ixa 1 (.t 126) (.c (.val (.int .i64 3))), none, [11]⟩,
 ⟨(some 128), .ld1 (.t 127), none, [12, 11]⟩,
 ⟨(some 129), .mv (.t 15), none, []⟩,
 ⟨(some 130), .ixa 1 (.t 129) (.c (.val (.int .i64 4))), none, [14]⟩,
 ⟨(some 131), .ld1 (.t 130), none, [15, 14]⟩,
 ⟨(some 132), .mv (.t 15), none, []⟩,
 ⟨(some 133), .ixa 1 (.t 132) (.c (.val (.int .i64 5))), none, [17]⟩,
 ⟨(some 134), .ld1 (.t 133), none, [18, 17]⟩,
 ⟨(some 135), .mv (.t 15), none, []⟩,
 ⟨(some 136), .ixa 1 (.t 135) (.c (.val (.int .i64 6))), none, [20]⟩,
 ⟨(some 137), .ld1 (.t 136), none, [21, 20]⟩,
 ⟨(some 138), .mv (.t 15), none, []⟩,
 ⟨(some 139), .ixa 1 (.t 138) (.c (.val (.int .i64 7))), none, [23]⟩,
 ⟨(some 140), .ld1 (.t 139), none, [24, 23]⟩,
 ⟨(some 141), .mv (.t 15), none, []⟩,
 ⟨(some 142), .ixa 1 (.t 141) (.c (.val (.int .i64 8))), none, [26]⟩,
 ⟨(some 143), .ld1 (.t 142), none, [27, 26]⟩,
 ⟨(some 144), .mv (.t 15), none, []⟩,
 ⟨(some 145), .ixa 1 (.t 144) (.c (.val (.int .i64 9))), none, [29]⟩,
 ⟨(some 146), .ld1 (.t 145), none, [30, 29]⟩,
 ⟨(some 147), .mv (.t 15), none, []⟩,
 ⟨(some 148), .ixa 1 (.t 147) (.c (.val (.int .i64 10))), none, [32]⟩,
 ⟨(some 149), .ld1 (.t 148), none, [33, 32]⟩,
 ⟨(some 150), .mv (.t 15), none, []⟩,
 ⟨(some 151), .ixa 1 (.t 150) (.c (.val (.int .i64 11))), none, [35]⟩,
 ⟨(some 152), .ld1 (.t 151), none, [36, 35]⟩,
 ⟨(some 153), .build [(.val (.int .i64 0)), (.val (.int .i64 0)), (.val (.int .i64 0)), (.val (.int .i64 0)), (.val (.int .i64 0)), (.val (.int .i64 0)), (.val (.int .i64 0)), (.val (.int .i64 0)), (.val (.int .i64 0)), (.val (.int .i64 0)), (.val (.int .i64 0)), (.val (.int .i64 0))] [(0, 1, (.t 119)), (1, 1, (.t 122)), (2, 1, (.t 125)), (3, 1, (.t 128)), (4, 1, (.t 131)), (5, 1, (.t 134)), (6, 1, (.t 137)), (7, 1, (.t 140)), (8, 1, (.t 143)), (9, 1, (.t 146)), (10, 1, (.t 149)), (11, 1, (.t 152))], none, [4, 3, 2, 7, 6, 5, 10, 9, 8, 13, 12, 11, 16, 15, 14, 19, 18, 17, 22, 21, 20, 25, 24, 23, 28, 27, 26, 31, 30, 29, 34, 33, 32, 37, 36, 35]⟩,
 ⟨(some 154), .bsl 45 12 [(.t 153)], none, [38, 4, 3, 2, 7, 6, 5, 10, 9, 8, 13, 12, 11, 16, 15, 14, 19, 18, 17, 22, 21, 20, 25, 24, 23, 28, 27, 26, 31, 30, 29, 34, 33, 32, 37, 36, 35]⟩,
 ⟨(some 155), .app 45 12 96 (.t 116) (.t 154), none, [1, 0, 39, 38, 4, 3, 2, 7, 6, 5, 10, 9, 8, 13, 12, 11, 16, 15, 14, 19, 18, 17, 22, 21, 20, 25, 24, 23, 28, 27, 26, 31, 30, 29, 34, 33, 32, 37, 36, 35]⟩,
 ⟨(some 156), .fad 1 (.t 6), none, [0, 1, 2, 3, 4, 5, 6, 7, 8, 9, 10, 11, 12, 13, 14, 15, 16, 17, 18, 19, 20, 21, 22, 23, 24, 25, 26, 27, 28, 29, 30, 31, 32, 33, 34, 35, 36, 37, 38, 39, 40]⟩,
 ⟨none, .st 1 (.t 156) (.t 155), none, [41, 0, 1, 2, 3, 4, 5, 6, 7, 8, 9, 10, 11, 12, 13, 14, 15, 16, 17, 18, 19, 20, 21, 22, 23, 24, 25, 26, 27, 28, 29, 30, 31, 32, 33, 34, 35, 36, 37, 38, 39, 40]⟩])
 (.reg [⟨(some 157), .mv (.t 10), none, []⟩,
 ⟨(some 158), .bin .add (.t 157) (.c (.val (.int .i64 12))), none, []⟩,
 ⟨(some 10), .mv (.t 158), none, []⟩]))))
 (.reg [⟨(some 108), .mv (.t 14), none, []⟩,
 ⟨(some 109), .bin .add (.t 108) (.c (.val (.int .i64 1))), none, []⟩,
 ⟨(some 14), .mv (.t 109), none, []⟩]))))))
 (.seq (.reg [⟨(some 159), .mv (.t 7), none, []⟩,
 ⟨(some 160), .mv (.t 10), none, []⟩,
 ⟨(some 161), .ixa 1 (.t 159) (.t 160), none, []⟩,
 ⟨(some 162), .ld1 (.t 161), none, []⟩,
 ⟨(some 163), .fad 2 (.t 6), none, []⟩,
 ⟨none, .st 1 (.t 163) (.t 162), none, []⟩])
 (.seq (.reg [⟨(some 164), .mv (.t 7), none, []⟩,
 ⟨(some 165), .mv (.t 10), none, []⟩,
 ⟨(some 166), .bin .add (.t 165) (.c (.val (.int .i64 1))), none, []⟩,
 ⟨(some 167), .ixa 1 (.t 164) (.t 166), none, []⟩,
 ⟨(some 168), .ld1 (.t 167), none, []⟩,
 ⟨(some 169), .fad 3 (.t 6), none, []⟩,
 ⟨none, .st 1 (.t 169) (.t 168), none, []⟩])
 (.seq (.reg [⟨(some 170), .mv (.t 7), none, []⟩,
 ⟨(some 171), .mv (.t 10), none, []⟩,
 ⟨(some 172), .bin .add (.t 171) (.c (.val (.int .i64 2))), none, []⟩,
 ⟨(some 173), .ixa 1 (.t 170) (.t 172), none, []⟩,
 ⟨(some 174), .ld1 (.t 173), none, []⟩,
 ⟨(some 175), .fad 4 (.t 6), none, []⟩,
 ⟨none, .st 1 (.t 175) (.t 174), none, []⟩])
 (.seq (.reg [⟨(some 176), .mv (.t 7), none, []⟩,
 ⟨(some 177), .mv (.t 10), none, []⟩,
 ⟨(some 178), .bin .add (.t 177) (.c (.val (.int .i64 3))), none, []⟩,
 ⟨(some 179), .ixa 1 (.t 176) (.t 178), none, []⟩,
 ⟨(some 180), .ld1 (.t 179), none, []⟩,
 ⟨(some 181), .fad 5 (.t 6), none, []⟩,
 ⟨none, .st 1 (.t 181) (.t 180), none, []⟩])
 (.seq (.seq (.reg [⟨(some 182), .ldn 6 (.t 6), none, []⟩,
 ⟨(some 183), .call (.f 10) [(.t 182)], none, []⟩,
 ⟨(some 184), .mv (.t 1), none, []⟩,
 ⟨(some 185), .call (.f 8) [(.t 183), (.t 184)], none, []⟩,
 ⟨(some 186), .not (.t 185), none, []⟩,
 ⟨(some 187), .mv (.t 186), none, []⟩,
 ⟨(some 188), .ldn 9 (.t 2), (some (187, false)), []⟩,
 ⟨(some 189), .ldn 6 (.t 6), (some (187, false)), []⟩,
 ⟨(some 190), .call (.f 25) [(.t 188), (.t 189)], (some (187, false)), []⟩,
 ⟨(some 191), .not (.t 190), (some (187, false)), []⟩,
 ⟨(some 192), .pick (.t 187) (.c (.val (.bool true))) (.t 191), none, []⟩])
 (.cond (.t 192) (.seq (.reg [⟨(some 193), .build [(.val (.slice none 0 0)), (.val (.slice none 0 0)), (.val (.int .i64 0)), (.val (.int .i64 0)), (.val (.int .i64 0)), (.val (.int .i64 0))] [], none, []⟩,
 ⟨none, .st 6 (.t 4) (.t 193), none, []⟩,
 ⟨(some 5), .mv (.c (.val (.bool false))), none, []⟩])
 .ret)
 .skip))
 (.seq (.reg [⟨(some 194), .ldn 6 (.t 6), none, []⟩,
 ⟨none, .st 6 (.t 4) (.t 194), none, []⟩,
 ⟨(some 5), .mv (.c (.val (.bool true))), none, []⟩])
 .ret)))))))))))))))),
[(.cn 4 6), (.t 5)])
theorem irOk12 : convFn Try.prog Try.f12 = some ir12 := by kernel_rfl


def nilL : LV := .d (.val (.slice none 0 0))
attribute [local go_sem] bytesV nilL
def cfBox (c : ConfD) : LObj := .box 32 [.int c.nodes, .int c.queues, .int c.quota, .int c.wave, .int c.lease, .int c.retry, .int c.deadline, .int c.room, .int c.disk]
def zBox : LObj := .box 25 [nilL, nilL, .int 0, .int 0, .int 0, .int 0]
attribute [local go_sem] cfBox zBox
def get1S (c : ConfD) (b xs : List Int) (k : Nat) : St := ⟨[(1, bytesV b), (2, .ptr 0 0), (4, .ptr 1 0), (6, .ptr 2 0), (7, .sl 3 xs.length 1 0 xs.length), (10, .int (1 + 3 * k : Nat)), (11, .int k)],
  [some (cfBox c), some zBox, some (.box 25 [.sl 4 k 5 0 k, nilL, .int 0, .int 0, .int 0, .int 0]), some (.dat 3 1 (numR xs)), some (.dat 42 5 ((nodesL xs k).map nodeR))]⟩
def get2S (c : ConfD) (b xs : List Int) (k : Nat) : St := ⟨[(1, bytesV b), (2, .ptr 0 0), (4, .ptr 1 0), (6, .ptr 2 0), (7, .sl 3 xs.length 1 0 xs.length), (10, .int (2 + 3 * cntX xs + 12 * k : Nat)), (13, .int (jobsX xs)), (14, .int k)],
  [some (cfBox c), some zBox, some (.box 25 [.sl 4 (cntX xs) 5 0 (cntX xs), .sl 5 k 12 0 k, .int 0, .int 0, .int 0, .int 0]), some (.dat 3 1 (numR xs)), some (.dat 42 5 ((nodesL xs (cntX xs)).map nodeR)), some (.dat 45 12 ((jobsL xs k).map jobR))]⟩

theorem putI_len (s : StateD) : (putI s).length ≤ 1000000 := by
  unfold putI
  split
  · rename_i h
    unfold listB
    split
    · have hl : (numsI s).length = 2 + 3 * s.nodes.length + 12 * s.jobs.length + 4 := by unfold numsI; rw [List.length_append, numsJ_len s (Nat.le_refl _)]; rfl
      have h1 := flat_le (numsI s)
      have h2 := numB_le ((numsI s).length : Int)
      rw [List.length_append]
      omega
    · simp
  · simp
set_option maxHeartbeats 4000000 in
theorem get1_tri (c : ConfD) (b : List Int) (hb : ∀ x ∈ b, 0 ≤ x ∧ x ≤ 255) (hl : b.length ≤ 1000000) : Tri Try.prog G 12 [confV c, bytesV b] [] (getOf (getR c b)) [] := by
  refine tri_W Try.func12 (by decide) irOk12 (Nat.le_of_ble_eq_true rfl) ?_
  generalize hq : getR c b = q
  unfold getR at hq
  simp only [ir12, go_sem, ↓reduceIte, zA, zB, zC, zD, zE, zF, reduceCtorEq, zG, zH, zI, zJ, zK, zL, zM, zN, zO, zP]
  cases hL : getL b 0 400 with
  | none =>
    rw [hL] at hq
    subst hq
    refine W_calld (getList1_tri b hb hl 400 (by decide) none hL) rfl rfl rfl rfl ?_
    simp only [gl1Res, gl1Obj, go_sem, ↓reduceIte, zA, zB, zC, zD, zE, zF, reduceCtorEq, zG, zH, zI, zJ, zK, zL, zM, zN, zO, zP]
    exact BackZ [] (vs := [.agg [nilL, nilL, .int 0, .int 0, .int 0, .int 0], .bool false]) rfl (fun z hz => by cases hz) (by simp [oneOr, getOf, argR, argRs, LV.bool, LV.int, zeroS, stateV, nilL, nodesV, jobsV])
  | some xe =>
  obtain ⟨xs, e⟩ := xe
  obtain ⟨h1, h2, h3⟩ := getL_rng (fun c hc => (hb c hc).1) hL
  rw [hL] at hq
  dsimp only at hq
  refine W_calln (getList1_tri b hb hl 400 (by decide) (some (xs, e)) hL) rfl rfl rfl ?_
  simp only [gl1Res, gl1Obj, go_sem, ↓reduceIte, zA, zB, zC, zD, zE, zF, reduceCtorEq, zG, zH, zI, zJ, zK, zL, zM, zN, zO, zP]
  have bad : ∀ {x : Bool}, x = false → (if okA xs = true ∧ okB xs = true ∧ putI (stX xs) = b ∧ rightRB c (stX xs) = true then some (stX xs) else none) = q → True := fun _ _ => trivial
  by_cases hA1 : 6 ≤ xs.length
  case neg =>
    have : okA xs = false := decide_eq_false (by omega)
    rw [if_neg (by rw [this]; simp)] at hq
    subst hq
    simp only [decide_eq_true (show ((xs.length : Nat) : Int) < 6 by omega), go_sem, ↓reduceIte, zA, zB, zC, zD, zE, zF, reduceCtorEq, zG, zH, zI, zJ, zK, zL, zM, zN, zO, zP]
    exact BackZ [] (vs := [.agg [nilL, nilL, .int 0, .int 0, .int 0, .int 0], .bool false]) rfl (fun z hz => by cases hz) (by simp [oneOr, getOf, argR, argRs, LV.bool, LV.int, zeroS, stateV, nilL, nodesV, jobsV])
  have hg0 := get_mapD (f := fun n : Int => [i64 n]) 0 (show 0 < xs.length by omega)
  have hx0 := h2 (xs.getD 0 0) (by simp [List.getD, show 0 < xs.length by omega])
  have hnl : (numR xs).length = xs.length := by simp [numR]
  have hN : xs.getD 0 0 = (cntX xs : Int) := (Int.toNat_of_nonneg hx0.1).symm
  rw [hN] at hg0 hx0
  have hg0b : (numR xs)[0]? = some [DV.val (.int .i64 (cntX xs : Int))] := hg0
  have hL0 : 0 < xs.length := by omega
  simp only [decide_eq_false (show ¬ ((xs.length : Nat) : Int) < 6 by omega), hL0, hnl, hg0b, go_sem, ↓reduceIte, zA, zB, zC, zD, zE, zF, reduceCtorEq, zG, zH, zI, zJ, zK, zL, zM, zN, zO, zP]
  by_cases hA2 : cntX xs ≤ 6
  case neg =>
    have : okA xs = false := decide_eq_false (by omega)
    rw [if_neg (by rw [this]; simp)] at hq
    subst hq
    simp only [decide_eq_true (show ((cntX xs : Nat) : Int) > 6 by omega), go_sem, ↓reduceIte, zA, zB, zC, zD, zE, zF, reduceCtorEq, zG, zH, zI, zJ, zK, zL, zM, zN, zO, zP]
    exact BackZ [] (vs := [.agg [nilL, nilL, .int 0, .int 0, .int 0, .int 0], .bool false]) rfl (fun z hz => by cases hz) (by simp [oneOr, getOf, argR, argRs, LV.bool, LV.int, zeroS, stateV, nilL, nodesV, jobsV])
  have hw1 : IntKind.i64.wrap (3 * (cntX xs : Int)) = 3 * (cntX xs : Int) := wrap_in (by omega) (by omega)
  have hw2 : IntKind.i64.wrap (6 + 3 * (cntX xs : Int)) = 6 + 3 * (cntX xs : Int) := wrap_in (by omega) (by omega)
  simp only [decide_eq_false (show ¬ ((cntX xs : Nat) : Int) > 6 by omega), hL0, hnl, hg0b, hw1, hw2, go_sem, ↓reduceIte, zA, zB, zC, zD, zE, zF, reduceCtorEq, zG, zH, zI, zJ, zK, zL, zM, zN, zO, zP]
  by_cases hA3 : 6 + 3 * (cntX xs : Int) ≤ xs.length
  case neg =>
    have : okA xs = false := decide_eq_false (by omega)
    rw [if_neg (by rw [this]; simp)] at hq
    subst hq
    simp only [decide_eq_true (show ((xs.length : Nat) : Int) < 6 + 3 * (cntX xs : Int) by omega), go_sem, ↓reduceIte, zA, zB, zC, zD, zE, zF, reduceCtorEq, zG, zH, zI, zJ, zK, zL, zM, zN, zO, zP]
    exact BackZ [] (vs := [.agg [nilL, nilL, .int 0, .int 0, .int 0, .int 0], .bool false]) rfl (fun z hz => by cases hz) (by simp [oneOr, getOf, argR, argRs, LV.bool, LV.int, zeroS, stateV, nilL, nodesV, jobsV])
  have hokA : okA xs = true := decide_eq_true (by omega)
  simp only [decide_eq_false (show ¬ ((xs.length : Nat) : Int) < 6 + 3 * (cntX xs : Int) by omega), go_sem, ↓reduceIte, zA, zB, zC, zD, zE, zF, reduceCtorEq, zG, zH, zI, zJ, zK, zL, zM, zN, zO, zP]
  refine W_loopI [1, 2, 4, 6, 7, 10, 11] [.b 2 0 42 5] (fun k : Nat => k ≤ cntX xs) (fun k => cntX xs - k) (get1S c b xs) 0 ?_ (Nat.zero_le _) ?_
  · simp only [get1S, Nat.mul_zero, Nat.add_zero, nodesL, List.range_zero, Int.natCast_zero, go_sem, ↓reduceIte, zA, zB, zC, zD, zE, zF, reduceCtorEq, zG, zH, zI, zJ, zK, zL, zM, zN, zO, zP]
    rfl
  intro k hk
  simp only [get1S, hnl, hL0, hg0b, go_sem, ↓reduceIte, zA, zB, zC, zD, zE, zF, reduceCtorEq, zG, zH, zI, zJ, zK, zL, zM, zN, zO, zP]
  cases hlt : decide ((k : Int) < (cntX xs : Int)) with
  | true =>
    have hk2 : k < cntX xs := by have := of_decide_eq_true hlt; omega
    have l1 : 1 + 3 * k < xs.length := by omega
    have l2 : 1 + 3 * k + 1 < xs.length := by omega
    have l3 : 1 + 3 * k + 2 < xs.length := by omega
    have g1 := get_mapD (f := fun n : Int => [i64 n]) 0 l1
    have g2 := get_mapD (f := fun n : Int => [i64 n]) 0 l2
    have g3 := get_mapD (f := fun n : Int => [i64 n]) 0 l3
    have hf := h2 (xs.getD (1 + 3 * k) 0) (by simp [List.getD, l1])
    have hsucc := nodesL_succ xs k
    unfold nodeX nodeF at hsucc
    generalize xs.getD (1 + 3 * k) 0 = f at *
    generalize xs.getD (1 + 3 * k + 1) 0 = v at *
    generalize xs.getD (1 + 3 * k + 2) 0 = j at *
    have g1b : (numR xs)[1 + 3 * k]? = some [DV.val (.int .i64 f)] := g1
    have g2b : (numR xs)[1 + 3 * k + 1]? = some [DV.val (.int .i64 v)] := g2
    have g3b : (numR xs)[1 + 3 * k + 2]? = some [DV.val (.int .i64 j)] := g3
    have w1 : IntKind.i64.wrap (((1 + 3 * k : Nat) : Int) + 1) = ((1 + 3 * k + 1 : Nat) : Int) := by rw [wrap_in (by omega) (by omega)]; rfl
    have w2 : IntKind.i64.wrap (((1 + 3 * k : Nat) : Int) + 2) = ((1 + 3 * k + 2 : Nat) : Int) := by rw [wrap_in (by omega) (by omega)]; rfl
    have hfb : f ≤ 9007199254740991 := hf.2
    have t0 : (f.tmod 2 == 1) = hasB f 0 := by
      rw [Int.tmod_eq_emod_of_nonneg hf.1]; unfold hasB; rw [Bool.eq_iff_iff]; simp
    have t1 : ((IntKind.i64.wrap (f.tdiv 2)).tmod 2 == 1) = hasB f 1 := by
      rw [Int.tdiv_eq_ediv_of_nonneg hf.1, wrap_in (by omega) (by omega), Int.tmod_eq_emod_of_nonneg (by omega)]; unfold hasB; rw [Bool.eq_iff_iff]; simp
    have t2 : ((IntKind.i64.wrap (f.tdiv 4)).tmod 2 == 1) = hasB f 2 := by
      rw [Int.tdiv_eq_ediv_of_nonneg hf.1, wrap_in (by omega) (by omega), Int.tmod_eq_emod_of_nonneg (by omega)]; unfold hasB; rw [Bool.eq_iff_iff]; simp
    simp only [hnl, t0, t1, t2, l1, l2, l3, g1b, g2b, g3b, w1, w2, ne_eq, not_false_eq_true, show ((2 : Int) = 0) = False from by decide, show ((4 : Int) = 0) = False from by decide, go_sem, ↓reduceIte, zA, zB, zC, zD, zE, zF, reduceCtorEq, zG, zH, zI, zJ, zK, zL, zM, zN, zO, zP]
    have hlk := nodesL_len xs k
    have happ : ∀ r : List (List DV), r.length ≤ 1 → (List.map nodeR (nodesL xs k) ++ r).length * 24 ≤ 70368744177664 := fun r hr => by rw [List.length_append, List.length_map, hlk]; omega
    rw [if_pos ⟨hlk.symm, happ _ (by simp)⟩]
    simp only [hlk, go_sem, ↓reduceIte, zA, zB, zC, zD, zE, zF, reduceCtorEq, zG, zH, zI, zJ, zK, zL, zM, zN, zO, zP]
    refine W_opsD_end (by decide) ?_
    have w3 : IntKind.i64.wrap (((1 + 3 * k : Nat) : Int) + 3) = ((1 + 3 * (k + 1) : Nat) : Int) := by rw [wrap_in (by omega) (by omega)]; omega
    simp only [w3, go_sem, ↓reduceIte, zA, zB, zC, zD, zE, zF, reduceCtorEq, zG, zH, zI, zJ, zK, zL, zM, zN, zO, zP]
    refine W_lpI (k + 1) ?_ ?_ (by omega) (by omega)
    · simp only [go_sem, ↓reduceIte, zA, zB, zC, zD, zE, zF, reduceCtorEq, zG, zH, zI, zJ, zK, zL, zM, zN, zO, zP]
    · simp only [get1S, hsucc, List.map_append, wrap_succ (show k < 9223372036854775807 by omega), go_sem, ↓reduceIte, zA, zB, zC, zD, zE, zF, reduceCtorEq, zG, zH, zI, zJ, zK, zL, zM, zN, zO, zP]
  | false =>
  obtain rfl : k = cntX xs := by have := of_decide_eq_false hlt; omega
  have l1 : 1 + 3 * cntX xs < xs.length := by omega
  have g1 := get_mapD (f := fun n : Int => [i64 n]) 0 l1
  have hx1 := h2 (xs.getD (1 + 3 * cntX xs) 0) (by simp [List.getD, l1])
  have hM : xs.getD (1 + 3 * cntX xs) 0 = (jobsX xs : Int) := (Int.toNat_of_nonneg hx1.1).symm
  rw [hM] at g1 hx1
  have hx1b : (jobsX xs : Int) ≤ 9007199254740991 := hx1.2
  have g1b : (numR xs)[1 + 3 * cntX xs]? = some [DV.val (.int .i64 (jobsX xs : Int))] := g1
  have w1 : IntKind.i64.wrap (((1 + 3 * cntX xs : Nat) : Int) + 1) = ((2 + 3 * cntX xs : Nat) : Int) := by rw [wrap_in (by omega) (by omega)]; omega
  simp only [l1, hnl, g1b, w1, go_sem, ↓reduceIte, zA, zB, zC, zD, zE, zF, reduceCtorEq, zG, zH, zI, zJ, zK, zL, zM, zN, zO, zP]
  by_cases hB1 : jobsX xs ≤ 24
  case neg =>
    have : okB xs = false := decide_eq_false (by rw [hM]; omega)
    rw [if_neg (by rw [this]; simp)] at hq
    subst hq
    simp only [decide_eq_true (show ((jobsX xs : Nat) : Int) > 24 by omega), go_sem, ↓reduceIte, zA, zB, zC, zD, zE, zF, reduceCtorEq, zG, zH, zI, zJ, zK, zL, zM, zN, zO, zP]
    exact BackZ [] (vs := [.agg [nilL, nilL, .int 0, .int 0, .int 0, .int 0], .bool false]) rfl (fun z hz => by cases hz) (by simp [oneOr, getOf, argR, argRs, LV.bool, LV.int, zeroS, stateV, nilL, nodesV, jobsV])
  have w2 : IntKind.i64.wrap (12 * (jobsX xs : Int)) = 12 * (jobsX xs : Int) := wrap_in (by omega) (by omega)
  have w3 : IntKind.i64.wrap (((2 + 3 * cntX xs : Nat) : Int) + 12 * (jobsX xs : Int)) = 2 + 3 * (cntX xs : Int) + 12 * (jobsX xs : Int) := by rw [wrap_in (by omega) (by omega)]; omega
  have w4 : IntKind.i64.wrap (2 + 3 * (cntX xs : Int) + 12 * (jobsX xs : Int) + 4) = 2 + 3 * (cntX xs : Int) + 12 * (jobsX xs : Int) + 4 := wrap_in (by omega) (by omega)
  simp only [decide_eq_false (show ¬ ((jobsX xs : Nat) : Int) > 24 by omega), w2, w3, w4, go_sem, ↓reduceIte, zA, zB, zC, zD, zE, zF, reduceCtorEq, zG, zH, zI, zJ, zK, zL, zM, zN, zO, zP]
  by_cases hB2 : (xs.length : Int) = 2 + 3 * (cntX xs : Int) + 12 * (jobsX xs : Int) + 4
  case neg =>
    have : okB xs = false := decide_eq_false (by rw [hM]; omega)
    rw [if_neg (by rw [this]; simp)] at hq
    subst hq
    simp only [show ((xs.length : Int) != 2 + 3 * (cntX xs : Int) + 12 * (jobsX xs : Int) + 4) = true from bne_iff_ne.2 hB2, go_sem, ↓reduceIte, zA, zB, zC, zD, zE, zF, reduceCtorEq, zG, zH, zI, zJ, zK, zL, zM, zN, zO, zP]
    exact BackZ [] (vs := [.agg [nilL, nilL, .int 0, .int 0, .int 0, .int 0], .bool false]) rfl (fun z hz => by cases hz) (by simp [oneOr, getOf, argR, argRs, LV.bool, LV.int, zeroS, stateV, nilL, nodesV, jobsV])
  have hokB : okB xs = true := decide_eq_true (by rw [hM]; omega)
  simp only [show ((xs.length : Int) != 2 + 3 * (cntX xs : Int) + 12 * (jobsX xs : Int) + 4) = false by rw [hB2]; simp, go_sem, ↓reduceIte, zA, zB, zC, zD, zE, zF, reduceCtorEq, zG, zH, zI, zJ, zK, zL, zM, zN, zO, zP]
  refine W_loopI [1, 2, 4, 6, 7, 10, 13, 14] [.b 2 1 45 12] (fun k : Nat => k ≤ jobsX xs) (fun k => jobsX xs - k) (get2S c b xs) 0 ?_ (Nat.zero_le _) ?_
  · simp only [get2S, Nat.mul_zero, Nat.add_zero, jobsL, List.range_zero, Int.natCast_zero, go_sem, ↓reduceIte, zA, zB, zC, zD, zE, zF, reduceCtorEq, zG, zH, zI, zJ, zK, zL, zM, zN, zO, zP]
  intro k hk
  have hlk := jobsL_len xs k
  simp only [get2S, go_sem, ↓reduceIte, zA, zB, zC, zD, zE, zF, reduceCtorEq, zG, zH, zI, zJ, zK, zL, zM, zN, zO, zP]
  cases hltk : decide ((k : Int) < (jobsX xs : Int)) with
  | true =>
    have hk2 : k < jobsX xs := by have := of_decide_eq_true hltk; omega
    have hsucc := jobsL_succ xs k
    unfold jobX at hsucc
    have hp12 : 2 + 3 * cntX xs + 12 * k + 12 ≤ xs.length := by omega
    generalize hP : 2 + 3 * cntX xs + 12 * k = p at *
    have l0 : p < xs.length := by omega
    have g0 := get_mapD (f := fun n : Int => [i64 n]) 0 l0
    have l1 : p + 1 < xs.length := by omega
    have g1 := get_mapD (f := fun n : Int => [i64 n]) 0 l1
    have l2 : p + 2 < xs.length := by omega
    have g2 := get_mapD (f := fun n : Int => [i64 n]) 0 l2
    have l3 : p + 3 < xs.length := by omega
    have g3 := get_mapD (f := fun n : Int => [i64 n]) 0 l3
    have l4 : p + 4 < xs.length := by omega
    have g4 := get_mapD (f := fun n : Int => [i64 n]) 0 l4
    have l5 : p + 5 < xs.length := by omega
    have g5 := get_mapD (f := fun n : Int => [i64 n]) 0 l5
    have l6 : p + 6 < xs.length := by omega
    have g6 := get_mapD (f := fun n : Int => [i64 n]) 0 l6
    have l7 : p + 7 < xs.length := by omega
    have g7 := get_mapD (f := fun n : Int => [i64 n]) 0 l7
    have l8 : p + 8 < xs.length := by omega
    have g8 := get_mapD (f := fun n : Int => [i64 n]) 0 l8
    have l9 : p + 9 < xs.length := by omega
    have g9 := get_mapD (f := fun n : Int => [i64 n]) 0 l9
    have l10 : p + 10 < xs.length := by omega
    have g10 := get_mapD (f := fun n : Int => [i64 n]) 0 l10
    have l11 : p + 11 < xs.length := by omega
    have g11 := get_mapD (f := fun n : Int => [i64 n]) 0 l11
    generalize xs.getD p 0 = x0 at *
    generalize xs.getD (p + 1) 0 = x1 at *
    generalize xs.getD (p + 2) 0 = x2 at *
    generalize xs.getD (p + 3) 0 = x3 at *
    generalize xs.getD (p + 4) 0 = x4 at *
    generalize xs.getD (p + 5) 0 = x5 at *
    generalize xs.getD (p + 6) 0 = x6 at *
    generalize xs.getD (p + 7) 0 = x7 at *
    generalize xs.getD (p + 8) 0 = x8 at *
    generalize xs.getD (p + 9) 0 = x9 at *
    generalize xs.getD (p + 10) 0 = x10 at *
    generalize xs.getD (p + 11) 0 = x11 at *
    have g0b : (numR xs)[p]? = some [DV.val (.int .i64 x0)] := g0
    have g1b : (numR xs)[p + 1]? = some [DV.val (.int .i64 x1)] := g1
    have g2b : (numR xs)[p + 2]? = some [DV.val (.int .i64 x2)] := g2
    have g3b : (numR xs)[p + 3]? = some [DV.val (.int .i64 x3)] := g3
    have g4b : (numR xs)[p + 4]? = some [DV.val (.int .i64 x4)] := g4
    have g5b : (numR xs)[p + 5]? = some [DV.val (.int .i64 x5)] := g5
    have g6b : (numR xs)[p + 6]? = some [DV.val (.int .i64 x6)] := g6
    have g7b : (numR xs)[p + 7]? = some [DV.val (.int .i64 x7)] := g7
    have g8b : (numR xs)[p + 8]? = some [DV.val (.int .i64 x8)] := g8
    have g9b : (numR xs)[p + 9]? = some [DV.val (.int .i64 x9)] := g9
    have g10b : (numR xs)[p + 10]? = some [DV.val (.int .i64 x10)] := g10
    have g11b : (numR xs)[p + 11]? = some [DV.val (.int .i64 x11)] := g11
    have v1 : IntKind.i64.wrap ((p : Int) + 12) = ((p + 12 : Nat) : Int) := by rw [wrap_in (by omega) (by omega)]; rfl
    have v2 : p ≤ p + 12 ∧ p + 12 ≤ xs.length ∧ xs.length ≤ xs.length := by omega
    have v3 : p + 12 - p = 12 := by omega
    have happ : ∀ r : List (List DV), r.length ≤ 1 → (List.map jobR (jobsL xs k) ++ r).length * 96 ≤ 70368744177664 := fun r hr => by rw [List.length_append, List.length_map, hlk]; omega
    simp only [v1, v2, v3, hnl, g0b, g1b, g2b, g3b, g4b, g5b, g6b, g7b, g8b, g9b, g10b, g11b, go_sem, ↓reduceIte, zA, zB, zC, zD, zE, zF, reduceCtorEq, zG, zH, zI, zJ, zK, zL, zM, zN, zO, zP]
    rw [if_pos ⟨hlk.symm, happ _ (by simp)⟩]
    simp only [hlk, go_sem, ↓reduceIte, zA, zB, zC, zD, zE, zF, reduceCtorEq, zG, zH, zI, zJ, zK, zL, zM, zN, zO, zP]
    refine W_opsD_end (by decide) ?_
    simp only [v1, go_sem, ↓reduceIte, zA, zB, zC, zD, zE, zF, reduceCtorEq, zG, zH, zI, zJ, zK, zL, zM, zN, zO, zP]
    refine W_lpI (k + 1) ?_ ?_ (by omega) (by omega)
    · simp only [go_sem, ↓reduceIte, zA, zB, zC, zD, zE, zF, reduceCtorEq, zG, zH, zI, zJ, zK, zL, zM, zN, zO, zP]
    · simp only [get2S, hsucc, List.map_append, wrap_succ (show k < 9223372036854775807 by omega), show 2 + 3 * cntX xs + 12 * (k + 1) = p + 12 by omega, go_sem, ↓reduceIte, zA, zB, zC, zD, zE, zF, reduceCtorEq, zG, zH, zI, zJ, zK, zL, zM, zN, zO, zP]
  | false =>
  obtain rfl : k = jobsX xs := by have := of_decide_eq_false hltk; omega
  have hst : stX xs = ⟨nodesL xs (cntX xs), jobsL xs (jobsX xs), xs.getD (2 + 3 * cntX xs + 12 * jobsX xs) 0, xs.getD (2 + 3 * cntX xs + 12 * jobsX xs + 1) 0, xs.getD (2 + 3 * cntX xs + 12 * jobsX xs + 2) 0, xs.getD (2 + 3 * cntX xs + 12 * jobsX xs + 3) 0⟩ := rfl
  have hp4 : 2 + 3 * cntX xs + 12 * jobsX xs + 4 ≤ xs.length := by omega
  have hln := nodesL_len xs (cntX xs)
  rw [hokA, hokB] at hq
  generalize nodesL xs (cntX xs) = ns at *
  generalize jobsL xs (jobsX xs) = js at *
  generalize 2 + 3 * cntX xs + 12 * jobsX xs = p at *
  generalize stX xs = s0 at *
  have m0 : p < xs.length := by omega
  have m1 : p + 1 < xs.length := by omega
  have m2 : p + 2 < xs.length := by omega
  have m3 : p + 3 < xs.length := by omega
  have q0 := get_mapD (f := fun n : Int => [i64 n]) 0 m0
  have q1 := get_mapD (f := fun n : Int => [i64 n]) 0 m1
  have q2 := get_mapD (f := fun n : Int => [i64 n]) 0 m2
  have q3 := get_mapD (f := fun n : Int => [i64 n]) 0 m3
  generalize xs.getD p 0 = y0 at *
  generalize xs.getD (p + 1) 0 = y1 at *
  generalize xs.getD (p + 2) 0 = y2 at *
  generalize xs.getD (p + 3) 0 = y3 at *
  have q0b : (numR xs)[p]? = some [DV.val (.int .i64 y0)] := q0
  have q1b : (numR xs)[p + 1]? = some [DV.val (.int .i64 y1)] := q1
  have q2b : (numR xs)[p + 2]? = some [DV.val (.int .i64 y2)] := q2
  have q3b : (numR xs)[p + 3]? = some [DV.val (.int .i64 y3)] := q3
  have u1 : IntKind.i64.wrap ((p : Int) + 1) = ((p + 1 : Nat) : Int) := by rw [wrap_in (by omega) (by omega)]; rfl
  have u2 : IntKind.i64.wrap ((p : Int) + 2) = ((p + 2 : Nat) : Int) := by rw [wrap_in (by omega) (by omega)]; rfl
  have u3 : IntKind.i64.wrap ((p : Int) + 3) = ((p + 3 : Nat) : Int) := by rw [wrap_in (by omega) (by omega)]; rfl
  have c1 : (js.map jobR).length = js.length := by simp
  have hnM : jobsX xs = js.length := by omega
  have hnN : cntX xs = ns.length := by omega
  rw [hnM, hnN]
  simp only [m0, m1, m2, m3, q0b, q1b, q2b, q3b, u1, u2, u3, hnl, go_sem, ↓reduceIte, zA, zB, zC, zD, zE, zF, reduceCtorEq, zG, zH, zI, zJ, zK, zL, zM, zN, zO, zP]
  have ht1 : List.take ns.length (ns.map nodeR) = ns.map nodeR := List.take_of_length_le (by simp)
  have ht2 : List.take js.length (js.map jobR) = js.map jobR := List.take_of_length_le (by simp)
  have hT := put1_tri (G := G) s0 (by rw [hst]; dsimp only; omega) (by rw [hst]; dsimp only; omega)
  rw [show stateV s0 = .agg [nodesV ns, jobsV js, .int y0, .int y1, .int y2, .int y3] by rw [hst]; rfl] at hT
  refine W_callf [4, 5] (hT) rfl (by simp [argRs, argR, rowsAt, objL, ht1, ht2, go_sem, ↓reduceIte, zA, zB, zC, zD, zE, zF, reduceCtorEq, zG, zH, zI, zJ, zK, zL, zM, zN, zO, zP]) (by simp [objL]) rfl ?_; simp only [go_sem, ↓reduceIte, zA, zB, zC, zD, zE, zF, reduceCtorEq, zG, zH, zI, zJ, zK, zL, zM, zN, zO, zP]
  have hpl := putI_len s0
  refine W_calld (bytes_tri (putI s0) b (by omega)) rfl rfl rfl rfl ?_; simp only [go_sem, ↓reduceIte, zA, zB, zC, zD, zE, zF, reduceCtorEq, zG, zH, zI, zJ, zK, zL, zM, zN, zO, zP]
  cases hpb : decide (putI s0 = b) with
  | false =>
    rw [if_neg (by intro h; exact of_decide_eq_false hpb h.2.2.1)] at hq
    subst hq
    simp only [go_sem, ↓reduceIte, zA, zB, zC, zD, zE, zF, reduceCtorEq, zG, zH, zI, zJ, zK, zL, zM, zN, zO, zP]
    exact BackZ [] (vs := [.agg [nilL, nilL, .int 0, .int 0, .int 0, .int 0], .bool false]) rfl (fun z hz => by cases hz) (by simp [oneOr, getOf, argR, argRs, LV.bool, LV.int, zeroS, stateV, nilL, nodesV, jobsV])
  | true =>
  simp only [go_sem, ↓reduceIte, zA, zB, zC, zD, zE, zF, reduceCtorEq, zG, zH, zI, zJ, zK, zL, zM, zN, zO, zP]
  have hT2 := right9_tri (G := G) c s0
  rw [show stateV s0 = .agg [nodesV ns, jobsV js, .int y0, .int y1, .int y2, .int y3] by rw [hst]; rfl] at hT2
  refine W_callz [4, 5] (hT2) rfl (by simp [argRs, argR, rowsAt, objL, ht1, ht2, go_sem, ↓reduceIte, zA, zB, zC, zD, zE, zF, reduceCtorEq, zG, zH, zI, zJ, zK, zL, zM, zN, zO, zP]) (by simp [objL]) rfl rfl ?_; simp only [go_sem, ↓reduceIte, zA, zB, zC, zD, zE, zF, reduceCtorEq, zG, zH, zI, zJ, zK, zL, zM, zN, zO, zP]
  cases hrr : rightRB c s0 with
  | false =>
    rw [if_neg (by rw [hrr]; simp)] at hq
    subst hq
    simp only [go_sem, ↓reduceIte, zA, zB, zC, zD, zE, zF, reduceCtorEq, zG, zH, zI, zJ, zK, zL, zM, zN, zO, zP]
    exact BackZ [] (vs := [.agg [nilL, nilL, .int 0, .int 0, .int 0, .int 0], .bool false]) rfl (fun z hz => by cases hz) (by simp [oneOr, getOf, argR, argRs, LV.bool, LV.int, zeroS, stateV, nilL, nodesV, jobsV])
  | true =>
  rw [if_pos ⟨rfl, rfl, of_decide_eq_true hpb, hrr⟩] at hq
  subst hq
  simp only [go_sem, ↓reduceIte, zA, zB, zC, zD, zE, zF, reduceCtorEq, zG, zH, zI, zJ, zK, zL, zM, zN, zO, zP]
  have hsv : stateV s0 = .agg [nodesV ns, jobsV js, .int y0, .int y1, .int y2, .int y3] := by rw [hst]; rfl
  exact BackZ [4, 5] (vs := [.agg [.sl 4 ns.length 5 0 ns.length, .sl 5 js.length 12 0 js.length, .int y0, .int y1, .int y2, .int y3], .bool true]) rfl (by simp [St.obj, objL]) (by simp [St.obj, objL, oneOr, getOf, hsv, nodesV, jobsV, argR, argRs, rowsAt, LV.int, LV.bool, ht1, ht2])
end Dv
