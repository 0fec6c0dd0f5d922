/- The document's Apply. -/
import Derived.Test.YtjmceebhnjiikaaDoorD18
set_option linter.unusedVariables false
set_option linter.unusedSimpArgs false
namespace Dv
open Go Go.Proofs
open Nat renaming reduceEqDiff → zA, reduceAdd → zB, reduceSub → zC, reduceMul → zD, reduceLT → zE, reduceLeDiff → zF
open Int renaming reduceLE → zG, reduceLT → zH, reduceToNat → zI, reduceBEq → zJ, reduceBNe → zK, reduceEq → zL, reduceAdd → zM, reduceSub → zN, reduceMul → zO, reduceNeg → zP
attribute [local go_sem] argEnv W_nil W_seq W_skip W_ret W_exit W_scope W_block W_blk W_reg W_regD W_cond WC_t WC_f WC_any Wx_c Wx_ops Wx_lp Wx_blk W_ops_nil W_opsD_q W_guard W_guardD WG_tt WG_ff WG_tf WG_ft WG_u WGD_tt WGD_ff WGD_tf WGD_ft WGD_u WE_some WED_some W_mv W_pick W_new W_box W_build W_bsl W_ld1 W_ldn W_st W_nck W_bin W_eqb W_not W_cvt W_fad W_fld1 W_fldn W_ixa W_ixr W_ix1 W_ixs W_len W_lens W_mkf W_ext W_app W_min W_isnp W_isns W_eqs W_neg W_ixn W_sli W_sls WD_mv WD_pick WD_new WD_box WD_build WD_bsl WD_ld1 WD_ldn WD_st WD_nck WD_bin WD_eqb WD_not WD_cvt WD_fad WD_fld1 WD_fldn WD_ixa WD_ixr WD_ix1 WD_ixs WD_len WD_lens WD_mkf WD_ext WD_app WD_min WD_isnp WD_isns WD_eqs WD_neg WD_ixn WD_sli WD_sls effF Opd.ev getE putE binV LV.int LV.bool LV.undef Go.undef LV.cells LV.toD LV.toDs splice fillL rowsOf srcRows updL objL Eff.owned nwp St.get St.obj St.put Value.oneCell' Ends adopt Ad.ap isNil St.keep St.okKeep okObj idl idlL idlO RVs.of RV.of oneOr Ends0 EndsO_iff frzs rn rnL rnO piOf eqCells eqV boundV Option.map_some Option.map_none List.append_nil List.nil_append List.cons_append List.map_nil List.map_cons List.length_nil List.length_cons List.set_cons_zero List.set_cons_succ List.take_succ_cons List.take_zero List.take_nil List.drop_succ_cons List.drop_zero List.drop_nil List.getElem?_cons_zero List.getElem?_cons_succ List.getElem?_nil List.isEmpty_nil List.isEmpty_cons List.all_cons List.all_nil List.isEmpty_nil cond_true cond_false Bool.true_and Bool.false_and Bool.and_true Bool.and_false Bool.not_true Bool.not_false Bool.or_true Bool.true_or Bool.or_false Bool.false_or true_and and_true true_or or_true Option.some.injEq LV.d.injEq DV.val.injEq Value.bool.injEq Value.int.injEq decide_true decide_false and_self Nat.zero_add Nat.add_zero if_true if_false Int.toNat_zero beq_self_eq_true Nat.zero_lt_succ Int.toNat_natCast Int.natCast_nonneg List.length_map i64 bl List.zip_cons_cons List.zip_nil_left List.zip_nil_right nwp confV stateV nodeV jobV nodesV jobsV opV msgV nodeR jobR opR msgR zeroOp zeroMsg
variable {G : Nat → Option (List DV)}

/-- dunnageref09.Apply -/
def ir24 : Nat × C × List RV := (312,
(.seq (.reg [⟨(some 3), .box 23 (.t 0), none, []⟩,
 ⟨(some 4), .box 27 (.t 1), none, []⟩,
 ⟨(some 5), .box 35 (.t 2), none, []⟩,
 ⟨(some 6), .new 27 [(.val (.slice none 0 0)), (.val (.slice none 0 0)), (.val (.int .i64 0)), (.val (.int .i64 0)), (.val (.int .i64 0)), (.val (.int .i64 0))], none, []⟩,
 ⟨(some 7), .mv (.c (.val (.int .i64 0))), none, []⟩])
 (.seq (.reg [⟨(some 13), .ldn 6 (.t 4), none, []⟩,
 ⟨(some 14), .call (.f 49) [(.t 13)], none, []⟩,
 ⟨(some 8), .new 27 [(.val (.slice none 0 0)), (.val (.slice none 0 0)), (.val (.int .i64 0)), (.val (.int .i64 0)), (.val (.int .i64 0)), (.val (.int .i64 0))], none, []⟩,
 ⟨none, .st 6 (.t 8) (.t 14), none, []⟩])
 (.seq (.reg [⟨(some 15), .ldn 9 (.t 3), none, []⟩,
 ⟨(some 16), .ldn 6 (.t 8), none, []⟩,
 ⟨(some 17), .ldn 7 (.t 5), none, []⟩,
 ⟨(some 18), .call (.f 50) [(.t 15), (.t 16), (.t 17)], none, []⟩,
 ⟨(some 9), .mv (.t 18), none, []⟩])
 (.seq (.seq (.reg [⟨(some 19), .mv (.t 9), none, []⟩,
 ⟨(some 20), .bin .neq (.t 19) (.c (.val (.int .i64 0))), none, []⟩])
 (.cond (.t 20) (.seq (.reg [⟨(some 21), .ldn 6 (.t 8), none, []⟩,
 ⟨(some 22), .mv (.t 9), none, []⟩,
 ⟨none, .st 6 (.t 6) (.t 21), none, []⟩,
 ⟨(some 7), .mv (.t 22), none, []⟩])
 .ret)
 .skip))
 (.seq (.seq (.reg [⟨(some 23), .fad 0 (.t 5), none, []⟩,
 ⟨(some 24), .ld1 (.t 23), none, []⟩])
 (.block 0 (.seq (.reg [⟨(some 26), .bin .eql (.t 24) (.c (.val (.int .i64 1))), none, []⟩,
 ⟨(some 25), .mv (.t 26), none, []⟩])
 (.cond (.t 25) (.reg [⟨(some 27), .fad 1 (.t 8), none, []⟩,
 ⟨(some 28), .ld1 (.t 27), none, []⟩,
 ⟨(some 29), .fad 1 (.t 5), none, []⟩,
 ⟨(some 30), .ld1 (.t 29), none, []⟩,
 ⟨(some 31), .fad 2 (.t 5), none, []⟩,
 ⟨(some 32), .ld1 (.t 31), none, []⟩,
 ⟨(some 33), .fad 3 (.t 5), none, []⟩,
 ⟨(some 34), .ld1 (.t 33), none, []⟩,
 ⟨(some 35), .fad 4 (.t 5), none, []⟩,
 ⟨(some 36), .ld1 (.t 35), none, []⟩,
 ⟨(some 37), .fad 5 (.t 5), none, []⟩,
 ⟨(some 38), .ld1 (.t 37), none, []⟩,
 ⟨(some 39), .fad 6 (.t 5), none, []⟩,
 ⟨(some 40), .ld1 (.t 39), none, []⟩,
 ⟨(some 41), .build [(.val (.int .i64 0)), (.val (.int .i64 0)), (.val (.int .i64 0)), (.val (.int .i64 0)), (.val (.int .i64 0)), (.val (.int .i64 0)), (.val (.int .i64 0)), (.val (.int .i64 0)), (.val (.int .i64 0)), (.val (.int .i64 0)), (.val (.int .i64 0)), (.val (.int .i64 0))] [(0, 1, (.t 30)), (1, 1, (.t 32)), (2, 1, (.t 34)), (3, 1, (.t 36)), (4, 1, (.t 38)), (5, 1, (.t 40))], none, []⟩,
 ⟨(some 42), .bsl 52 12 [(.t 41)], none, []⟩,
 ⟨(some 43), .app 52 12 96 (.t 28) (.t 42), none, []⟩,
 ⟨(some 44), .fad 1 (.t 8), none, []⟩,
 ⟨none, .st 1 (.t 44) (.t 43), none, []⟩])
 (.seq (.seq (.reg [⟨(some 46), .bin .eql (.t 24) (.c (.val (.int .i64 2))), none, []⟩,
 ⟨(some 45), .mv (.t 46), none, []⟩])
 (.cond (.t 45) .skip
 (.reg [⟨(some 47), .bin .eql (.t 24) (.c (.val (.int .i64 15))), none, []⟩,
 ⟨(some 45), .mv (.t 47), none, []⟩])))
 (.cond (.t 45) (.reg [⟨(some 48), .ldn 6 (.t 8), none, []⟩,
 ⟨(some 49), .fad 1 (.t 5), none, []⟩,
 ⟨(some 50), .ld1 (.t 49), none, []⟩,
 ⟨(some 51), .call (.f 51) [(.t 48), (.t 50), (.c (.val (.int .i64 4)))], none, []⟩,
 ⟨none, .st 6 (.t 8) (.t 51), none, []⟩])
 (.seq (.reg [⟨(some 53), .bin .eql (.t 24) (.c (.val (.int .i64 3))), none, []⟩,
 ⟨(some 52), .mv (.t 53), none, []⟩])
 (.cond (.t 52) (.seq (.reg [⟨(some 54), .ldn 6 (.t 8), none, []⟩,
 ⟨(some 55), .call (.f 26) [(.t 54)], none, []⟩,
 ⟨(some 56), .fad 3 (.t 8), none, []⟩,
 ⟨none, .st 1 (.t 56) (.t 55), none, []⟩])
 (.seq (.reg [⟨(some 57), .fad 1 (.t 5), none, []⟩,
 ⟨(some 58), .ld1 (.t 57), none, []⟩,
 ⟨(some 59), .fad 2 (.t 8), none, []⟩,
 ⟨none, .st 1 (.t 59) (.t 58), none, []⟩])
 (.reg [⟨(some 60), .fad 4 (.t 8), none, []⟩,
 ⟨none, .st 1 (.t 60) (.c (.val (.int .i64 0))), none, []⟩])))
 (.seq (.reg [⟨(some 62), .bin .eql (.t 24) (.c (.val (.int .i64 4))), none, []⟩,
 ⟨(some 61), .mv (.t 62), none, []⟩])
 (.cond (.t 61) (.reg [⟨(some 63), .fad 4 (.t 8), none, []⟩,
 ⟨none, .st 1 (.t 63) (.c (.val (.int .i64 1))), none, []⟩])
 (.seq (.reg [⟨(some 65), .bin .eql (.t 24) (.c (.val (.int .i64 5))), none, []⟩,
 ⟨(some 64), .mv (.t 65), none, []⟩])
 (.cond (.t 64) (.reg [⟨(some 66), .fad 4 (.t 8), none, []⟩,
 ⟨none, .st 1 (.t 66) (.c (.val (.int .i64 0))), none, []⟩])
 (.seq (.reg [⟨(some 68), .bin .eql (.t 24) (.c (.val (.int .i64 6))), none, []⟩,
 ⟨(some 67), .mv (.t 68), none, []⟩])
 (.cond (.t 67) (.reg [⟨(some 69), .fad 4 (.t 8), none, []⟩,
 ⟨none, .st 1 (.t 69) (.c (.val (.int .i64 2))), none, []⟩])
 (.seq (.reg [⟨(some 71), .bin .eql (.t 24) (.c (.val (.int .i64 7))), none, []⟩,
 ⟨(some 70), .mv (.t 71), none, []⟩])
 (.cond (.t 70) (.seq (.seq (.reg [⟨(some 72), .fad 0 (.t 8), none, []⟩,
 ⟨(some 73), .ld1 (.t 72), none, []⟩,
 ⟨(some 74), .fad 1 (.t 5), none, []⟩,
 ⟨(some 75), .ld1 (.t 74), none, []⟩,
 ⟨(some 76), .ixa 5 (.t 73) (.t 75), none, []⟩,
 ⟨(some 77), .fad 4 (.t 76), none, []⟩,
 ⟨(some 78), .ld1 (.t 77), none, []⟩,
 ⟨(some 79), .bin .gtr (.t 78) (.c (.val (.int .i64 0))), none, []⟩])
 (.cond (.t 79) (.regD [⟨(some 80), .ldn 6 (.t 8), none, []⟩,
 ⟨(some 81), .fad 0 (.t 8), none, []⟩,
 ⟨(some 82), .ld1 (.t 81), none, [1]⟩,
 ⟨(some 83), .fad 1 (.t 5), none, []⟩,
 ⟨(some 84), .ld1 (.t 83), none, [3]⟩,
 ⟨(some 85), .ixa 5 (.t 82) (.t 84), none, [2, 1, 4, 3]⟩,
 ⟨(some 86), .fad 4 (.t 85), none, [5, 2, 1, 4, 3]⟩,
 ⟨(some 87), .ld1 (.t 86), none, [6, 5, 2, 1, 4, 3]⟩,
 ⟨(some 88), .call (.f 51) [(.t 80), (.t 87), (.c (.val (.int .i64 0)))], none, [0, 7, 6, 5, 2, 1, 4, 3]⟩,
 ⟨none, .st 6 (.t 8) (.t 88), none, [8, 0, 7, 6, 5, 2, 1, 4, 3]⟩])
 .skip))
 (.seq (.reg [⟨(some 89), .fad 0 (.t 8), none, []⟩,
 ⟨(some 90), .ld1 (.t 89), none, []⟩,
 ⟨(some 91), .fad 1 (.t 5), none, []⟩,
 ⟨(some 92), .ld1 (.t 91), none, []⟩,
 ⟨(some 93), .ixa 5 (.t 90) (.t 92), none, []⟩,
 ⟨(some 94), .fad 0 (.t 93), none, []⟩,
 ⟨none, .st 1 (.t 94) (.c (.val (.bool false))), none, []⟩])
 (.reg [⟨(some 95), .fad 0 (.t 8), none, []⟩,
 ⟨(some 96), .ld1 (.t 95), none, []⟩,
 ⟨(some 97), .fad 1 (.t 5), none, []⟩,
 ⟨(some 98), .ld1 (.t 97), none, []⟩,
 ⟨(some 99), .ixa 5 (.t 96) (.t 98), none, []⟩,
 ⟨(some 100), .fad 2 (.t 99), none, []⟩,
 ⟨none, .st 1 (.t 100) (.c (.val (.bool false))), none, []⟩])))
 (.seq (.reg [⟨(some 102), .bin .eql (.t 24) (.c (.val (.int .i64 8))), none, []⟩,
 ⟨(some 101), .mv (.t 102), none, []⟩])
 (.cond (.t 101) (.seq (.reg [⟨(some 103), .fad 0 (.t 8), none, []⟩,
 ⟨(some 104), .ld1 (.t 103), none, []⟩,
 ⟨(some 105), .fad 1 (.t 5), none, []⟩,
 ⟨(some 106), .ld1 (.t 105), none, []⟩,
 ⟨(some 107), .ixa 5 (.t 104) (.t 106), none, []⟩,
 ⟨(some 108), .fad 0 (.t 107), none, []⟩,
 ⟨none, .st 1 (.t 108) (.c (.val (.bool true))), none, []⟩])
 (.reg [⟨(some 109), .fad 0 (.t 8), none, []⟩,
 ⟨(some 110), .ld1 (.t 109), none, []⟩,
 ⟨(some 111), .fad 1 (.t 5), none, []⟩,
 ⟨(some 112), .ld1 (.t 111), none, []⟩,
 ⟨(some 113), .fad 2 (.t 5), none, []⟩,
 ⟨(some 114), .ld1 (.t 113), none, []⟩,
 ⟨(some 115), .ixa 5 (.t 110) (.t 112), none, []⟩,
 ⟨(some 116), .fad 3 (.t 115), none, []⟩,
 ⟨none, .st 1 (.t 116) (.t 114), none, []⟩]))
 (.seq (.reg [⟨(some 118), .bin .eql (.t 24) (.c (.val (.int .i64 9))), none, []⟩,
 ⟨(some 117), .mv (.t 118), none, []⟩])
 (.cond (.t 117) (.seq (.reg [⟨(some 119), .fad 1 (.t 8), none, []⟩,
 ⟨(some 120), .ld1 (.t 119), none, []⟩,
 ⟨(some 121), .fad 1 (.t 5), none, []⟩,
 ⟨(some 122), .ld1 (.t 121), none, []⟩,
 ⟨(some 123), .bin .sub (.t 122) (.c (.val (.int .i64 1))), none, []⟩,
 ⟨(some 124), .ixa 12 (.t 120) (.t 123), none, []⟩,
 ⟨(some 125), .fad 6 (.t 124), none, []⟩,
 ⟨none, .st 1 (.t 125) (.c (.val (.int .i64 1))), none, []⟩])
 (.seq (.reg [⟨(some 126), .fad 1 (.t 8), none, []⟩,
 ⟨(some 127), .ld1 (.t 126), none, []⟩,
 ⟨(some 128), .fad 1 (.t 5), none, []⟩,
 ⟨(some 129), .ld1 (.t 128), none, []⟩,
 ⟨(some 130), .bin .sub (.t 129) (.c (.val (.int .i64 1))), none, []⟩,
 ⟨(some 131), .ixa 12 (.t 127) (.t 130), none, []⟩,
 ⟨(some 132), .fad 7 (.t 131), none, []⟩,
 ⟨(some 133), .ld1 (.t 132), none, []⟩,
 ⟨(some 134), .bin .add (.t 133) (.c (.val (.int .i64 1))), none, []⟩,
 ⟨(some 135), .ixa 12 (.t 127) (.t 130), none, []⟩,
 ⟨(some 136), .fad 7 (.t 135), none, []⟩,
 ⟨none, .st 1 (.t 136) (.t 134), none, []⟩])
 (.seq (.reg [⟨(some 137), .fad 1 (.t 8), none, []⟩,
 ⟨(some 138), .ld1 (.t 137), none, []⟩,
 ⟨(some 139), .fad 1 (.t 5), none, []⟩,
 ⟨(some 140), .ld1 (.t 139), none, []⟩,
 ⟨(some 141), .bin .sub (.t 140) (.c (.val (.int .i64 1))), none, []⟩,
 ⟨(some 142), .fad 2 (.t 5), none, []⟩,
 ⟨(some 143), .ld1 (.t 142), none, []⟩,
 ⟨(some 144), .ixa 12 (.t 138) (.t 141), none, []⟩,
 ⟨(some 145), .fad 8 (.t 144), none, []⟩,
 ⟨none, .st 1 (.t 145) (.t 143), none, []⟩])
 (.seq (.reg [⟨(some 10), .mv (.c (.val (.int .i64 0))), none, []⟩])
 (.block 1 (.loop (.seq (.seq (.reg [⟨(some 146), .mv (.t 10), none, []⟩,
 ⟨(some 147), .fad 0 (.t 8), none, []⟩,
 ⟨(some 148), .ld1 (.t 147), none, []⟩,
 ⟨(some 149), .len (.t 148), none, []⟩,
 ⟨(some 150), .bin .lss (.t 146) (.t 149), none, []⟩])
 (.cond (.t 150) .skip
 (.exit 1)))
 (.seq (.block 2 (.seq (.reg [⟨(some 153), .fad 2 (.t 5), none, []⟩,
 ⟨(some 154), .ld1 (.t 153), none, []⟩,
 ⟨(some 155), .mv (.t 10), none, []⟩,
 ⟨(some 156), .call (.f 46) [(.t 154), (.t 155)], none, []⟩])
 (.cond (.t 156) (.reg [⟨(some 157), .fad 0 (.t 8), none, []⟩,
 ⟨(some 158), .ld1 (.t 157), none, []⟩,
 ⟨(some 159), .mv (.t 10), none, []⟩,
 ⟨(some 160), .fad 1 (.t 5), none, []⟩,
 ⟨(some 161), .ld1 (.t 160), none, []⟩,
 ⟨(some 162), .ixa 5 (.t 158) (.t 159), none, []⟩,
 ⟨(some 163), .fad 4 (.t 162), none, []⟩,
 ⟨none, .st 1 (.t 163) (.t 161), none, []⟩])
 .skip)))
 (.reg [⟨(some 151), .mv (.t 10), none, []⟩,
 ⟨(some 152), .bin .add (.t 151) (.c (.val (.int .i64 1))), none, []⟩,
 ⟨(some 10), .mv (.t 152), none, []⟩])))))))))
 (.seq (.reg [⟨(some 165), .bin .eql (.t 24) (.c (.val (.int .i64 10))), none, []⟩,
 ⟨(some 164), .mv (.t 165), none, []⟩])
 (.cond (.t 164) (.seq (.reg [⟨(some 166), .fad 1 (.t 8), none, []⟩,
 ⟨(some 167), .ld1 (.t 166), none, []⟩,
 ⟨(some 168), .fad 1 (.t 5), none, []⟩,
 ⟨(some 169), .ld1 (.t 168), none, []⟩,
 ⟨(some 170), .bin .sub (.t 169) (.c (.val (.int .i64 1))), none, []⟩,
 ⟨(some 171), .ixa 12 (.t 167) (.t 170), none, []⟩,
 ⟨(some 172), .fad 6 (.t 171), none, []⟩,
 ⟨none, .st 1 (.t 172) (.c (.val (.int .i64 2))), none, []⟩])
 (.reg [⟨(some 173), .fad 1 (.t 8), none, []⟩,
 ⟨(some 174), .ld1 (.t 173), none, []⟩,
 ⟨(some 175), .fad 1 (.t 5), none, []⟩,
 ⟨(some 176), .ld1 (.t 175), none, []⟩,
 ⟨(some 177), .bin .sub (.t 176) (.c (.val (.int .i64 1))), none, []⟩,
 ⟨(some 178), .fad 2 (.t 5), none, []⟩,
 ⟨(some 179), .ld1 (.t 178), none, []⟩,
 ⟨(some 180), .ixa 12 (.t 174) (.t 177), none, []⟩,
 ⟨(some 181), .fad 9 (.t 180), none, []⟩,
 ⟨none, .st 1 (.t 181) (.t 179), none, []⟩]))
 (.seq (.seq (.reg [⟨(some 183), .bin .eql (.t 24) (.c (.val (.int .i64 11))), none, []⟩,
 ⟨(some 182), .mv (.t 183), none, []⟩])
 (.cond (.t 182) .skip
 (.reg [⟨(some 184), .bin .eql (.t 24) (.c (.val (.int .i64 14))), none, []⟩,
 ⟨(some 182), .mv (.t 184), none, []⟩])))
 (.cond (.t 182) (.reg [⟨(some 185), .ldn 6 (.t 8), none, []⟩,
 ⟨(some 186), .fad 1 (.t 5), none, []⟩,
 ⟨(some 187), .ld1 (.t 186), none, []⟩,
 ⟨(some 188), .call (.f 51) [(.t 185), (.t 187), (.c (.val (.int .i64 0)))], none, []⟩,
 ⟨none, .st 6 (.t 8) (.t 188), none, []⟩])
 (.seq (.reg [⟨(some 190), .bin .eql (.t 24) (.c (.val (.int .i64 12))), none, []⟩,
 ⟨(some 189), .mv (.t 190), none, []⟩])
 (.cond (.t 189) (.seq (.reg [⟨(some 191), .fad 1 (.t 8), none, []⟩,
 ⟨(some 192), .ld1 (.t 191), none, []⟩,
 ⟨(some 193), .fad 1 (.t 5), none, []⟩,
 ⟨(some 194), .ld1 (.t 193), none, []⟩,
 ⟨(some 195), .bin .sub (.t 194) (.c (.val (.int .i64 1))), none, []⟩,
 ⟨(some 196), .ixa 12 (.t 192) (.t 195), none, []⟩,
 ⟨(some 197), .fad 6 (.t 196), none, []⟩,
 ⟨none, .st 1 (.t 197) (.c (.val (.int .i64 3))), none, []⟩])
 (.reg [⟨(some 198), .fad 1 (.t 8), none, []⟩,
 ⟨(some 199), .ld1 (.t 198), none, []⟩,
 ⟨(some 200), .fad 1 (.t 5), none, []⟩,
 ⟨(some 201), .ld1 (.t 200), none, []⟩,
 ⟨(some 202), .bin .sub (.t 201) (.c (.val (.int .i64 1))), none, []⟩,
 ⟨(some 203), .fad 2 (.t 5), none, []⟩,
 ⟨(some 204), .ld1 (.t 203), none, []⟩,
 ⟨(some 205), .ixa 12 (.t 199) (.t 202), none, []⟩,
 ⟨(some 206), .fad 10 (.t 205), none, []⟩,
 ⟨none, .st 1 (.t 206) (.t 204), none, []⟩]))
 (.seq (.reg [⟨(some 208), .bin .eql (.t 24) (.c (.val (.int .i64 13))), none, []⟩,
 ⟨(some 207), .mv (.t 208), none, []⟩])
 (.cond (.t 207) (.reg [⟨(some 209), .fad 1 (.t 8), none, []⟩,
 ⟨(some 210), .ld1 (.t 209), none, []⟩,
 ⟨(some 211), .fad 1 (.t 5), none, []⟩,
 ⟨(some 212), .ld1 (.t 211), none, []⟩,
 ⟨(some 213), .bin .sub (.t 212) (.c (.val (.int .i64 1))), none, []⟩,
 ⟨(some 214), .fad 2 (.t 5), none, []⟩,
 ⟨(some 215), .ld1 (.t 214), none, []⟩,
 ⟨(some 216), .ixa 12 (.t 210) (.t 213), none, []⟩,
 ⟨(some 217), .fad 11 (.t 216), none, []⟩,
 ⟨none, .st 1 (.t 217) (.t 215), none, []⟩])
 (.seq (.reg [⟨(some 219), .bin .eql (.t 24) (.c (.val (.int .i64 16))), none, []⟩,
 ⟨(some 218), .mv (.t 219), none, []⟩])
 (.cond (.t 218) (.reg [⟨(some 220), .fad 0 (.t 8), none, []⟩,
 ⟨(some 221), .ld1 (.t 220), none, []⟩,
 ⟨(some 222), .fad 1 (.t 5), none, []⟩,
 ⟨(some 223), .ld1 (.t 222), none, []⟩,
 ⟨(some 224), .ixa 5 (.t 221) (.t 223), none, []⟩,
 ⟨(some 225), .fad 1 (.t 224), none, []⟩,
 ⟨none, .st 1 (.t 225) (.c (.val (.bool true))), none, []⟩])
 (.seq (.reg [⟨(some 227), .bin .eql (.t 24) (.c (.val (.int .i64 17))), none, []⟩,
 ⟨(some 226), .mv (.t 227), none, []⟩])
 (.cond (.t 226) (.reg [⟨(some 228), .fad 0 (.t 8), none, []⟩,
 ⟨(some 229), .ld1 (.t 228), none, []⟩,
 ⟨(some 230), .fad 1 (.t 5), none, []⟩,
 ⟨(some 231), .ld1 (.t 230), none, []⟩,
 ⟨(some 232), .ixa 5 (.t 229) (.t 231), none, []⟩,
 ⟨(some 233), .fad 1 (.t 232), none, []⟩,
 ⟨none, .st 1 (.t 233) (.c (.val (.bool false))), none, []⟩])
 (.seq (.reg [⟨(some 235), .bin .eql (.t 24) (.c (.val (.int .i64 18))), none, []⟩,
 ⟨(some 234), .mv (.t 235), none, []⟩])
 (.cond (.t 234) (.reg [⟨(some 236), .fad 0 (.t 8), none, []⟩,
 ⟨(some 237), .ld1 (.t 236), none, []⟩,
 ⟨(some 238), .fad 1 (.t 5), none, []⟩,
 ⟨(some 239), .ld1 (.t 238), none, []⟩,
 ⟨(some 240), .ixa 5 (.t 237) (.t 239), none, []⟩,
 ⟨(some 241), .fad 2 (.t 240), none, []⟩,
 ⟨none, .st 1 (.t 241) (.c (.val (.bool true))), none, []⟩])
 (.seq (.reg [⟨(some 243), .bin .eql (.t 24) (.c (.val (.int .i64 19))), none, []⟩,
 ⟨(some 242), .mv (.t 243), none, []⟩])
 (.cond (.t 242) (.seq (.reg [⟨(some 244), .fad 0 (.t 8), none, []⟩,
 ⟨(some 245), .ld1 (.t 244), none, []⟩,
 ⟨(some 246), .fad 1 (.t 5), none, []⟩,
 ⟨(some 247), .ld1 (.t 246), none, []⟩,
 ⟨(some 248), .ixa 5 (.t 245) (.t 247), none, []⟩,
 ⟨(some 249), .fad 2 (.t 248), none, []⟩,
 ⟨none, .st 1 (.t 249) (.c (.val (.bool false))), none, []⟩])
 (.seq (.reg [⟨(some 250), .fad 0 (.t 8), none, []⟩,
 ⟨(some 251), .ld1 (.t 250), none, []⟩,
 ⟨(some 252), .fad 1 (.t 5), none, []⟩,
 ⟨(some 253), .ld1 (.t 252), none, []⟩,
 ⟨(some 254), .ixa 5 (.t 251) (.t 253), none, []⟩,
 ⟨(some 255), .fad 1 (.t 254), none, []⟩,
 ⟨none, .st 1 (.t 255) (.c (.val (.bool false))), none, []⟩])
 (.reg [⟨(some 256), .fad 0 (.t 8), none, []⟩,
 ⟨(some 257), .ld1 (.t 256), none, []⟩,
 ⟨(some 258), .fad 1 (.t 5), none, []⟩,
 ⟨(some 259), .ld1 (.t 258), none, []⟩,
 ⟨(some 260), .fad 2 (.t 5), none, []⟩,
 ⟨(some 261), .ld1 (.t 260), none, []⟩,
 ⟨(some 262), .ixa 5 (.t 257) (.t 259), none, []⟩,
 ⟨(some 263), .fad 3 (.t 262), none, []⟩,
 ⟨none, .st 1 (.t 263) (.t 261), none, []⟩])))
 (.seq (.reg [⟨(some 265), .bin .eql (.t 24) (.c (.val (.int .i64 20))), none, []⟩,
 ⟨(some 264), .mv (.t 265), none, []⟩])
 (.cond (.t 264) (.seq (.reg [⟨(some 11), .mv (.c (.val (.int .i64 0))), none, []⟩])
 (.seq (.seq (.reg [⟨(some 12), .mv (.c (.val (.int .i64 0))), none, []⟩])
 (.block 3 (.loop (.seq (.seq (.reg [⟨(some 266), .mv (.t 12), none, []⟩,
 ⟨(some 267), .bin .lss (.t 266) (.c (.val (.int .i64 6))), none, []⟩])
 (.cond (.t 267) .skip
 (.exit 3)))
 (.seq (.block 4 (.seq (.reg [⟨(some 270), .fad 1 (.t 8), none, []⟩,
 ⟨(some 271), .ld1 (.t 270), none, []⟩,
 ⟨(some 272), .fad 1 (.t 5), none, []⟩,
 ⟨(some 273), .ld1 (.t 272), none, []⟩,
 ⟨(some 274), .bin .sub (.t 273) (.c (.val (.int .i64 1))), none, []⟩,
 ⟨(some 275), .ixa 12 (.t 271) (.t 274), none, []⟩,
 ⟨(some 276), .fad 8 (.t 275), none, []⟩,
 ⟨(some 277), .ld1 (.t 276), none, []⟩,
 ⟨(some 278), .mv (.t 12), none, []⟩,
 ⟨(some 279), .call (.f 46) [(.t 277), (.t 278)], none, []⟩,
 ⟨(some 280), .mv (.t 279), none, []⟩,
 ⟨(some 281), .mv (.t 12), (some (280, true)), []⟩,
 ⟨(some 282), .fad 2 (.t 5), (some (280, true)), []⟩,
 ⟨(some 283), .ld1 (.t 282), (some (280, true)), []⟩,
 ⟨(some 284), .bin .neq (.t 281) (.t 283), (some (280, true)), []⟩,
 ⟨(some 285), .pick (.t 280) (.t 284) (.c (.val (.bool false))), none, []⟩])
 (.cond (.t 285) (.reg [⟨(some 286), .mv (.t 11), none, []⟩,
 ⟨(some 287), .mv (.t 12), none, []⟩,
 ⟨(some 288), .cvt .u64 (.t 287), none, []⟩,
 ⟨(some 289), .bin .shl (.c (.val (.int .i64 1))) (.t 288), none, []⟩,
 ⟨(some 290), .bin .add (.t 286) (.t 289), none, []⟩,
 ⟨(some 11), .mv (.t 290), none, []⟩])
 .skip)))
 (.reg [⟨(some 268), .mv (.t 12), none, []⟩,
 ⟨(some 269), .bin .add (.t 268) (.c (.val (.int .i64 1))), none, []⟩,
 ⟨(some 12), .mv (.t 269), none, []⟩]))))))
 (.seq (.reg [⟨(some 291), .fad 1 (.t 8), none, []⟩,
 ⟨(some 292), .ld1 (.t 291), none, []⟩,
 ⟨(some 293), .fad 1 (.t 5), none, []⟩,
 ⟨(some 294), .ld1 (.t 293), none, []⟩,
 ⟨(some 295), .bin .sub (.t 294) (.c (.val (.int .i64 1))), none, []⟩,
 ⟨(some 296), .mv (.t 11), none, []⟩,
 ⟨(some 297), .ixa 12 (.t 292) (.t 295), none, []⟩,
 ⟨(some 298), .fad 8 (.t 297), none, []⟩,
 ⟨none, .st 1 (.t 298) (.t 296), none, []⟩])
 (.reg [⟨(some 299), .fad 0 (.t 8), none, []⟩,
 ⟨(some 300), .ld1 (.t 299), none, []⟩,
 ⟨(some 301), .fad 2 (.t 5), none, []⟩,
 ⟨(some 302), .ld1 (.t 301), none, []⟩,
 ⟨(some 303), .ixa 5 (.t 300) (.t 302), none, []⟩,
 ⟨(some 304), .fad 4 (.t 303), none, []⟩,
 ⟨none, .st 1 (.t 304) (.c (.val (.int .i64 0))), none, []⟩]))))
 (.seq (.reg [⟨(some 306), .bin .eql (.t 24) (.c (.val (.int .i64 21))), none, []⟩,
 ⟨(some 305), .mv (.t 306), none, []⟩])
 (.cond (.t 305) (.reg [⟨(some 307), .fad 5 (.t 8), none, []⟩,
 ⟨(some 308), .ld1 (.t 307), none, []⟩,
 ⟨(some 309), .bin .add (.t 308) (.c (.val (.int .i64 1))), none, []⟩,
 ⟨(some 310), .fad 5 (.t 8), none, []⟩,
 ⟨none, .st 1 (.t 310) (.t 309), none, []⟩])
 .skip))))))))))))))))))))))))))))))))))))))))
 (.seq (.reg [⟨(some 311), .ldn 6 (.t 8), none, []⟩,
 ⟨none, .st 6 (.t 6) (.t 311), none, []⟩,
 ⟨(some 7), .mv (.c (.val (.int .i64 0))), none, []⟩])
 .ret)))))),
[(.cn 6 6), (.t 7)])
theorem irOk24 : convFn Tryd.prog Tryd.f24 = some ir24 := by kernel_rfl


section
variable {s : StateD} {o : OpD}
theorem do_1 (hk : o.kind = 1) : doR s o = ({ s with jobs := s.jobs ++ [newJob o] }) := by
  simp [doR, hk]
theorem do_2 (hk : o.kind = 2) : doR s o = (letGoD s o.a 4) := by
  simp [doR, hk]
theorem do_3 (hk : o.kind = 3) : doR s o = ({ s with prior := meant s, goal := o.a, mode := 0 }) := by
  simp [doR, hk]
theorem do_4 (hk : o.kind = 4) : doR s o = ({ s with mode := 1 }) := by
  simp [doR, hk]
theorem do_5 (hk : o.kind = 5) : doR s o = ({ s with mode := 0 }) := by
  simp [doR, hk]
theorem do_6 (hk : o.kind = 6) : doR s o = ({ s with mode := 2 }) := by
  simp [doR, hk]
theorem do_7 (hk : o.kind = 7) : doR s o = ((let t := if 0 < (nodeA s o.a).job then letGoD s (nodeA s o.a).job 0 else s; setN t o.a { nodeA t o.a with up := false, moving := false })) := by
  simp [doR, hk]
theorem do_8 (hk : o.kind = 8) : doR s o = (setN s o.a { nodeA s o.a with up := true, version := o.b }) := by
  simp [doR, hk]
theorem do_9 (hk : o.kind = 9) : doR s o = ({ setJ s o.a { jobA s o.a with phase := 1, inc := (jobA s o.a).inc + 1, nodes := o.b } with nodes := s.nodes.mapIdx (takesA o.b o.a) }) := by
  simp [doR, hk]
theorem do_10 (hk : o.kind = 10) : doR s o = (setJ s o.a { jobA s o.a with phase := 2, since := o.b }) := by
  simp [doR, hk]
theorem do_11 (hk : o.kind = 11) : doR s o = (letGoD s o.a 0) := by
  simp [doR, hk]
theorem do_12 (hk : o.kind = 12) : doR s o = (setJ s o.a { jobA s o.a with phase := 3, til := o.b }) := by
  simp [doR, hk]
theorem do_13 (hk : o.kind = 13) : doR s o = (setJ s o.a { jobA s o.a with epoch := o.b }) := by
  simp [doR, hk]
theorem do_14 (hk : o.kind = 14) : doR s o = (letGoD s o.a 0) := by
  simp [doR, hk]
theorem do_15 (hk : o.kind = 15) : doR s o = (letGoD s o.a 4) := by
  simp [doR, hk]
theorem do_16 (hk : o.kind = 16) : doR s o = (setN s o.a { nodeA s o.a with cordon := true }) := by
  simp [doR, hk]
theorem do_17 (hk : o.kind = 17) : doR s o = (setN s o.a { nodeA s o.a with cordon := false }) := by
  simp [doR, hk]
theorem do_18 (hk : o.kind = 18) : doR s o = (setN s o.a { nodeA s o.a with moving := true }) := by
  simp [doR, hk]
theorem do_19 (hk : o.kind = 19) : doR s o = (setN s o.a { nodeA s o.a with moving := false, cordon := false, version := o.b }) := by
  simp [doR, hk]
theorem do_20 (hk : o.kind = 20) : doR s o = (setN (setJ s o.a { jobA s o.a with nodes := leftTo (jobA s o.a).nodes o.b 6 }) o.b { nodeA s o.b with job := 0 }) := by
  simp [doR, hk]
theorem do_21 (hk : o.kind = 21) : doR s o = ({ s with term := s.term + 1 }) := by
  simp [doR, hk]
end
theorem why_job {c : ConfD} {s : StateD} {o : OpD} (ho : opOkB o = true) (hk : jobK o.kind = true) (h : whyR c s o = 0) : 1 ≤ o.a ∧ o.a ≤ s.jobs.length := by
  by_cases hq : o.a < 1 ∨ (s.jobs.length : Int) < o.a
  · exfalso
    unfold jobK at hk
    have hk := of_decide_eq_true hk
    rcases hk with hk | hk | hk | hk | hk | hk | hk | hk | hk <;>
      simp [whyR, ho, hk, jobK, hq] at h
  · omega
theorem why_node {c : ConfD} {s : StateD} {o : OpD} (ho : opOkB o = true) (hk : nodeK o.kind = true) (h : whyR c s o = 0) : o.a < s.nodes.length := by
  by_cases hq : (s.nodes.length : Int) ≤ o.a
  · exfalso
    unfold nodeK at hk
    have hk := of_decide_eq_true hk
    rcases hk with hk | hk | hk | hk | hk | hk <;>
      simp [whyR, ho, hk, jobK, nodeK, hq] at h
  · omega
def hold9S (c : ConfD) (s : StateD) (o : OpD) (j' : JobD) (k : Nat) : St := ⟨[(5, .ptr 2 0), (6, .ptr 3 0), (8, .ptr 6 0), (10, .int k)], [some (.box 23 [.int c.nodes, .int c.queues, .int c.quota, .int c.wave, .int c.lease, .int c.retry, .int c.deadline, .int c.room, .int c.disk]),
  some (.box 27 [nodesV s.nodes, jobsV s.jobs, .int s.goal, .int s.prior, .int s.mode, .int s.term]),
  some (.box 35 [.int 9, .int o.a, .int o.b, .int o.c, .int o.d, .int o.e, .int o.f]),
  some (.box 27 [.d (.val (.slice none 0 0)), .d (.val (.slice none 0 0)), .int 0, .int 0, .int 0, .int 0]),
  some (.dat 48 5 ((updTo (takesA o.b o.a) s.nodes k).map nodeR)), some (.dat 52 12 ((s.jobs.set (o.a - 1).toNat j').map jobR)), some (.box 27 [.sl 4 s.nodes.length 5 0 s.nodes.length, .sl 5 s.jobs.length 12 0 s.jobs.length, .int s.goal, .int s.prior, .int s.mode, .int s.term])]⟩
def shrink9S (c : ConfD) (s : StateD) (o : OpD) (m : Int) (k : Nat) : St := ⟨[(5, .ptr 2 0), (6, .ptr 3 0), (8, .ptr 6 0), (11, .int (leftTo m o.b k)), (12, .int k)], [some (.box 23 [.int c.nodes, .int c.queues, .int c.quota, .int c.wave, .int c.lease, .int c.retry, .int c.deadline, .int c.room, .int c.disk]),
  some (.box 27 [nodesV s.nodes, jobsV s.jobs, .int s.goal, .int s.prior, .int s.mode, .int s.term]),
  some (.box 35 [.int 20, .int o.a, .int o.b, .int o.c, .int o.d, .int o.e, .int o.f]),
  some (.box 27 [.d (.val (.slice none 0 0)), .d (.val (.slice none 0 0)), .int 0, .int 0, .int 0, .int 0]),
  some (.dat 48 5 (s.nodes.map nodeR)), some (.dat 52 12 (s.jobs.map jobR)), some (.box 27 [.sl 4 s.nodes.length 5 0 s.nodes.length, .sl 5 s.jobs.length 12 0 s.jobs.length, .int s.goal, .int s.prior, .int s.mode, .int s.term])]⟩
theorem leftTo_le (m b : Int) : ∀ k : Nat, k ≤ 6 → 0 ≤ leftTo m b k ∧ leftTo m b k < 2 ^ k
  | 0, _ => by simp [leftTo]
  | k + 1, h => by
    have := leftTo_le m b k (by omega)
    unfold leftTo
    have hp : (2 : Int) ^ (k + 1) = 2 * 2 ^ k := by rw [Int.pow_succ]; omega
    have h0 : (0 : Int) < 2 ^ k := Int.pow_pos (by decide)
    split <;> omega
set_option maxHeartbeats 3200000 in
theorem apply9_tri (c : ConfD) (s : StateD) (o : OpD) (hp : RightP c s) : Tri Tryd.prog G 24 [confV c, stateV s, opV o] [] (.tup [stateV (applyR c s o).1, .int (applyR c s o).2]) [] := by
  refine tri_W Tryd.func24 (by decide) irOk24 (Nat.le_of_ble_eq_true rfl) ?_
  have hln := hp.len
  have hlj := hp.jobs
  have hBJ : (s.jobs.length + 1) * 96 ≤ 70368744177664 := by omega
  simp only [ir24, go_sem, ↓reduceIte, zA, zB, zC, zD, zE, zF, reduceCtorEq, zG, zH, zI, zJ, zK, zL, zM, zN, zO, zP]
  refine W_calln (copy9_tri s (by omega) (by omega)) rfl rfl rfl ?_
  simp only [go_sem, ↓reduceIte, zA, zB, zC, zD, zE, zF, reduceCtorEq, zG, zH, zI, zJ, zK, zL, zM, zN, zO, zP]
  refine W_callz [4, 5] (why9_tri c s o (by omega) (by omega)) rfl (by simp [argRs, argR, rowsAt, objL, List.take_of_length_le, go_sem, ↓reduceIte, zA, zB, zC, zD, zE, zF, reduceCtorEq, zG, zH, zI, zJ, zK, zL, zM, zN, zO, zP]) (by simp [objL]) rfl rfl ?_; simp only [go_sem, ↓reduceIte, zA, zB, zC, zD, zE, zF, reduceCtorEq, zG, zH, zI, zJ, zK, zL, zM, zN, zO, zP]
  cases hw0 : (whyR c s o != 0) with
  | true =>
    have hA : applyR c s o = (s, whyR c s o) := by unfold applyR; rw [if_pos (by simpa using hw0)]
    rw [hA]
    simp only [hw0, go_sem, ↓reduceIte, zA, zB, zC, zD, zE, zF, reduceCtorEq, zG, zH, zI, zJ, zK, zL, zM, zN, zO, zP]
    exact BackZ [4, 5] rfl (by simp [St.obj, objL]) (by simp [St.obj, objL, oneOr, St.get, getE, argR, argRs, rowsAt, LV.int, List.take_of_length_le])
  | false =>
  have hw1 : whyR c s o = 0 := by simpa using hw0
  have hA : applyR c s o = (doR s o, 0) := by unfold applyR; rw [if_neg (by simpa using hw1)]
  rw [hA]
  have ho : opOkB o = true := by
    cases ho : opOkB o with
    | true => rfl
    | false => unfold whyR at hw1; rw [if_pos ho] at hw1; cases hw1
  obtain ⟨hkk, hka, hkb⟩ := opOk_nums ho
  simp only [hw0, go_sem, ↓reduceIte, zA, zB, zC, zD, zE, zF, reduceCtorEq, zG, zH, zI, zJ, zK, zL, zM, zN, zO, zP]
  have hk : o.kind = 1 ∨ o.kind = 2 ∨ o.kind = 3 ∨ o.kind = 4 ∨ o.kind = 5 ∨ o.kind = 6 ∨ o.kind = 7 ∨ o.kind = 8 ∨ o.kind = 9 ∨ o.kind = 10 ∨ o.kind = 11 ∨ o.kind = 12 ∨ o.kind = 13 ∨ o.kind = 14 ∨ o.kind = 15 ∨ o.kind = 16 ∨ o.kind = 17 ∨ o.kind = 18 ∨ o.kind = 19 ∨ o.kind = 20 ∨ o.kind = 21 := by omega
  rcases hk with hk | hk | hk | hk | hk | hk | hk | hk | hk | hk | hk | hk | hk | hk | hk | hk | hk | hk | hk | hk | hk
  · rw [do_1 hk]
    simp only [hk, List.length_append, hBJ, go_sem, ↓reduceIte, zA, zB, zC, zD, zE, zF, reduceCtorEq, zG, zH, zI, zJ, zK, zL, zM, zN, zO, zP]
    exact BackZ [4, 5] rfl (by simp [St.obj, objL]) (by simp [St.obj, objL, oneOr, St.get, getE, argR, argRs, rowsAt, LV.int, List.take_of_length_le, nodeR, jobR, newJob])
  · rw [do_2 hk]
    have hqa := why_job ho (by rw [hk]; rfl) hw1
    simp only [hk, go_sem, ↓reduceIte, zA, zB, zC, zD, zE, zF, reduceCtorEq, zG, zH, zI, zJ, zK, zL, zM, zN, zO, zP]
    refine W_callo [4, 5] (letGo9_tri s o.a 4 (by omega) (by omega) (by omega) (by omega)) rfl (by simp only [argRs, argR, List.map_cons, List.map_nil, go_sem, ↓reduceIte, zA, zB, zC, zD, zE, zF, reduceCtorEq, zG, zH, zI, zJ, zK, zL, zM, zN, zO, zP, stA, datO]) (by decide) (by simp only [go_sem, ↓reduceIte, zA, zB, zC, zD, zE, zF, reduceCtorEq, zG, zH, zI, zJ, zK, zL, zM, zN, zO, zP, stA, datO]) (by simp only [go_sem, ↓reduceIte, zA, zB, zC, zD, zE, zF, reduceCtorEq, zG, zH, zI, zJ, zK, zL, zM, zN, zO, zP, List.all_cons, List.all_nil, stA, datO]) (by simp) ?_; simp only [go_sem, ↓reduceIte, zA, zB, zC, zD, zE, zF, reduceCtorEq, zG, zH, zI, zJ, zK, zL, zM, zN, zO, zP, stA, datO]
    exact BackZ [4, 5] rfl (by simp [St.obj, objL]) (by simp [St.obj, objL, oneOr, St.get, getE, argR, argRs, rowsAt, LV.int, List.take_of_length_le, nodeR, jobR, letGoD])
  · rw [do_3 hk]
    simp only [hk, go_sem, ↓reduceIte, zA, zB, zC, zD, zE, zF, reduceCtorEq, zG, zH, zI, zJ, zK, zL, zM, zN, zO, zP]
    refine W_callz [4, 5] (meant9_tri s) rfl (by simp [argRs, argR, rowsAt, objL, List.take_of_length_le, go_sem, ↓reduceIte, zA, zB, zC, zD, zE, zF, reduceCtorEq, zG, zH, zI, zJ, zK, zL, zM, zN, zO, zP]) (by simp [objL]) rfl rfl ?_; simp only [go_sem, ↓reduceIte, zA, zB, zC, zD, zE, zF, reduceCtorEq, zG, zH, zI, zJ, zK, zL, zM, zN, zO, zP]
    exact BackZ [4, 5] rfl (by simp [St.obj, objL]) (by simp [St.obj, objL, oneOr, St.get, getE, argR, argRs, rowsAt, LV.int, List.take_of_length_le, nodeR, jobR])
  · rw [do_4 hk]
    simp only [hk, go_sem, ↓reduceIte, zA, zB, zC, zD, zE, zF, reduceCtorEq, zG, zH, zI, zJ, zK, zL, zM, zN, zO, zP]
    exact BackZ [4, 5] rfl (by simp [St.obj, objL]) (by simp [St.obj, objL, oneOr, St.get, getE, argR, argRs, rowsAt, LV.int, List.take_of_length_le, nodeR, jobR])
  · rw [do_5 hk]
    simp only [hk, go_sem, ↓reduceIte, zA, zB, zC, zD, zE, zF, reduceCtorEq, zG, zH, zI, zJ, zK, zL, zM, zN, zO, zP]
    exact BackZ [4, 5] rfl (by simp [St.obj, objL]) (by simp [St.obj, objL, oneOr, St.get, getE, argR, argRs, rowsAt, LV.int, List.take_of_length_le, nodeR, jobR])
  · rw [do_6 hk]
    simp only [hk, go_sem, ↓reduceIte, zA, zB, zC, zD, zE, zF, reduceCtorEq, zG, zH, zI, zJ, zK, zL, zM, zN, zO, zP]
    exact BackZ [4, 5] rfl (by simp [St.obj, objL]) (by simp [St.obj, objL, oneOr, St.get, getE, argR, argRs, rowsAt, LV.int, List.take_of_length_le, nodeR, jobR])
  · rw [do_7 hk]
    have hqa := why_node ho (by rw [hk]; rfl) hw1
    have q3 : 0 ≤ o.a := hka.1
    obtain ⟨i, hiq⟩ : ∃ i : Nat, o.a.toNat = i := ⟨_, rfl⟩
    have hil : i < s.nodes.length := by omega
    have hg := get_mapD (f := nodeR) zeroNode hil
    have hN : nodeA s o.a = s.nodes.getD i zeroNode := by unfold nodeA; rw [hiq]
    rw [hN]
    have hjb := hp.job i hil
    unfold noA at hjb
    generalize hnn : s.nodes.getD i zeroNode = n at *
    simp only [hk, q3, hiq, hil, hg, go_sem, ↓reduceIte, zA, zB, zC, zD, zE, zF, reduceCtorEq, zG, zH, zI, zJ, zK, zL, zM, zN, zO, zP]
    refine WC_split (fun h => ?_) (fun h => ?_) <;> simp only [h, go_sem, ↓reduceIte, zA, zB, zC, zD, zE, zF, reduceCtorEq, zG, zH, zI, zJ, zK, zL, zM, zN, zO, zP] <;> (try simp only [beq_iff_eq, beq_eq_false_iff_ne, bne_iff_ne, ne_eq, decide_eq_true_eq, decide_eq_false_iff_not, Bool.not_true, Bool.not_false, Bool.not_eq_true, Bool.not_eq_false, bne_eq_false_iff_eq, Decidable.not_not] at h)
    · rw [if_pos (by omega)]
      simp only [hk, q3, hiq, hil, hg, go_sem, ↓reduceIte, zA, zB, zC, zD, zE, zF, reduceCtorEq, zG, zH, zI, zJ, zK, zL, zM, zN, zO, zP]
      refine WD_callo [4, 5] (letGo9_tri s n.job 0 (by omega) (by omega) (by omega) (by omega)) rfl (by simp only [argRs, argR, List.map_cons, List.map_nil, go_sem, ↓reduceIte, zA, zB, zC, zD, zE, zF, reduceCtorEq, zG, zH, zI, zJ, zK, zL, zM, zN, zO, zP, stA, datO]) (by decide) (by simp only [go_sem, ↓reduceIte, zA, zB, zC, zD, zE, zF, reduceCtorEq, zG, zH, zI, zJ, zK, zL, zM, zN, zO, zP, stA, datO]) (by simp only [go_sem, ↓reduceIte, zA, zB, zC, zD, zE, zF, reduceCtorEq, zG, zH, zI, zJ, zK, zL, zM, zN, zO, zP, List.all_cons, List.all_nil, stA, datO]) (by simp) ?_; simp only [go_sem, ↓reduceIte, zA, zB, zC, zD, zE, zF, reduceCtorEq, zG, zH, zI, zJ, zK, zL, zM, zN, zO, zP, stA, datO]
      refine W_opsD_end rfl ?_
      have hg2 : ((letGoD s n.job 0).nodes.map nodeR)[i]? = some (nodeR (nodeA (letGoD s n.job 0) o.a)) := by
        unfold nodeA; rw [hiq]; exact get_mapD zeroNode (by simp [letGoD]; exact hil)
      have hl : (letGoD s n.job 0).nodes.length = s.nodes.length := by simp [letGoD]
      have hlj2 : (letGoD s n.job 0).jobs.length = s.jobs.length := by simp [letGoD]
      have hst : (letGoD s n.job 0).goal = s.goal ∧ (letGoD s n.job 0).prior = s.prior ∧ (letGoD s n.job 0).mode = s.mode ∧ (letGoD s n.job 0).term = s.term := ⟨rfl, rfl, rfl, rfl⟩
      obtain ⟨e1, e2, e3, e4⟩ := hst
      generalize nodeA (letGoD s n.job 0) o.a = m at *
      generalize letGoD s n.job 0 = u at *
      have hil2 : i < u.nodes.length := by omega
      simp only [hk, q3, hiq, hil, hil2, hl, hg2, List.getElem?_set_self, List.length_map, List.length_set, List.set_set, go_sem, ↓reduceIte, zA, zB, zC, zD, zE, zF, reduceCtorEq, zG, zH, zI, zJ, zK, zL, zM, zN, zO, zP]
      exact BackZ [4, 5] rfl (by simp [St.obj, objL]) (by simp [St.obj, objL, oneOr, St.get, getE, argR, argRs, rowsAt, LV.int, List.take_of_length_le, nodeR, jobR, setN, hiq, List.map_set, hl, hlj2, e1, e2, e3, e4])
    · rw [if_neg (by omega), hN]
      simp only [hk, q3, hiq, hil, hg, List.getElem?_set_self, List.length_map, List.length_set, List.set_set, go_sem, ↓reduceIte, zA, zB, zC, zD, zE, zF, reduceCtorEq, zG, zH, zI, zJ, zK, zL, zM, zN, zO, zP]
      exact BackZ [4, 5] rfl (by simp [St.obj, objL]) (by simp [St.obj, objL, oneOr, St.get, getE, argR, argRs, rowsAt, LV.int, List.take_of_length_le, nodeR, jobR, setN, hiq, List.map_set])
  · rw [do_8 hk]
    have hqa := why_node ho (by rw [hk]; rfl) hw1
    have q3 : 0 ≤ o.a := hka.1
    obtain ⟨i, hiq⟩ : ∃ i : Nat, o.a.toNat = i := ⟨_, rfl⟩
    have hil : i < s.nodes.length := by omega
    have hg := get_mapD (f := nodeR) zeroNode hil
    have hN : nodeA s o.a = s.nodes.getD i zeroNode := by unfold nodeA; rw [hiq]
    rw [hN]
    generalize s.nodes.getD i zeroNode = n at *
    simp only [hk, q3, hiq, hil, hg, List.getElem?_set_self, List.length_map, List.length_set, List.set_set, go_sem, ↓reduceIte, zA, zB, zC, zD, zE, zF, reduceCtorEq, zG, zH, zI, zJ, zK, zL, zM, zN, zO, zP]
    exact BackZ [4, 5] rfl (by simp [St.obj, objL]) (by simp [St.obj, objL, oneOr, St.get, getE, argR, argRs, rowsAt, LV.int, List.take_of_length_le, nodeR, jobR, setN, hiq, List.map_set])
  · rw [do_9 hk]
    have hqa := why_job ho (by rw [hk]; rfl) hw1
    have hw : IntKind.i64.wrap (o.a - 1) = o.a - 1 := wrap_in (by omega) (by omega)
    have q3 : 0 ≤ o.a - 1 := by omega
    obtain ⟨k, hkq⟩ : ∃ k : Nat, (o.a - 1).toNat = k := ⟨_, rfl⟩
    have hkl : k < s.jobs.length := by omega
    have hg := get_mapD (f := jobR) zeroJob hkl
    have hJ : jobA s o.a = s.jobs.getD k zeroJob := by unfold jobA; rw [hkq]
    rw [hJ]
    have hnum := (hp.num k hkl).inc
    unfold joA at hnum
    generalize s.jobs.getD k zeroJob = j at *
    have hw2 : IntKind.i64.wrap (j.inc + 1) = j.inc + 1 := wrap_in (by omega) (by omega)
    simp only [hk, hw, hw2, q3, hkq, hkl, hg, List.getElem?_set_self, List.length_map, List.length_set, List.set_set, go_sem, ↓reduceIte, zA, zB, zC, zD, zE, zF, reduceCtorEq, zG, zH, zI, zJ, zK, zL, zM, zN, zO, zP]
    refine W_loopI [5, 6, 8, 10] [] (fun q : Nat => q ≤ s.nodes.length) (fun q => s.nodes.length - q) (hold9S c s o { j with phase := 1, inc := j.inc + 1, nodes := o.b }) 0 ?_ (Nat.zero_le _) (fun q hq => ?_)
    · simp only [hold9S, updTo_zero, Int.natCast_zero, hkq, List.map_set, go_sem, ↓reduceIte, zA, zB, zC, zD, zE, zF, reduceCtorEq, zG, zH, zI, zJ, zK, zL, zM, zN, zO, zP]
    simp only [hold9S, hkq, go_sem, ↓reduceIte, zA, zB, zC, zD, zE, zF, reduceCtorEq, zG, zH, zI, zJ, zK, zL, zM, zN, zO, zP]
    refine WC_split (fun h => ?_) (fun h => ?_)
    · have h := lt_of_dec h
      have hg2 : ((updTo (takesA o.b o.a) s.nodes q).map nodeR)[q]? = some (nodeR s.nodes[q]) := by rw [List.getElem?_map, updTo_at _ _ h]; rfl
      simp only [go_sem, ↓reduceIte, zA, zB, zC, zD, zE, zF, reduceCtorEq, zG, zH, zI, zJ, zK, zL, zM, zN, zO, zP]
      refine W_calld (has9_tri o.b q (by omega)) rfl rfl rfl rfl ?_; simp only [go_sem, ↓reduceIte, zA, zB, zC, zD, zE, zF, reduceCtorEq, zG, zH, zI, zJ, zK, zL, zM, zN, zO, zP]
      cases hb : hasB o.b q with
      | true =>
        have hs : ((updTo (takesA o.b o.a) s.nodes q).map nodeR).set q (nodeR { s.nodes[q] with job := o.a }) = (updTo (takesA o.b o.a) s.nodes (q + 1)).map nodeR := by
          rw [← List.map_set, updTo_set _ _ h (by simp only [takesA, hb, if_true])]
        simp only [nodeR] at hs
        simp only [h, hg2, updTo_length, go_sem, ↓reduceIte, zA, zB, zC, zD, zE, zF, reduceCtorEq, zG, zH, zI, zJ, zK, zL, zM, zN, zO, zP]
        refine W_lpI (q + 1) ?_ ?_ (by omega) (by omega)
        · simp only [go_sem, ↓reduceIte, zA, zB, zC, zD, zE, zF, reduceCtorEq, zG, zH, zI, zJ, zK, zL, zM, zN, zO, zP]
        · simp only [hold9S, hkq, go_sem, ↓reduceIte, zA, zB, zC, zD, zE, zF, reduceCtorEq, zG, zH, zI, zJ, zK, zL, zM, zN, zO, zP, wrap_succ (show q < 9223372036854775807 by omega), hs]
      | false =>
        have hs := updTo_same (takesA o.b o.a) s.nodes h (by simp only [takesA, hb, Bool.false_eq_true, if_false])
        simp only [go_sem, ↓reduceIte, zA, zB, zC, zD, zE, zF, reduceCtorEq, zG, zH, zI, zJ, zK, zL, zM, zN, zO, zP]
        refine W_lpI (q + 1) ?_ ?_ (by omega) (by omega)
        · simp only [go_sem, ↓reduceIte, zA, zB, zC, zD, zE, zF, reduceCtorEq, zG, zH, zI, zJ, zK, zL, zM, zN, zO, zP]
        · simp only [hold9S, hkq, go_sem, ↓reduceIte, zA, zB, zC, zD, zE, zF, reduceCtorEq, zG, zH, zI, zJ, zK, zL, zM, zN, zO, zP, wrap_succ (show q < 9223372036854775807 by omega), hs]
    · obtain rfl := eq_of_dec h hq
      simp only [updTo_full, go_sem, ↓reduceIte, zA, zB, zC, zD, zE, zF, reduceCtorEq, zG, zH, zI, zJ, zK, zL, zM, zN, zO, zP]
      exact BackZ [4, 5] rfl (by simp [St.obj, objL]) (by simp [St.obj, objL, oneOr, St.get, getE, argR, argRs, rowsAt, LV.int, List.take_of_length_le, nodeR, jobR, setJ, hkq])
  · rw [do_10 hk]
    have hqa := why_job ho (by rw [hk]; rfl) hw1
    have hw : IntKind.i64.wrap (o.a - 1) = o.a - 1 := wrap_in (by omega) (by omega)
    have q3 : 0 ≤ o.a - 1 := by omega
    obtain ⟨k, hkq⟩ : ∃ k : Nat, (o.a - 1).toNat = k := ⟨_, rfl⟩
    have hkl : k < s.jobs.length := by omega
    have hg := get_mapD (f := jobR) zeroJob hkl
    have hJ : jobA s o.a = s.jobs.getD k zeroJob := by unfold jobA; rw [hkq]
    rw [hJ]
    generalize s.jobs.getD k zeroJob = j at *
    simp only [hk, hw, q3, hkq, hkl, hg, List.getElem?_set_self, List.length_map, List.length_set, List.set_set, go_sem, ↓reduceIte, zA, zB, zC, zD, zE, zF, reduceCtorEq, zG, zH, zI, zJ, zK, zL, zM, zN, zO, zP]
    exact BackZ [4, 5] rfl (by simp [St.obj, objL]) (by simp [St.obj, objL, oneOr, St.get, getE, argR, argRs, rowsAt, LV.int, List.take_of_length_le, nodeR, jobR, setJ, hkq, List.map_set])
  · rw [do_11 hk]
    have hqa := why_job ho (by rw [hk]; rfl) hw1
    simp only [hk, go_sem, ↓reduceIte, zA, zB, zC, zD, zE, zF, reduceCtorEq, zG, zH, zI, zJ, zK, zL, zM, zN, zO, zP]
    refine W_callo [4, 5] (letGo9_tri s o.a 0 (by omega) (by omega) (by omega) (by omega)) rfl (by simp only [argRs, argR, List.map_cons, List.map_nil, go_sem, ↓reduceIte, zA, zB, zC, zD, zE, zF, reduceCtorEq, zG, zH, zI, zJ, zK, zL, zM, zN, zO, zP, stA, datO]) (by decide) (by simp only [go_sem, ↓reduceIte, zA, zB, zC, zD, zE, zF, reduceCtorEq, zG, zH, zI, zJ, zK, zL, zM, zN, zO, zP, stA, datO]) (by simp only [go_sem, ↓reduceIte, zA, zB, zC, zD, zE, zF, reduceCtorEq, zG, zH, zI, zJ, zK, zL, zM, zN, zO, zP, List.all_cons, List.all_nil, stA, datO]) (by simp) ?_; simp only [go_sem, ↓reduceIte, zA, zB, zC, zD, zE, zF, reduceCtorEq, zG, zH, zI, zJ, zK, zL, zM, zN, zO, zP, stA, datO]
    exact BackZ [4, 5] rfl (by simp [St.obj, objL]) (by simp [St.obj, objL, oneOr, St.get, getE, argR, argRs, rowsAt, LV.int, List.take_of_length_le, nodeR, jobR, letGoD])
  · rw [do_12 hk]
    have hqa := why_job ho (by rw [hk]; rfl) hw1
    have hw : IntKind.i64.wrap (o.a - 1) = o.a - 1 := wrap_in (by omega) (by omega)
    have q3 : 0 ≤ o.a - 1 := by omega
    obtain ⟨k, hkq⟩ : ∃ k : Nat, (o.a - 1).toNat = k := ⟨_, rfl⟩
    have hkl : k < s.jobs.length := by omega
    have hg := get_mapD (f := jobR) zeroJob hkl
    have hJ : jobA s o.a = s.jobs.getD k zeroJob := by unfold jobA; rw [hkq]
    rw [hJ]
    generalize s.jobs.getD k zeroJob = j at *
    simp only [hk, hw, q3, hkq, hkl, hg, List.getElem?_set_self, List.length_map, List.length_set, List.set_set, go_sem, ↓reduceIte, zA, zB, zC, zD, zE, zF, reduceCtorEq, zG, zH, zI, zJ, zK, zL, zM, zN, zO, zP]
    exact BackZ [4, 5] rfl (by simp [St.obj, objL]) (by simp [St.obj, objL, oneOr, St.get, getE, argR, argRs, rowsAt, LV.int, List.take_of_length_le, nodeR, jobR, setJ, hkq, List.map_set])
  · rw [do_13 hk]
    have hqa := why_job ho (by rw [hk]; rfl) hw1
    have hw : IntKind.i64.wrap (o.a - 1) = o.a - 1 := wrap_in (by omega) (by omega)
    have q3 : 0 ≤ o.a - 1 := by omega
    obtain ⟨k, hkq⟩ : ∃ k : Nat, (o.a - 1).toNat = k := ⟨_, rfl⟩
    have hkl : k < s.jobs.length := by omega
    have hg := get_mapD (f := jobR) zeroJob hkl
    have hJ : jobA s o.a = s.jobs.getD k zeroJob := by unfold jobA; rw [hkq]
    rw [hJ]
    generalize s.jobs.getD k zeroJob = j at *
    simp only [hk, hw, q3, hkq, hkl, hg, List.getElem?_set_self, List.length_map, List.length_set, List.set_set, go_sem, ↓reduceIte, zA, zB, zC, zD, zE, zF, reduceCtorEq, zG, zH, zI, zJ, zK, zL, zM, zN, zO, zP]
    exact BackZ [4, 5] rfl (by simp [St.obj, objL]) (by simp [St.obj, objL, oneOr, St.get, getE, argR, argRs, rowsAt, LV.int, List.take_of_length_le, nodeR, jobR, setJ, hkq, List.map_set])
  · rw [do_14 hk]
    have hqa := why_job ho (by rw [hk]; rfl) hw1
    simp only [hk, go_sem, ↓reduceIte, zA, zB, zC, zD, zE, zF, reduceCtorEq, zG, zH, zI, zJ, zK, zL, zM, zN, zO, zP]
    refine W_callo [4, 5] (letGo9_tri s o.a 0 (by omega) (by omega) (by omega) (by omega)) rfl (by simp only [argRs, argR, List.map_cons, List.map_nil, go_sem, ↓reduceIte, zA, zB, zC, zD, zE, zF, reduceCtorEq, zG, zH, zI, zJ, zK, zL, zM, zN, zO, zP, stA, datO]) (by decide) (by simp only [go_sem, ↓reduceIte, zA, zB, zC, zD, zE, zF, reduceCtorEq, zG, zH, zI, zJ, zK, zL, zM, zN, zO, zP, stA, datO]) (by simp only [go_sem, ↓reduceIte, zA, zB, zC, zD, zE, zF, reduceCtorEq, zG, zH, zI, zJ, zK, zL, zM, zN, zO, zP, List.all_cons, List.all_nil, stA, datO]) (by simp) ?_; simp only [go_sem, ↓reduceIte, zA, zB, zC, zD, zE, zF, reduceCtorEq, zG, zH, zI, zJ, zK, zL, zM, zN, zO, zP, stA, datO]
    exact BackZ [4, 5] rfl (by simp [St.obj, objL]) (by simp [St.obj, objL, oneOr, St.get, getE, argR, argRs, rowsAt, LV.int, List.take_of_length_le, nodeR, jobR, letGoD])
  · rw [do_15 hk]
    have hqa := why_job ho (by rw [hk]; rfl) hw1
    simp only [hk, go_sem, ↓reduceIte, zA, zB, zC, zD, zE, zF, reduceCtorEq, zG, zH, zI, zJ, zK, zL, zM, zN, zO, zP]
    refine W_callo [4, 5] (letGo9_tri s o.a 4 (by omega) (by omega) (by omega) (by omega)) rfl (by simp only [argRs, argR, List.map_cons, List.map_nil, go_sem, ↓reduceIte, zA, zB, zC, zD, zE, zF, reduceCtorEq, zG, zH, zI, zJ, zK, zL, zM, zN, zO, zP, stA, datO]) (by decide) (by simp only [go_sem, ↓reduceIte, zA, zB, zC, zD, zE, zF, reduceCtorEq, zG, zH, zI, zJ, zK, zL, zM, zN, zO, zP, stA, datO]) (by simp only [go_sem, ↓reduceIte, zA, zB, zC, zD, zE, zF, reduceCtorEq, zG, zH, zI, zJ, zK, zL, zM, zN, zO, zP, List.all_cons, List.all_nil, stA, datO]) (by simp) ?_; simp only [go_sem, ↓reduceIte, zA, zB, zC, zD, zE, zF, reduceCtorEq, zG, zH, zI, zJ, zK, zL, zM, zN, zO, zP, stA, datO]
    exact BackZ [4, 5] rfl (by simp [St.obj, objL]) (by simp [St.obj, objL, oneOr, St.get, getE, argR, argRs, rowsAt, LV.int, List.take_of_length_le, nodeR, jobR, letGoD])
  · rw [do_16 hk]
    have hqa := why_node ho (by rw [hk]; rfl) hw1
    have q3 : 0 ≤ o.a := hka.1
    obtain ⟨i, hiq⟩ : ∃ i : Nat, o.a.toNat = i := ⟨_, rfl⟩
    have hil : i < s.nodes.length := by omega
    have hg := get_mapD (f := nodeR) zeroNode hil
    have hN : nodeA s o.a = s.nodes.getD i zeroNode := by unfold nodeA; rw [hiq]
    rw [hN]
    generalize s.nodes.getD i zeroNode = n at *
    simp only [hk, q3, hiq, hil, hg, List.getElem?_set_self, List.length_map, List.length_set, List.set_set, go_sem, ↓reduceIte, zA, zB, zC, zD, zE, zF, reduceCtorEq, zG, zH, zI, zJ, zK, zL, zM, zN, zO, zP]
    exact BackZ [4, 5] rfl (by simp [St.obj, objL]) (by simp [St.obj, objL, oneOr, St.get, getE, argR, argRs, rowsAt, LV.int, List.take_of_length_le, nodeR, jobR, setN, hiq, List.map_set])
  · rw [do_17 hk]
    have hqa := why_node ho (by rw [hk]; rfl) hw1
    have q3 : 0 ≤ o.a := hka.1
    obtain ⟨i, hiq⟩ : ∃ i : Nat, o.a.toNat = i := ⟨_, rfl⟩
    have hil : i < s.nodes.length := by omega
    have hg := get_mapD (f := nodeR) zeroNode hil
    have hN : nodeA s o.a = s.nodes.getD i zeroNode := by unfold nodeA; rw [hiq]
    rw [hN]
    generalize s.nodes.getD i zeroNode = n at *
    simp only [hk, q3, hiq, hil, hg, List.getElem?_set_self, List.length_map, List.length_set, List.set_set, go_sem, ↓reduceIte, zA, zB, zC, zD, zE, zF, reduceCtorEq, zG, zH, zI, zJ, zK, zL, zM, zN, zO, zP]
    exact BackZ [4, 5] rfl (by simp [St.obj, objL]) (by simp [St.obj, objL, oneOr, St.get, getE, argR, argRs, rowsAt, LV.int, List.take_of_length_le, nodeR, jobR, setN, hiq, List.map_set])
  · rw [do_18 hk]
    have hqa := why_node ho (by rw [hk]; rfl) hw1
    have q3 : 0 ≤ o.a := hka.1
    obtain ⟨i, hiq⟩ : ∃ i : Nat, o.a.toNat = i := ⟨_, rfl⟩
    have hil : i < s.nodes.length := by omega
    have hg := get_mapD (f := nodeR) zeroNode hil
    have hN : nodeA s o.a = s.nodes.getD i zeroNode := by unfold nodeA; rw [hiq]
    rw [hN]
    generalize s.nodes.getD i zeroNode = n at *
    simp only [hk, q3, hiq, hil, hg, List.getElem?_set_self, List.length_map, List.length_set, List.set_set, go_sem, ↓reduceIte, zA, zB, zC, zD, zE, zF, reduceCtorEq, zG, zH, zI, zJ, zK, zL, zM, zN, zO, zP]
    exact BackZ [4, 5] rfl (by simp [St.obj, objL]) (by simp [St.obj, objL, oneOr, St.get, getE, argR, argRs, rowsAt, LV.int, List.take_of_length_le, nodeR, jobR, setN, hiq, List.map_set])
  · rw [do_19 hk]
    have hqa := why_node ho (by rw [hk]; rfl) hw1
    have q3 : 0 ≤ o.a := hka.1
    obtain ⟨i, hiq⟩ : ∃ i : Nat, o.a.toNat = i := ⟨_, rfl⟩
    have hil : i < s.nodes.length := by omega
    have hg := get_mapD (f := nodeR) zeroNode hil
    have hN : nodeA s o.a = s.nodes.getD i zeroNode := by unfold nodeA; rw [hiq]
    rw [hN]
    generalize s.nodes.getD i zeroNode = n at *
    simp only [hk, q3, hiq, hil, hg, List.getElem?_set_self, List.length_map, List.length_set, List.set_set, go_sem, ↓reduceIte, zA, zB, zC, zD, zE, zF, reduceCtorEq, zG, zH, zI, zJ, zK, zL, zM, zN, zO, zP]
    exact BackZ [4, 5] rfl (by simp [St.obj, objL]) (by simp [St.obj, objL, oneOr, St.get, getE, argR, argRs, rowsAt, LV.int, List.take_of_length_le, nodeR, jobR, setN, hiq, List.map_set])
  · rw [do_20 hk]
    have hqa := why_job ho (by rw [hk]; rfl) hw1
    have hw : IntKind.i64.wrap (o.a - 1) = o.a - 1 := wrap_in (by omega) (by omega)
    have q3 : 0 ≤ o.a - 1 := by omega
    obtain ⟨k, hkq⟩ : ∃ k : Nat, (o.a - 1).toNat = k := ⟨_, rfl⟩
    have hkl : k < s.jobs.length := by omega
    have hg := get_mapD (f := jobR) zeroJob hkl
    have hJ : jobA s o.a = s.jobs.getD k zeroJob := by unfold jobA; rw [hkq]
    rw [hJ]
    have hbl : o.b < s.nodes.length := by
      by_cases hq : (s.nodes.length : Int) ≤ o.b
      · exfalso
        rw [why_20 ho hk, if_neg (by omega), if_pos hq] at hw1
        cases hw1
      · omega
    obtain ⟨b, hb⟩ := Int.eq_ofNat_of_zero_le hkb.1
    have hbn : b < s.nodes.length := by omega
    have hgn := get_mapD (f := nodeR) zeroNode hbn
    have hN : nodeA s (b : Int) = s.nodes.getD b zeroNode := rfl
    generalize s.jobs.getD k zeroJob = j at *
    simp only [hk, hw, q3, hkq, hkl, hg, go_sem, ↓reduceIte, zA, zB, zC, zD, zE, zF, reduceCtorEq, zG, zH, zI, zJ, zK, zL, zM, zN, zO, zP]
    refine W_loopI [5, 6, 8, 11, 12] [] (fun q : Nat => q ≤ 6) (fun q => 6 - q) (shrink9S c s o j.nodes) 0 ?_ (by omega) (fun q hq => ?_)
    · simp only [shrink9S, leftTo, Int.natCast_zero, go_sem, ↓reduceIte, zA, zB, zC, zD, zE, zF, reduceCtorEq, zG, zH, zI, zJ, zK, zL, zM, zN, zO, zP]
    simp only [shrink9S, go_sem, ↓reduceIte, zA, zB, zC, zD, zE, zF, reduceCtorEq, zG, zH, zI, zJ, zK, zL, zM, zN, zO, zP]
    refine WC_split (fun h => ?_) (fun h => ?_) <;> simp only [h, go_sem, ↓reduceIte, zA, zB, zC, zD, zE, zF, reduceCtorEq, zG, zH, zI, zJ, zK, zL, zM, zN, zO, zP] <;> (try simp only [beq_iff_eq, beq_eq_false_iff_ne, bne_iff_ne, ne_eq, decide_eq_true_eq, decide_eq_false_iff_not, Bool.not_true, Bool.not_false, Bool.not_eq_true, Bool.not_eq_false, bne_eq_false_iff_eq, Decidable.not_not] at h)
    · simp only [hk, hw, q3, hkq, hkl, hg, go_sem, ↓reduceIte, zA, zB, zC, zD, zE, zF, reduceCtorEq, zG, zH, zI, zJ, zK, zL, zM, zN, zO, zP]
      refine W_calld (has9_tri j.nodes q (by omega)) rfl rfl rfl rfl ?_; simp only [go_sem, ↓reduceIte, zA, zB, zC, zD, zE, zF, reduceCtorEq, zG, zH, zI, zJ, zK, zL, zM, zN, zO, zP]
      have hwu : IntKind.u64.wrap (q : Int) = q := by simp [IntKind.wrap, IntKind.bits, IntKind.signed]; omega
      have hle := leftTo_le j.nodes o.b q (by omega)
      have hle2 := leftTo_le j.nodes o.b (q + 1) (by omega)
      have hp6 := pow_le64 q (by omega)
      have hp7 : (2 : Int) ^ (q + 1) ≤ 64 := pow_le64 (q + 1) (by omega)
      cases hh : hasB j.nodes q with
      | false =>
        have e : leftTo j.nodes o.b (q + 1) = leftTo j.nodes o.b q := by rw [leftTo, if_neg (by simp [hh]), Int.add_zero]
        simp only [go_sem, ↓reduceIte, zA, zB, zC, zD, zE, zF, reduceCtorEq, zG, zH, zI, zJ, zK, zL, zM, zN, zO, zP]
        refine W_lpI (q + 1) ?_ ?_ (by omega) (by omega)
        · simp only [go_sem, ↓reduceIte, zA, zB, zC, zD, zE, zF, reduceCtorEq, zG, zH, zI, zJ, zK, zL, zM, zN, zO, zP]
        · simp only [shrink9S, go_sem, ↓reduceIte, zA, zB, zC, zD, zE, zF, reduceCtorEq, zG, zH, zI, zJ, zK, zL, zM, zN, zO, zP, wrap_succ (show q < 9223372036854775807 by omega), e]
      | true =>
        simp only [go_sem, ↓reduceIte, zA, zB, zC, zD, zE, zF, reduceCtorEq, zG, zH, zI, zJ, zK, zL, zM, zN, zO, zP]
        refine WC_split (fun hqb => ?_) (fun hqb => ?_) <;> simp only [hqb, go_sem, ↓reduceIte, zA, zB, zC, zD, zE, zF, reduceCtorEq, zG, zH, zI, zJ, zK, zL, zM, zN, zO, zP] <;> (try simp only [beq_iff_eq, beq_eq_false_iff_ne, bne_iff_ne, ne_eq, decide_eq_true_eq, decide_eq_false_iff_not, Bool.not_true, Bool.not_false, Bool.not_eq_true, Bool.not_eq_false, bne_eq_false_iff_eq, Decidable.not_not] at hqb)
        · have e : IntKind.i64.wrap (leftTo j.nodes o.b q + shlI .i64 1 q) = leftTo j.nodes o.b (q + 1) := by
            rw [shl_one q (by omega), leftTo, if_pos ⟨hh, hqb⟩, wrap_in (by omega) (by omega)]
          simp only [hwu, e, go_sem, ↓reduceIte, zA, zB, zC, zD, zE, zF, reduceCtorEq, zG, zH, zI, zJ, zK, zL, zM, zN, zO, zP]
          refine W_lpI (q + 1) ?_ ?_ (by omega) (by omega)
          · simp only [go_sem, ↓reduceIte, zA, zB, zC, zD, zE, zF, reduceCtorEq, zG, zH, zI, zJ, zK, zL, zM, zN, zO, zP]
          · simp only [shrink9S, go_sem, ↓reduceIte, zA, zB, zC, zD, zE, zF, reduceCtorEq, zG, zH, zI, zJ, zK, zL, zM, zN, zO, zP, wrap_succ (show q < 9223372036854775807 by omega)]
        · have e : leftTo j.nodes o.b (q + 1) = leftTo j.nodes o.b q := by rw [leftTo, if_neg (fun h => h.2 hqb), Int.add_zero]
          refine W_lpI (q + 1) ?_ ?_ (by omega) (by omega)
          · simp only [go_sem, ↓reduceIte, zA, zB, zC, zD, zE, zF, reduceCtorEq, zG, zH, zI, zJ, zK, zL, zM, zN, zO, zP]
          · simp only [shrink9S, go_sem, ↓reduceIte, zA, zB, zC, zD, zE, zF, reduceCtorEq, zG, zH, zI, zJ, zK, zL, zM, zN, zO, zP, wrap_succ (show q < 9223372036854775807 by omega), e]
    · obtain rfl : q = 6 := by omega
      generalize leftTo j.nodes o.b 6 = lf at *
      rw [hb, hN]
      generalize s.nodes.getD b zeroNode = n at *
      simp only [hk, hw, hb, q3, hkq, hkl, hg, hgn, hbn, List.getElem?_set_self, List.length_map, List.length_set, List.set_set, go_sem, ↓reduceIte, zA, zB, zC, zD, zE, zF, reduceCtorEq, zG, zH, zI, zJ, zK, zL, zM, zN, zO, zP]
      exact BackZ [4, 5] rfl (by simp [St.obj, objL]) (by simp [St.obj, objL, oneOr, St.get, getE, argR, argRs, rowsAt, LV.int, List.take_of_length_le, nodeR, jobR, setJ, setN, hkq, List.map_set])
  · rw [do_21 hk]
    have hw : IntKind.i64.wrap (s.term + 1) = s.term + 1 := wrap_in (by have := hp.term; omega) (by have := hp.term; omega)
    simp only [hk, hw, go_sem, ↓reduceIte, zA, zB, zC, zD, zE, zF, reduceCtorEq, zG, zH, zI, zJ, zK, zL, zM, zN, zO, zP]
    exact BackZ [4, 5] rfl (by simp [St.obj, objL]) (by simp [St.obj, objL, oneOr, St.get, getE, argR, argRs, rowsAt, LV.int, List.take_of_length_le, nodeR, jobR])
end Dv
