/- The document's Why: an op's error. -/
import Derived.Test.YtjmceebhnjiikaaDoorD16
set_option linter.unusedVariables false
set_option linter.unusedSimpArgs false
namespace Dv
open Go Go.Proofs
open Nat renaming reduceEqDiff → zA, reduceAdd → zB, reduceSub → zC, reduceMul → zD, reduceLT → zE, reduceLeDiff → zF
open Int renaming reduceLE → zG, reduceLT → zH, reduceToNat → zI, reduceBEq → zJ, reduceBNe → zK, reduceEq → zL, reduceAdd → zM, reduceSub → zN, reduceMul → zO, reduceNeg → zP
attribute [local go_sem] argEnv W_nil W_seq W_skip W_ret W_exit W_scope W_block W_blk W_reg W_regD W_cond WC_t WC_f WC_any Wx_c Wx_ops Wx_lp Wx_blk W_ops_nil W_opsD_q W_guard W_guardD WG_tt WG_ff WG_tf WG_ft WG_u WGD_tt WGD_ff WGD_tf WGD_ft WGD_u WE_some WED_some W_mv W_pick W_new W_box W_build W_bsl W_ld1 W_ldn W_st W_nck W_bin W_eqb W_not W_cvt W_fad W_fld1 W_fldn W_ixa W_ixr W_ix1 W_ixs W_len W_lens W_mkf W_ext W_app W_min W_isnp W_isns W_eqs W_neg W_ixn W_sli W_sls WD_mv WD_pick WD_new WD_box WD_build WD_bsl WD_ld1 WD_ldn WD_st WD_nck WD_bin WD_eqb WD_not WD_cvt WD_fad WD_fld1 WD_fldn WD_ixa WD_ixr WD_ix1 WD_ixs WD_len WD_lens WD_mkf WD_ext WD_app WD_min WD_isnp WD_isns WD_eqs WD_neg WD_ixn WD_sli WD_sls effF Opd.ev getE putE binV LV.int LV.bool LV.undef Go.undef LV.cells LV.toD LV.toDs splice fillL rowsOf srcRows updL objL Eff.owned nwp St.get St.obj St.put Value.oneCell' Ends adopt Ad.ap isNil St.keep St.okKeep okObj idl idlL idlO RVs.of RV.of oneOr Ends0 EndsO_iff frzs rn rnL rnO piOf eqCells eqV boundV Option.map_some Option.map_none List.append_nil List.nil_append List.cons_append List.map_nil List.map_cons List.length_nil List.length_cons List.set_cons_zero List.set_cons_succ List.take_succ_cons List.take_zero List.take_nil List.drop_succ_cons List.drop_zero List.drop_nil List.getElem?_cons_zero List.getElem?_cons_succ List.getElem?_nil List.isEmpty_nil List.isEmpty_cons List.all_cons List.all_nil List.isEmpty_nil cond_true cond_false Bool.true_and Bool.false_and Bool.and_true Bool.and_false Bool.not_true Bool.not_false Bool.or_true Bool.true_or Bool.or_false Bool.false_or true_and and_true true_or or_true Option.some.injEq LV.d.injEq DV.val.injEq Value.bool.injEq Value.int.injEq decide_true decide_false and_self Nat.zero_add Nat.add_zero if_true if_false Int.toNat_zero beq_self_eq_true Nat.zero_lt_succ Int.toNat_natCast Int.natCast_nonneg List.length_map i64 bl List.zip_cons_cons List.zip_nil_left List.zip_nil_right nwp confV stateV nodeV jobV nodesV jobsV opV msgV nodeR jobR opR msgR zeroOp zeroMsg
variable {G : Nat → Option (List DV)}

/-- dunnageref09.Why -/
def ir50 : Nat × C × List RV := (309,
(.seq (.reg [⟨(some 3), .box 23 (.t 0), none, []⟩,
 ⟨(some 4), .box 27 (.t 1), none, []⟩,
 ⟨(some 5), .box 35 (.t 2), none, []⟩,
 ⟨(some 6), .mv (.c (.val (.int .i64 0))), none, []⟩])
 (.seq (.seq (.reg [⟨(some 13), .ldn 7 (.t 5), none, []⟩,
 ⟨(some 14), .call (.f 92) [(.t 13)], none, []⟩,
 ⟨(some 15), .not (.t 14), none, []⟩])
 (.cond (.t 15) (.seq (.reg [⟨(some 6), .mv (.c (.val (.int .i64 1))), none, []⟩])
 .ret)
 .skip))
 (.seq (.reg [⟨(some 7), .new 52 [(.val (.int .i64 0)), (.val (.int .i64 0)), (.val (.int .i64 0)), (.val (.int .i64 0)), (.val (.int .i64 0)), (.val (.int .i64 0)), (.val (.int .i64 0)), (.val (.int .i64 0)), (.val (.int .i64 0)), (.val (.int .i64 0)), (.val (.int .i64 0)), (.val (.int .i64 0))], none, []⟩])
 (.seq (.reg [⟨(some 8), .new 48 [(.val (.bool false)), (.val (.bool false)), (.val (.bool false)), (.val (.int .i64 0)), (.val (.int .i64 0))], none, []⟩])
 (.seq (.seq (.reg [⟨(some 16), .fad 0 (.t 5), none, []⟩,
 ⟨(some 17), .ld1 (.t 16), none, []⟩])
 (.block 0 (.seq (.reg [⟨(some 19), .bin .eql (.t 17) (.c (.val (.int .i64 1))), none, []⟩,
 ⟨(some 18), .mv (.t 19), none, []⟩])
 (.cond (.t 18) (.seq (.seq (.reg [⟨(some 20), .ldn 9 (.t 3), none, []⟩,
 ⟨(some 21), .fad 1 (.t 5), none, []⟩,
 ⟨(some 22), .ld1 (.t 21), none, []⟩,
 ⟨(some 23), .fad 2 (.t 5), none, []⟩,
 ⟨(some 24), .ld1 (.t 23), none, []⟩,
 ⟨(some 25), .fad 3 (.t 5), none, []⟩,
 ⟨(some 26), .ld1 (.t 25), none, []⟩,
 ⟨(some 27), .fad 4 (.t 5), none, []⟩,
 ⟨(some 28), .ld1 (.t 27), none, []⟩,
 ⟨(some 29), .fad 5 (.t 5), none, []⟩,
 ⟨(some 30), .ld1 (.t 29), none, []⟩,
 ⟨(some 31), .fad 6 (.t 5), none, []⟩,
 ⟨(some 32), .ld1 (.t 31), none, []⟩,
 ⟨(some 33), .build [(.val (.int .i64 0)), (.val (.int .i64 0)), (.val (.int .i64 0)), (.val (.int .i64 0)), (.val (.int .i64 0)), (.val (.int .i64 0)), (.val (.int .i64 0)), (.val (.int .i64 0)), (.val (.int .i64 0)), (.val (.int .i64 0)), (.val (.int .i64 0)), (.val (.int .i64 0))] [(0, 1, (.t 22)), (1, 1, (.t 24)), (2, 1, (.t 26)), (3, 1, (.t 28)), (4, 1, (.t 30)), (5, 1, (.t 32))], none, []⟩,
 ⟨(some 34), .call (.f 44) [(.t 20), (.t 33)], none, []⟩,
 ⟨(some 35), .not (.t 34), none, []⟩])
 (.cond (.t 35) (.seq (.reg [⟨(some 6), .mv (.c (.val (.int .i64 1))), none, []⟩])
 .ret)
 .skip))
 (.seq (.seq (.reg [⟨(some 36), .fad 1 (.t 4), none, []⟩,
 ⟨(some 37), .ld1 (.t 36), none, []⟩,
 ⟨(some 38), .len (.t 37), none, []⟩,
 ⟨(some 39), .bin .eql (.t 38) (.c (.val (.int .i64 24))), none, []⟩])
 (.cond (.t 39) (.seq (.reg [⟨(some 6), .mv (.c (.val (.int .i64 3))), none, []⟩])
 .ret)
 .skip))
 (.seq (.reg [⟨(some 6), .mv (.c (.val (.int .i64 0))), none, []⟩])
 .ret)))
 (.seq (.seq (.reg [⟨(some 41), .bin .eql (.t 17) (.c (.val (.int .i64 2))), none, []⟩,
 ⟨(some 40), .mv (.t 41), none, []⟩])
 (.cond (.t 40) .skip
 (.seq (.reg [⟨(some 42), .bin .eql (.t 17) (.c (.val (.int .i64 9))), none, []⟩,
 ⟨(some 40), .mv (.t 42), none, []⟩])
 (.cond (.t 40) .skip
 (.seq (.reg [⟨(some 43), .bin .eql (.t 17) (.c (.val (.int .i64 10))), none, []⟩,
 ⟨(some 40), .mv (.t 43), none, []⟩])
 (.cond (.t 40) .skip
 (.seq (.reg [⟨(some 44), .bin .eql (.t 17) (.c (.val (.int .i64 11))), none, []⟩,
 ⟨(some 40), .mv (.t 44), none, []⟩])
 (.cond (.t 40) .skip
 (.seq (.reg [⟨(some 45), .bin .eql (.t 17) (.c (.val (.int .i64 12))), none, []⟩,
 ⟨(some 40), .mv (.t 45), none, []⟩])
 (.cond (.t 40) .skip
 (.seq (.reg [⟨(some 46), .bin .eql (.t 17) (.c (.val (.int .i64 13))), none, []⟩,
 ⟨(some 40), .mv (.t 46), none, []⟩])
 (.cond (.t 40) .skip
 (.seq (.reg [⟨(some 47), .bin .eql (.t 17) (.c (.val (.int .i64 14))), none, []⟩,
 ⟨(some 40), .mv (.t 47), none, []⟩])
 (.cond (.t 40) .skip
 (.seq (.reg [⟨(some 48), .bin .eql (.t 17) (.c (.val (.int .i64 15))), none, []⟩,
 ⟨(some 40), .mv (.t 48), none, []⟩])
 (.cond (.t 40) .skip
 (.reg [⟨(some 49), .bin .eql (.t 17) (.c (.val (.int .i64 20))), none, []⟩,
 ⟨(some 40), .mv (.t 49), none, []⟩])))))))))))))))))
 (.cond (.t 40) (.seq (.seq (.reg [⟨(some 50), .fad 1 (.t 5), none, []⟩,
 ⟨(some 51), .ld1 (.t 50), none, []⟩,
 ⟨(some 52), .bin .lss (.t 51) (.c (.val (.int .i64 1))), none, []⟩,
 ⟨(some 53), .mv (.t 52), none, []⟩,
 ⟨(some 54), .fad 1 (.t 5), (some (53, false)), []⟩,
 ⟨(some 55), .ld1 (.t 54), (some (53, false)), []⟩,
 ⟨(some 56), .fad 1 (.t 4), (some (53, false)), []⟩,
 ⟨(some 57), .ld1 (.t 56), (some (53, false)), []⟩,
 ⟨(some 58), .len (.t 57), (some (53, false)), []⟩,
 ⟨(some 59), .bin .gtr (.t 55) (.t 58), (some (53, false)), []⟩,
 ⟨(some 60), .pick (.t 53) (.c (.val (.bool true))) (.t 59), none, []⟩])
 (.cond (.t 60) (.seq (.reg [⟨(some 6), .mv (.c (.val (.int .i64 4))), none, []⟩])
 .ret)
 .skip))
 (.reg [⟨(some 61), .fad 1 (.t 4), none, []⟩,
 ⟨(some 62), .ld1 (.t 61), none, []⟩,
 ⟨(some 63), .fad 1 (.t 5), none, []⟩,
 ⟨(some 64), .ld1 (.t 63), none, []⟩,
 ⟨(some 65), .bin .sub (.t 64) (.c (.val (.int .i64 1))), none, []⟩,
 ⟨(some 66), .ixa 12 (.t 62) (.t 65), none, []⟩,
 ⟨(some 67), .ldn 12 (.t 66), none, []⟩,
 ⟨none, .st 12 (.t 7) (.t 67), none, []⟩]))
 (.seq (.seq (.reg [⟨(some 69), .bin .eql (.t 17) (.c (.val (.int .i64 7))), none, []⟩,
 ⟨(some 68), .mv (.t 69), none, []⟩])
 (.cond (.t 68) .skip
 (.seq (.reg [⟨(some 70), .bin .eql (.t 17) (.c (.val (.int .i64 8))), none, []⟩,
 ⟨(some 68), .mv (.t 70), none, []⟩])
 (.cond (.t 68) .skip
 (.seq (.reg [⟨(some 71), .bin .eql (.t 17) (.c (.val (.int .i64 16))), none, []⟩,
 ⟨(some 68), .mv (.t 71), none, []⟩])
 (.cond (.t 68) .skip
 (.seq (.reg [⟨(some 72), .bin .eql (.t 17) (.c (.val (.int .i64 17))), none, []⟩,
 ⟨(some 68), .mv (.t 72), none, []⟩])
 (.cond (.t 68) .skip
 (.seq (.reg [⟨(some 73), .bin .eql (.t 17) (.c (.val (.int .i64 18))), none, []⟩,
 ⟨(some 68), .mv (.t 73), none, []⟩])
 (.cond (.t 68) .skip
 (.reg [⟨(some 74), .bin .eql (.t 17) (.c (.val (.int .i64 19))), none, []⟩,
 ⟨(some 68), .mv (.t 74), none, []⟩])))))))))))
 (.cond (.t 68) (.seq (.seq (.reg [⟨(some 75), .fad 1 (.t 5), none, []⟩,
 ⟨(some 76), .ld1 (.t 75), none, []⟩,
 ⟨(some 77), .fad 0 (.t 4), none, []⟩,
 ⟨(some 78), .ld1 (.t 77), none, []⟩,
 ⟨(some 79), .len (.t 78), none, []⟩,
 ⟨(some 80), .bin .geq (.t 76) (.t 79), none, []⟩])
 (.cond (.t 80) (.seq (.reg [⟨(some 6), .mv (.c (.val (.int .i64 4))), none, []⟩])
 .ret)
 .skip))
 (.reg [⟨(some 81), .fad 0 (.t 4), none, []⟩,
 ⟨(some 82), .ld1 (.t 81), none, []⟩,
 ⟨(some 83), .fad 1 (.t 5), none, []⟩,
 ⟨(some 84), .ld1 (.t 83), none, []⟩,
 ⟨(some 85), .ixa 5 (.t 82) (.t 84), none, []⟩,
 ⟨(some 86), .ldn 5 (.t 85), none, []⟩,
 ⟨none, .st 5 (.t 8) (.t 86), none, []⟩]))
 (.seq (.reg [⟨(some 88), .bin .eql (.t 17) (.c (.val (.int .i64 21))), none, []⟩,
 ⟨(some 87), .mv (.t 88), none, []⟩])
 (.cond (.t 87) (.seq (.seq (.reg [⟨(some 89), .fad 5 (.t 4), none, []⟩,
 ⟨(some 90), .ld1 (.t 89), none, []⟩,
 ⟨(some 91), .bin .eql (.t 90) (.c (.val (.int .i64 1000000))), none, []⟩])
 (.cond (.t 91) (.seq (.reg [⟨(some 6), .mv (.c (.val (.int .i64 3))), none, []⟩])
 .ret)
 .skip))
 (.seq (.reg [⟨(some 6), .mv (.c (.val (.int .i64 0))), none, []⟩])
 .ret))
 .skip))))))))))
 (.seq (.reg [⟨(some 92), .fad 2 (.t 5), none, []⟩,
 ⟨(some 93), .ld1 (.t 92), none, []⟩,
 ⟨(some 94), .bin .geq (.t 93) (.c (.val (.int .i64 1))), none, []⟩,
 ⟨(some 95), .mv (.t 94), none, []⟩,
 ⟨(some 96), .fad 2 (.t 5), (some (95, true)), []⟩,
 ⟨(some 97), .ld1 (.t 96), (some (95, true)), []⟩,
 ⟨(some 98), .bin .leq (.t 97) (.c (.val (.int .i64 9))), (some (95, true)), []⟩,
 ⟨(some 99), .pick (.t 95) (.t 98) (.c (.val (.bool false))), none, []⟩,
 ⟨(some 9), .mv (.t 99), none, []⟩])
 (.seq (.reg [⟨(some 10), .mv (.c (.val (.bool false))), none, []⟩])
 (.seq (.seq (.reg [⟨(some 100), .fad 0 (.t 5), none, []⟩,
 ⟨(some 101), .ld1 (.t 100), none, []⟩])
 (.block 1 (.seq (.reg [⟨(some 103), .bin .eql (.t 101) (.c (.val (.int .i64 3))), none, []⟩,
 ⟨(some 102), .mv (.t 103), none, []⟩])
 (.cond (.t 102) (.seq (.seq (.reg [⟨(some 104), .fad 1 (.t 5), none, []⟩,
 ⟨(some 105), .ld1 (.t 104), none, []⟩,
 ⟨(some 106), .bin .lss (.t 105) (.c (.val (.int .i64 1))), none, []⟩,
 ⟨(some 107), .mv (.t 106), none, []⟩,
 ⟨(some 108), .fad 1 (.t 5), (some (107, false)), []⟩,
 ⟨(some 109), .ld1 (.t 108), (some (107, false)), []⟩,
 ⟨(some 110), .bin .gtr (.t 109) (.c (.val (.int .i64 9))), (some (107, false)), []⟩,
 ⟨(some 111), .pick (.t 107) (.c (.val (.bool true))) (.t 110), none, []⟩])
 (.cond (.t 111) (.seq (.reg [⟨(some 6), .mv (.c (.val (.int .i64 1))), none, []⟩])
 .ret)
 .skip))
 (.seq (.reg [⟨(some 6), .mv (.c (.val (.int .i64 0))), none, []⟩])
 .ret))
 (.seq (.seq (.reg [⟨(some 113), .bin .eql (.t 101) (.c (.val (.int .i64 8))), none, []⟩,
 ⟨(some 112), .mv (.t 113), none, []⟩])
 (.cond (.t 112) .skip
 (.reg [⟨(some 114), .bin .eql (.t 101) (.c (.val (.int .i64 19))), none, []⟩,
 ⟨(some 112), .mv (.t 114), none, []⟩])))
 (.cond (.t 112) (.seq (.reg [⟨(some 115), .mv (.t 9), none, []⟩,
 ⟨(some 116), .not (.t 115), none, []⟩])
 (.cond (.t 116) (.seq (.reg [⟨(some 6), .mv (.c (.val (.int .i64 1))), none, []⟩])
 .ret)
 .skip))
 (.seq (.reg [⟨(some 118), .bin .eql (.t 101) (.c (.val (.int .i64 20))), none, []⟩,
 ⟨(some 117), .mv (.t 118), none, []⟩])
 (.cond (.t 117) (.seq (.reg [⟨(some 119), .fad 2 (.t 5), none, []⟩,
 ⟨(some 120), .ld1 (.t 119), none, []⟩,
 ⟨(some 121), .fad 0 (.t 4), none, []⟩,
 ⟨(some 122), .ld1 (.t 121), none, []⟩,
 ⟨(some 123), .len (.t 122), none, []⟩,
 ⟨(some 124), .bin .geq (.t 120) (.t 123), none, []⟩])
 (.cond (.t 124) (.seq (.reg [⟨(some 6), .mv (.c (.val (.int .i64 4))), none, []⟩])
 .ret)
 .skip))
 .skip))))))))
 (.seq (.seq (.reg [⟨(some 125), .fad 0 (.t 5), none, []⟩,
 ⟨(some 126), .ld1 (.t 125), none, []⟩])
 (.block 2 (.seq (.reg [⟨(some 128), .bin .eql (.t 126) (.c (.val (.int .i64 2))), none, []⟩,
 ⟨(some 127), .mv (.t 128), none, []⟩])
 (.cond (.t 127) (.reg [⟨(some 129), .fad 6 (.t 7), none, []⟩,
 ⟨(some 130), .ld1 (.t 129), none, []⟩,
 ⟨(some 131), .bin .neq (.t 130) (.c (.val (.int .i64 4))), none, []⟩,
 ⟨(some 10), .mv (.t 131), none, []⟩])
 (.seq (.reg [⟨(some 133), .bin .eql (.t 126) (.c (.val (.int .i64 4))), none, []⟩,
 ⟨(some 132), .mv (.t 133), none, []⟩])
 (.cond (.t 132) (.reg [⟨(some 134), .fad 4 (.t 4), none, []⟩,
 ⟨(some 135), .ld1 (.t 134), none, []⟩,
 ⟨(some 136), .bin .eql (.t 135) (.c (.val (.int .i64 0))), none, []⟩,
 ⟨(some 10), .mv (.t 136), none, []⟩])
 (.seq (.reg [⟨(some 138), .bin .eql (.t 126) (.c (.val (.int .i64 5))), none, []⟩,
 ⟨(some 137), .mv (.t 138), none, []⟩])
 (.cond (.t 137) (.reg [⟨(some 139), .fad 4 (.t 4), none, []⟩,
 ⟨(some 140), .ld1 (.t 139), none, []⟩,
 ⟨(some 141), .bin .eql (.t 140) (.c (.val (.int .i64 1))), none, []⟩,
 ⟨(some 10), .mv (.t 141), none, []⟩])
 (.seq (.reg [⟨(some 143), .bin .eql (.t 126) (.c (.val (.int .i64 6))), none, []⟩,
 ⟨(some 142), .mv (.t 143), none, []⟩])
 (.cond (.t 142) (.reg [⟨(some 144), .fad 4 (.t 4), none, []⟩,
 ⟨(some 145), .ld1 (.t 144), none, []⟩,
 ⟨(some 146), .bin .neq (.t 145) (.c (.val (.int .i64 2))), none, []⟩,
 ⟨(some 10), .mv (.t 146), none, []⟩])
 (.seq (.reg [⟨(some 148), .bin .eql (.t 126) (.c (.val (.int .i64 7))), none, []⟩,
 ⟨(some 147), .mv (.t 148), none, []⟩])
 (.cond (.t 147) (.reg [⟨(some 149), .fad 0 (.t 8), none, []⟩,
 ⟨(some 150), .ld1 (.t 149), none, []⟩,
 ⟨(some 10), .mv (.t 150), none, []⟩])
 (.seq (.reg [⟨(some 152), .bin .eql (.t 126) (.c (.val (.int .i64 8))), none, []⟩,
 ⟨(some 151), .mv (.t 152), none, []⟩])
 (.cond (.t 151) (.reg [⟨(some 153), .fad 0 (.t 8), none, []⟩,
 ⟨(some 154), .ld1 (.t 153), none, []⟩,
 ⟨(some 155), .not (.t 154), none, []⟩,
 ⟨(some 10), .mv (.t 155), none, []⟩])
 (.seq (.reg [⟨(some 157), .bin .eql (.t 126) (.c (.val (.int .i64 9))), none, []⟩,
 ⟨(some 156), .mv (.t 157), none, []⟩])
 (.cond (.t 156) (.reg [⟨(some 158), .fad 6 (.t 7), none, []⟩,
 ⟨(some 159), .ld1 (.t 158), none, []⟩,
 ⟨(some 160), .bin .eql (.t 159) (.c (.val (.int .i64 0))), none, []⟩,
 ⟨(some 10), .mv (.t 160), none, []⟩])
 (.seq (.seq (.reg [⟨(some 162), .bin .eql (.t 126) (.c (.val (.int .i64 10))), none, []⟩,
 ⟨(some 161), .mv (.t 162), none, []⟩])
 (.cond (.t 161) .skip
 (.reg [⟨(some 163), .bin .eql (.t 126) (.c (.val (.int .i64 11))), none, []⟩,
 ⟨(some 161), .mv (.t 163), none, []⟩])))
 (.cond (.t 161) (.reg [⟨(some 164), .fad 6 (.t 7), none, []⟩,
 ⟨(some 165), .ld1 (.t 164), none, []⟩,
 ⟨(some 166), .bin .eql (.t 165) (.c (.val (.int .i64 1))), none, []⟩,
 ⟨(some 10), .mv (.t 166), none, []⟩])
 (.seq (.seq (.reg [⟨(some 168), .bin .eql (.t 126) (.c (.val (.int .i64 12))), none, []⟩,
 ⟨(some 167), .mv (.t 168), none, []⟩])
 (.cond (.t 167) .skip
 (.reg [⟨(some 169), .bin .eql (.t 126) (.c (.val (.int .i64 20))), none, []⟩,
 ⟨(some 167), .mv (.t 169), none, []⟩])))
 (.cond (.t 167) (.reg [⟨(some 170), .fad 6 (.t 7), none, []⟩,
 ⟨(some 171), .ld1 (.t 170), none, []⟩,
 ⟨(some 172), .bin .eql (.t 171) (.c (.val (.int .i64 2))), none, []⟩,
 ⟨(some 10), .mv (.t 172), none, []⟩])
 (.seq (.seq (.reg [⟨(some 174), .bin .eql (.t 126) (.c (.val (.int .i64 13))), none, []⟩,
 ⟨(some 173), .mv (.t 174), none, []⟩])
 (.cond (.t 173) .skip
 (.reg [⟨(some 175), .bin .eql (.t 126) (.c (.val (.int .i64 15))), none, []⟩,
 ⟨(some 173), .mv (.t 175), none, []⟩])))
 (.cond (.t 173) (.reg [⟨(some 176), .fad 6 (.t 7), none, []⟩,
 ⟨(some 177), .ld1 (.t 176), none, []⟩,
 ⟨(some 178), .bin .eql (.t 177) (.c (.val (.int .i64 2))), none, []⟩,
 ⟨(some 179), .mv (.t 178), none, []⟩,
 ⟨(some 180), .fad 6 (.t 7), (some (179, false)), []⟩,
 ⟨(some 181), .ld1 (.t 180), (some (179, false)), []⟩,
 ⟨(some 182), .bin .eql (.t 181) (.c (.val (.int .i64 3))), (some (179, false)), []⟩,
 ⟨(some 183), .pick (.t 179) (.c (.val (.bool true))) (.t 182), none, []⟩,
 ⟨(some 10), .mv (.t 183), none, []⟩])
 (.seq (.reg [⟨(some 185), .bin .eql (.t 126) (.c (.val (.int .i64 14))), none, []⟩,
 ⟨(some 184), .mv (.t 185), none, []⟩])
 (.cond (.t 184) (.reg [⟨(some 186), .fad 6 (.t 7), none, []⟩,
 ⟨(some 187), .ld1 (.t 186), none, []⟩,
 ⟨(some 188), .bin .eql (.t 187) (.c (.val (.int .i64 3))), none, []⟩,
 ⟨(some 10), .mv (.t 188), none, []⟩])
 (.seq (.reg [⟨(some 190), .bin .eql (.t 126) (.c (.val (.int .i64 16))), none, []⟩,
 ⟨(some 189), .mv (.t 190), none, []⟩])
 (.cond (.t 189) (.reg [⟨(some 191), .fad 0 (.t 8), none, []⟩,
 ⟨(some 192), .ld1 (.t 191), none, []⟩,
 ⟨(some 193), .mv (.t 192), none, []⟩,
 ⟨(some 194), .fad 1 (.t 8), (some (193, true)), []⟩,
 ⟨(some 195), .ld1 (.t 194), (some (193, true)), []⟩,
 ⟨(some 196), .not (.t 195), (some (193, true)), []⟩,
 ⟨(some 197), .pick (.t 193) (.t 196) (.c (.val (.bool false))), none, []⟩,
 ⟨(some 10), .mv (.t 197), none, []⟩])
 (.seq (.reg [⟨(some 199), .bin .eql (.t 126) (.c (.val (.int .i64 17))), none, []⟩,
 ⟨(some 198), .mv (.t 199), none, []⟩])
 (.cond (.t 198) (.reg [⟨(some 200), .fad 1 (.t 8), none, []⟩,
 ⟨(some 201), .ld1 (.t 200), none, []⟩,
 ⟨(some 202), .mv (.t 201), none, []⟩,
 ⟨(some 203), .fad 2 (.t 8), (some (202, true)), []⟩,
 ⟨(some 204), .ld1 (.t 203), (some (202, true)), []⟩,
 ⟨(some 205), .not (.t 204), (some (202, true)), []⟩,
 ⟨(some 206), .pick (.t 202) (.t 205) (.c (.val (.bool false))), none, []⟩,
 ⟨(some 10), .mv (.t 206), none, []⟩])
 (.seq (.reg [⟨(some 208), .bin .eql (.t 126) (.c (.val (.int .i64 18))), none, []⟩,
 ⟨(some 207), .mv (.t 208), none, []⟩])
 (.cond (.t 207) (.reg [⟨(some 209), .fad 0 (.t 8), none, []⟩,
 ⟨(some 210), .ld1 (.t 209), none, []⟩,
 ⟨(some 211), .mv (.t 210), none, []⟩,
 ⟨(some 212), .fad 1 (.t 8), (some (211, true)), []⟩,
 ⟨(some 213), .ld1 (.t 212), (some (211, true)), []⟩,
 ⟨(some 214), .pick (.t 211) (.t 213) (.c (.val (.bool false))), none, []⟩,
 ⟨(some 215), .mv (.t 214), none, []⟩,
 ⟨(some 216), .fad 2 (.t 8), (some (215, true)), []⟩,
 ⟨(some 217), .ld1 (.t 216), (some (215, true)), []⟩,
 ⟨(some 218), .not (.t 217), (some (215, true)), []⟩,
 ⟨(some 219), .pick (.t 215) (.t 218) (.c (.val (.bool false))), none, []⟩,
 ⟨(some 220), .mv (.t 219), none, []⟩,
 ⟨(some 221), .fad 4 (.t 8), (some (220, true)), []⟩,
 ⟨(some 222), .ld1 (.t 221), (some (220, true)), []⟩,
 ⟨(some 223), .bin .eql (.t 222) (.c (.val (.int .i64 0))), (some (220, true)), []⟩,
 ⟨(some 224), .pick (.t 220) (.t 223) (.c (.val (.bool false))), none, []⟩,
 ⟨(some 10), .mv (.t 224), none, []⟩])
 (.seq (.reg [⟨(some 226), .bin .eql (.t 126) (.c (.val (.int .i64 19))), none, []⟩,
 ⟨(some 225), .mv (.t 226), none, []⟩])
 (.cond (.t 225) (.reg [⟨(some 227), .fad 2 (.t 8), none, []⟩,
 ⟨(some 228), .ld1 (.t 227), none, []⟩,
 ⟨(some 10), .mv (.t 228), none, []⟩])
 .skip))))))))))))))))))))))))))))))))
 (.seq (.seq (.reg [⟨(some 229), .mv (.t 10), none, []⟩,
 ⟨(some 230), .not (.t 229), none, []⟩])
 (.cond (.t 230) (.seq (.reg [⟨(some 6), .mv (.c (.val (.int .i64 5))), none, []⟩])
 .ret)
 .skip))
 (.seq (.seq (.reg [⟨(some 231), .fad 0 (.t 5), none, []⟩,
 ⟨(some 232), .ld1 (.t 231), none, []⟩])
 (.block 3 (.seq (.reg [⟨(some 234), .bin .eql (.t 232) (.c (.val (.int .i64 9))), none, []⟩,
 ⟨(some 233), .mv (.t 234), none, []⟩])
 (.cond (.t 233) (.seq (.reg [⟨(some 235), .ldn 6 (.t 4), none, []⟩,
 ⟨(some 236), .ldn 12 (.t 7), none, []⟩,
 ⟨(some 237), .fad 2 (.t 5), none, []⟩,
 ⟨(some 238), .ld1 (.t 237), none, []⟩,
 ⟨(some 239), .call (.f 45) [(.t 235), (.t 236), (.t 238)], none, []⟩,
 ⟨(some 240), .mv (.t 239), none, []⟩,
 ⟨(some 241), .fad 7 (.t 7), (some (240, true)), []⟩,
 ⟨(some 242), .ld1 (.t 241), (some (240, true)), []⟩,
 ⟨(some 243), .bin .lss (.t 242) (.c (.val (.int .i64 1000000))), (some (240, true)), []⟩,
 ⟨(some 244), .pick (.t 240) (.t 243) (.c (.val (.bool false))), none, []⟩,
 ⟨(some 11), .mv (.t 244), none, []⟩])
 (.seq (.seq (.reg [⟨(some 12), .mv (.c (.val (.int .i64 0))), none, []⟩])
 (.block 4 (.loop (.seq (.seq (.reg [⟨(some 245), .mv (.t 12), none, []⟩,
 ⟨(some 246), .fad 0 (.t 4), none, []⟩,
 ⟨(some 247), .ld1 (.t 246), none, []⟩,
 ⟨(some 248), .len (.t 247), none, []⟩,
 ⟨(some 249), .bin .lss (.t 245) (.t 248), none, []⟩])
 (.cond (.t 249) .skip
 (.exit 4)))
 (.seq (.block 5 (.reg [⟨(some 252), .mv (.t 11), none, []⟩,
 ⟨(some 253), .mv (.t 252), none, []⟩,
 ⟨(some 254), .fad 2 (.t 5), (some (253, true)), []⟩,
 ⟨(some 255), .ld1 (.t 254), (some (253, true)), []⟩,
 ⟨(some 256), .mv (.t 12), (some (253, true)), []⟩,
 ⟨(some 257), .call (.f 46) [(.t 255), (.t 256)], (some (253, true)), []⟩,
 ⟨(some 258), .not (.t 257), (some (253, true)), []⟩,
 ⟨(some 259), .mv (.t 258), (some (253, true)), []⟩,
 ⟨(some 260), .fad 0 (.t 4), (some (259, false)), []⟩,
 ⟨(some 261), .ld1 (.t 260), (some (259, false)), []⟩,
 ⟨(some 262), .mv (.t 12), (some (259, false)), []⟩,
 ⟨(some 263), .ixa 5 (.t 261) (.t 262), (some (259, false)), []⟩,
 ⟨(some 264), .ldn 5 (.t 263), (some (259, false)), []⟩,
 ⟨(some 265), .call (.f 31) [(.t 264)], (some (259, false)), []⟩,
 ⟨(some 266), .pick (.t 259) (.c (.val (.bool true))) (.t 265), (some (253, true)), []⟩,
 ⟨(some 267), .pick (.t 253) (.t 266) (.c (.val (.bool false))), none, []⟩,
 ⟨(some 11), .mv (.t 267), none, []⟩]))
 (.reg [⟨(some 250), .mv (.t 12), none, []⟩,
 ⟨(some 251), .bin .add (.t 250) (.c (.val (.int .i64 1))), none, []⟩,
 ⟨(some 12), .mv (.t 251), none, []⟩]))))))
 (.seq (.reg [⟨(some 268), .mv (.t 11), none, []⟩,
 ⟨(some 269), .not (.t 268), none, []⟩])
 (.cond (.t 269) (.seq (.reg [⟨(some 6), .mv (.c (.val (.int .i64 8))), none, []⟩])
 .ret)
 .skip))))
 (.seq (.reg [⟨(some 271), .bin .eql (.t 232) (.c (.val (.int .i64 12))), none, []⟩,
 ⟨(some 270), .mv (.t 271), none, []⟩])
 (.cond (.t 270) (.seq (.regD [⟨(some 272), .ldn 6 (.t 4), none, []⟩,
 ⟨(some 273), .fad 0 (.t 7), none, []⟩,
 ⟨(some 274), .ld1 (.t 273), none, [1]⟩,
 ⟨(some 275), .call (.f 28) [(.t 272), (.t 274)], none, [0, 2, 1]⟩,
 ⟨(some 276), .fad 2 (.t 3), none, []⟩,
 ⟨(some 277), .ld1 (.t 276), none, [4]⟩,
 ⟨(some 278), .bin .geq (.t 275) (.t 277), none, [3, 0, 2, 1, 5, 4]⟩])
 (.cond (.t 278) (.seq (.reg [⟨(some 6), .mv (.c (.val (.int .i64 7))), none, []⟩])
 .ret)
 .skip))
 (.seq (.reg [⟨(some 280), .bin .eql (.t 232) (.c (.val (.int .i64 13))), none, []⟩,
 ⟨(some 279), .mv (.t 280), none, []⟩])
 (.cond (.t 279) (.seq (.reg [⟨(some 281), .fad 2 (.t 5), none, []⟩,
 ⟨(some 282), .ld1 (.t 281), none, []⟩,
 ⟨(some 283), .fad 7 (.t 7), none, []⟩,
 ⟨(some 284), .ld1 (.t 283), none, []⟩,
 ⟨(some 285), .bin .neq (.t 282) (.t 284), none, []⟩,
 ⟨(some 286), .mv (.t 285), none, []⟩,
 ⟨(some 287), .fad 2 (.t 5), (some (286, false)), []⟩,
 ⟨(some 288), .ld1 (.t 287), (some (286, false)), []⟩,
 ⟨(some 289), .fad 11 (.t 7), (some (286, false)), []⟩,
 ⟨(some 290), .ld1 (.t 289), (some (286, false)), []⟩,
 ⟨(some 291), .bin .leq (.t 288) (.t 290), (some (286, false)), []⟩,
 ⟨(some 292), .pick (.t 286) (.c (.val (.bool true))) (.t 291), none, []⟩])
 (.cond (.t 292) (.seq (.reg [⟨(some 6), .mv (.c (.val (.int .i64 6))), none, []⟩])
 .ret)
 .skip))
 (.seq (.reg [⟨(some 294), .bin .eql (.t 232) (.c (.val (.int .i64 20))), none, []⟩,
 ⟨(some 293), .mv (.t 294), none, []⟩])
 (.cond (.t 293) (.seq (.regD [⟨(some 295), .fad 8 (.t 7), none, []⟩,
 ⟨(some 296), .ld1 (.t 295), none, [0]⟩,
 ⟨(some 297), .fad 2 (.t 5), none, []⟩,
 ⟨(some 298), .ld1 (.t 297), none, [2]⟩,
 ⟨(some 299), .call (.f 46) [(.t 296), (.t 298)], none, [1, 0, 3, 2]⟩,
 ⟨(some 300), .not (.t 299), none, [4, 1, 0, 3, 2]⟩,
 ⟨(some 301), .mv (.t 300), none, [5, 4, 1, 0, 3, 2]⟩,
 ⟨(some 302), .fad 8 (.t 7), (some (301, false)), [6, 5, 4, 1, 0, 3, 2]⟩,
 ⟨(some 303), .ld1 (.t 302), (some (301, false)), [7, 6, 5, 4, 1, 0, 3, 2]⟩,
 ⟨(some 304), .call (.f 32) [(.t 303)], (some (301, false)), [8, 7, 6, 5, 4, 1, 0, 3, 2]⟩,
 ⟨(some 305), .fad 2 (.t 7), (some (301, false)), [6, 5, 4, 1, 0, 3, 2]⟩,
 ⟨(some 306), .ld1 (.t 305), (some (301, false)), [10, 6, 5, 4, 1, 0, 3, 2]⟩,
 ⟨(some 307), .bin .leq (.t 304) (.t 306), (some (301, false)), [9, 8, 7, 6, 5, 4, 1, 0, 3, 2, 11, 10]⟩,
 ⟨(some 308), .pick (.t 301) (.c (.val (.bool true))) (.t 307), none, [6, 5, 4, 1, 0, 3, 2, 12, 9, 8, 7, 11, 10]⟩])
 (.cond (.t 308) (.seq (.reg [⟨(some 6), .mv (.c (.val (.int .i64 8))), none, []⟩])
 .ret)
 .skip))
 .skip))))))))))
 (.seq (.reg [⟨(some 6), .mv (.c (.val (.int .i64 0))), none, []⟩])
 .ret)))))))))))),
[(.t 6)])
theorem irOk50 : convFn Tryd.prog Tryd.f50 = some ir50 := by kernel_rfl


section
variable {c : ConfD} {s : StateD} {o : OpD} (ho : opOkB o = true)
include ho
theorem why_1 (hk : o.kind = 1) : whyR c s o = (if askedB c (newJob o) = false then 1 else if s.jobs.length = 24 then 3 else 0) := by
  simp [whyR, ho, hk, jobK, nodeK, okR]
theorem why_2 (hk : o.kind = 2) : whyR c s o = (if o.a < 1 ∨ (s.jobs.length : Int) < o.a then 4 else if (jobA s o.a).phase = 4 then 5 else 0) := by
  simp [whyR, ho, hk, jobK, nodeK, okR]
theorem why_3 (hk : o.kind = 3) : whyR c s o = (if withinB o.a 1 9 = false then 1 else 0) := by
  simp [whyR, ho, hk, jobK, nodeK, okR]
theorem why_4 (hk : o.kind = 4) : whyR c s o = (if s.mode = 0 then 0 else 5) := by
  simp [whyR, ho, hk, jobK, nodeK, okR]
theorem why_5 (hk : o.kind = 5) : whyR c s o = (if s.mode = 1 then 0 else 5) := by
  simp [whyR, ho, hk, jobK, nodeK, okR]
theorem why_6 (hk : o.kind = 6) : whyR c s o = (if s.mode = 2 then 5 else 0) := by
  simp [whyR, ho, hk, jobK, nodeK, okR]
theorem why_7 (hk : o.kind = 7) : whyR c s o = (if (s.nodes.length : Int) ≤ o.a then 4 else if (nodeA s o.a).up = false then 5 else 0) := by
  simp [whyR, ho, hk, jobK, nodeK, okR]
theorem why_8 (hk : o.kind = 8) : whyR c s o = (if (s.nodes.length : Int) ≤ o.a then 4 else if withinB o.b 1 9 = false then 1 else if (nodeA s o.a).up = true then 5 else 0) := by
  simp [whyR, ho, hk, jobK, nodeK, okR]
theorem why_9 (hk : o.kind = 9) : whyR c s o = (if o.a < 1 ∨ (s.jobs.length : Int) < o.a then 4 else if (jobA s o.a).phase ≠ 0 then 5 else if ¬ (fitsRB s.nodes (jobA s o.a) o.b = true ∧ (jobA s o.a).inc < 1000000 ∧ freeAll o.b s.nodes 0 = true) then 8 else 0) := by
  simp [whyR, ho, hk, jobK, nodeK, okR]
theorem why_10 (hk : o.kind = 10) : whyR c s o = (if o.a < 1 ∨ (s.jobs.length : Int) < o.a then 4 else if (jobA s o.a).phase ≠ 1 then 5 else 0) := by
  simp [whyR, ho, hk, jobK, nodeK, okR]
theorem why_11 (hk : o.kind = 11) : whyR c s o = (if o.a < 1 ∨ (s.jobs.length : Int) < o.a then 4 else if (jobA s o.a).phase ≠ 1 then 5 else 0) := by
  simp [whyR, ho, hk, jobK, nodeK, okR]
theorem why_12 (hk : o.kind = 12) : whyR c s o = (if o.a < 1 ∨ (s.jobs.length : Int) < o.a then 4 else if (jobA s o.a).phase ≠ 2 then 5 else if c.quota ≤ drainsL s.jobs (jobA s o.a).queue then 7 else 0) := by
  simp [whyR, ho, hk, jobK, nodeK, okR]
theorem why_13 (hk : o.kind = 13) : whyR c s o = (if o.a < 1 ∨ (s.jobs.length : Int) < o.a then 4 else if runsB (jobA s o.a) = false then 5 else if o.b ≠ (jobA s o.a).inc ∨ o.b ≤ (jobA s o.a).epoch then 6 else 0) := by
  simp [whyR, ho, hk, jobK, nodeK, okR]
theorem why_14 (hk : o.kind = 14) : whyR c s o = (if o.a < 1 ∨ (s.jobs.length : Int) < o.a then 4 else if (jobA s o.a).phase ≠ 3 then 5 else 0) := by
  simp [whyR, ho, hk, jobK, nodeK, okR]
theorem why_15 (hk : o.kind = 15) : whyR c s o = (if o.a < 1 ∨ (s.jobs.length : Int) < o.a then 4 else if runsB (jobA s o.a) = false then 5 else 0) := by
  simp [whyR, ho, hk, jobK, nodeK, okR]
theorem why_16 (hk : o.kind = 16) : whyR c s o = (if (s.nodes.length : Int) ≤ o.a then 4 else if ((nodeA s o.a).up && !(nodeA s o.a).cordon) = false then 5 else 0) := by
  simp [whyR, ho, hk, jobK, nodeK, okR]
theorem why_17 (hk : o.kind = 17) : whyR c s o = (if (s.nodes.length : Int) ≤ o.a then 4 else if ((nodeA s o.a).cordon && !(nodeA s o.a).moving) = false then 5 else 0) := by
  simp [whyR, ho, hk, jobK, nodeK, okR]
theorem why_18 (hk : o.kind = 18) : whyR c s o = (if (s.nodes.length : Int) ≤ o.a then 4 else if ((nodeA s o.a).up && (nodeA s o.a).cordon && !(nodeA s o.a).moving && decide ((nodeA s o.a).job = 0)) = false then 5 else 0) := by
  simp [whyR, ho, hk, jobK, nodeK, okR]
theorem why_19 (hk : o.kind = 19) : whyR c s o = (if (s.nodes.length : Int) ≤ o.a then 4 else if withinB o.b 1 9 = false then 1 else if (nodeA s o.a).moving = false then 5 else 0) := by
  simp [whyR, ho, hk, jobK, nodeK, okR]
theorem why_20 (hk : o.kind = 20) : whyR c s o = (if o.a < 1 ∨ (s.jobs.length : Int) < o.a then 4 else if (s.nodes.length : Int) ≤ o.b then 4 else if (jobA s o.a).phase ≠ 2 then 5 else if hasB (jobA s o.a).nodes o.b.toNat = false ∨ many (jobA s o.a).nodes ≤ (jobA s o.a).min then 8 else 0) := by
  simp [whyR, ho, hk, jobK, nodeK, okR]
theorem why_21 (hk : o.kind = 21) : whyR c s o = (if s.term = 1000000 then 3 else 0) := by
  simp [whyR, ho, hk, jobK, nodeK, okR]
end
def why9S (c : ConfD) (s : StateD) (o : OpD) (j : JobD) (kv : Nat × Bool) : St := ⟨[(4, .ptr 1 0), (5, .ptr 2 0), (11, .bool kv.2), (12, .int kv.1)], [some (.box 23 [.int c.nodes, .int c.queues, .int c.quota, .int c.wave, .int c.lease, .int c.retry, .int c.deadline, .int c.room, .int c.disk]), some (.box 27 [nodesV s.nodes, jobsV s.jobs, .int s.goal, .int s.prior, .int s.mode, .int s.term]), some (.box 35 [.int 9, .int o.a, .int o.b, .int o.c, .int o.d, .int o.e, .int o.f]), some (.box 52 [.int j.queue, .int j.prio, .int j.min, .int j.max, .int j.work, .int j.pin, .int j.phase, .int j.inc, .int j.nodes, .int j.since, .int j.til, .int j.epoch]), some (.box 48 [.bool false, .bool false, .bool false, .int 0, .int 0])]⟩
set_option maxHeartbeats 1600000 in
theorem why9_tri (c : ConfD) (s : StateD) (o : OpD) (hln : s.nodes.length ≤ 6) (hlj : s.jobs.length ≤ 24) : Tri Tryd.prog G 50 [confV c, stateV s, opV o] [] (.int (whyR c s o)) [] := by
  refine tri_W0 Tryd.func50 (by decide) irOk50 (Nat.le_of_ble_eq_true rfl) rfl ?_
  simp only [ir50, go_sem, ↓reduceIte, zA, zB, zC, zD, zE, zF, reduceCtorEq, zG, zH, zI, zJ, zK, zL, zM, zN, zO, zP]
  refine W_calld (ops8Right_tri o) rfl rfl rfl rfl ?_; simp only [go_sem, ↓reduceIte, zA, zB, zC, zD, zE, zF, reduceCtorEq, zG, zH, zI, zJ, zK, zL, zM, zN, zO, zP]
  cases ho : opOkB o with
  | false =>
    have hw : whyR c s o = 1 := by unfold whyR; rw [if_pos ho]
    simp only [hw, go_sem, ↓reduceIte, zA, zB, zC, zD, zE, zF, reduceCtorEq, zG, zH, zI, zJ, zK, zL, zM, zN, zO, zP]
  | true =>
  obtain ⟨hkk, hka, hkb⟩ := opOk_nums ho
  simp only [go_sem, ↓reduceIte, zA, zB, zC, zD, zE, zF, reduceCtorEq, zG, zH, zI, zJ, zK, zL, zM, zN, zO, zP]
  have hk : o.kind = 1 ∨ o.kind = 2 ∨ o.kind = 3 ∨ o.kind = 4 ∨ o.kind = 5 ∨ o.kind = 6 ∨ o.kind = 7 ∨ o.kind = 8 ∨ o.kind = 9 ∨ o.kind = 10 ∨ o.kind = 11 ∨ o.kind = 12 ∨ o.kind = 13 ∨ o.kind = 14 ∨ o.kind = 15 ∨ o.kind = 16 ∨ o.kind = 17 ∨ o.kind = 18 ∨ o.kind = 19 ∨ o.kind = 20 ∨ o.kind = 21 := by omega
  rcases hk with hk | hk | hk | hk | hk | hk | hk | hk | hk | hk | hk | hk | hk | hk | hk | hk | hk | hk | hk | hk | hk
  · rw [why_1 ho hk]
    simp only [hk, go_sem, ↓reduceIte, zA, zB, zC, zD, zE, zF, reduceCtorEq, zG, zH, zI, zJ, zK, zL, zM, zN, zO, zP]
    refine W_calld (asked9_tri c (newJob o)) rfl rfl rfl rfl ?_; simp only [go_sem, ↓reduceIte, zA, zB, zC, zD, zE, zF, reduceCtorEq, zG, zH, zI, zJ, zK, zL, zM, zN, zO, zP]
    cases ha : askedB c (newJob o) with
    | false => simp only [go_sem, ↓reduceIte, zA, zB, zC, zD, zE, zF, reduceCtorEq, zG, zH, zI, zJ, zK, zL, zM, zN, zO, zP]
    | true =>
    simp only [Bool.true_eq_false, go_sem, ↓reduceIte, zA, zB, zC, zD, zE, zF, reduceCtorEq, zG, zH, zI, zJ, zK, zL, zM, zN, zO, zP]
    refine WC_split (fun h => ?_) (fun h => ?_) <;> simp only [h, go_sem, ↓reduceIte, zA, zB, zC, zD, zE, zF, reduceCtorEq, zG, zH, zI, zJ, zK, zL, zM, zN, zO, zP] <;> (try simp only [beq_iff_eq, beq_eq_false_iff_ne, bne_iff_ne, ne_eq, decide_eq_true_eq, decide_eq_false_iff_not, Bool.not_true, Bool.not_false, Bool.not_eq_true, Bool.not_eq_false, bne_eq_false_iff_eq, Decidable.not_not] at h)
    · rw [if_pos (by omega)]
    · rw [if_neg (by omega)]
  · rw [why_2 ho hk]
    simp only [hk, go_sem, ↓reduceIte, zA, zB, zC, zD, zE, zF, reduceCtorEq, zG, zH, zI, zJ, zK, zL, zM, zN, zO, zP]
    by_cases hq : o.a < 1 ∨ (s.jobs.length : Int) < o.a
    · rw [if_pos hq]
      refine WG_split (fun h1 => ?_) (fun h1 => ?_) <;> simp only [h1, go_sem, ↓reduceIte, zA, zB, zC, zD, zE, zF, reduceCtorEq, zG, zH, zI, zJ, zK, zL, zM, zN, zO, zP] <;> (try simp only [beq_iff_eq, beq_eq_false_iff_ne, bne_iff_ne, ne_eq, decide_eq_true_eq, decide_eq_false_iff_not, Bool.not_true, Bool.not_false, Bool.not_eq_true, Bool.not_eq_false, bne_eq_false_iff_eq, Decidable.not_not] at h1)
      refine WC_split (fun h2 => ?_) (fun h2 => ?_) <;> simp only [h2, go_sem, ↓reduceIte, zA, zB, zC, zD, zE, zF, reduceCtorEq, zG, zH, zI, zJ, zK, zL, zM, zN, zO, zP] <;> (try simp only [beq_iff_eq, beq_eq_false_iff_ne, bne_iff_ne, ne_eq, decide_eq_true_eq, decide_eq_false_iff_not, Bool.not_true, Bool.not_false, Bool.not_eq_true, Bool.not_eq_false, bne_eq_false_iff_eq, Decidable.not_not] at h2)
      omega
    rw [if_neg hq]
    have q1 : decide (o.a < 1) = false := by simp; omega
    have q2 : decide (o.a > (s.jobs.length : Int)) = false := by simp; omega
    have hw : IntKind.i64.wrap (o.a - 1) = o.a - 1 := wrap_in (by omega) (by omega)
    have q3 : 0 ≤ o.a - 1 := by omega
    obtain ⟨k, hkq⟩ : ∃ k : Nat, (o.a - 1).toNat = k := ⟨_, rfl⟩
    have hkl : k < s.jobs.length := by omega
    have hg := get_mapD (f := jobR) zeroJob hkl
    have hJ : jobA s o.a = s.jobs.getD k zeroJob := by unfold jobA; rw [hkq]
    rw [hJ]
    generalize s.jobs.getD k zeroJob = j at *
    simp only [q1, q2, q3, hw, hkq, hg, hk, go_sem, ↓reduceIte, zA, zB, zC, zD, zE, zF, reduceCtorEq, zG, zH, zI, zJ, zK, zL, zM, zN, zO, zP]
    have hv : (decide (o.b ≥ 1) = true ∧ decide (o.b ≤ 9) = true) ∨ (decide (o.b ≥ 1) = true ∧ decide (o.b ≤ 9) = false) ∨ (decide (o.b ≥ 1) = false ∧ decide (o.b ≤ 9) = true) := by
      simp only [decide_eq_true_eq, decide_eq_false_iff_not]; omega
    rcases hv with ⟨hv1, hv2⟩ | ⟨hv1, hv2⟩ | ⟨hv1, hv2⟩
    all_goals
      simp only [hv1, hv2, hk, go_sem, ↓reduceIte, zA, zB, zC, zD, zE, zF, reduceCtorEq, zG, zH, zI, zJ, zK, zL, zM, zN, zO, zP]
      simp only [ge_iff_le, decide_eq_true_eq, decide_eq_false_iff_not] at hv1 hv2
      repeat' (first | ((first | with_reducible refine WG_splitn (fun h => ?_) (fun h => ?_) | refine WG_split (fun h => ?_) (fun h => ?_)) <;> simp only [h, go_sem, ↓reduceIte, zA, zB, zC, zD, zE, zF, reduceCtorEq, zG, zH, zI, zJ, zK, zL, zM, zN, zO, zP] <;> (try simp only [beq_iff_eq, beq_eq_false_iff_ne, bne_iff_ne, ne_eq, decide_eq_true_eq, decide_eq_false_iff_not, Bool.not_true, Bool.not_false, Bool.not_eq_true, Bool.not_eq_false, bne_eq_false_iff_eq, Decidable.not_not] at h)) | ((first | with_reducible refine WC_splitn (fun h => ?_) (fun h => ?_) | refine WC_split (fun h => ?_) (fun h => ?_)) <;> simp only [h, go_sem, ↓reduceIte, zA, zB, zC, zD, zE, zF, reduceCtorEq, zG, zH, zI, zJ, zK, zL, zM, zN, zO, zP] <;> (try simp only [beq_iff_eq, beq_eq_false_iff_ne, bne_iff_ne, ne_eq, decide_eq_true_eq, decide_eq_false_iff_not, Bool.not_true, Bool.not_false, Bool.not_eq_true, Bool.not_eq_false, bne_eq_false_iff_eq, Decidable.not_not] at h)))
      all_goals (first | omega | (repeat (first | rw [if_pos (by omega)] | rw [if_neg (by omega)])))
  · rw [why_3 ho hk]
    simp only [hk, go_sem, ↓reduceIte, zA, zB, zC, zD, zE, zF, reduceCtorEq, zG, zH, zI, zJ, zK, zL, zM, zN, zO, zP]
    have hv : (decide (o.b ≥ 1) = true ∧ decide (o.b ≤ 9) = true) ∨ (decide (o.b ≥ 1) = true ∧ decide (o.b ≤ 9) = false) ∨ (decide (o.b ≥ 1) = false ∧ decide (o.b ≤ 9) = true) := by
      simp only [decide_eq_true_eq, decide_eq_false_iff_not]; omega
    rcases hv with ⟨hv1, hv2⟩ | ⟨hv1, hv2⟩ | ⟨hv1, hv2⟩
    all_goals
      simp only [hv1, hv2, hk, go_sem, ↓reduceIte, zA, zB, zC, zD, zE, zF, reduceCtorEq, zG, zH, zI, zJ, zK, zL, zM, zN, zO, zP]
      simp only [ge_iff_le, decide_eq_true_eq, decide_eq_false_iff_not] at hv1 hv2
      unfold withinB
      simp only [decide_eq_false_iff_not]
      repeat' (first | ((first | with_reducible refine WG_splitn (fun h => ?_) (fun h => ?_) | refine WG_split (fun h => ?_) (fun h => ?_)) <;> simp only [h, go_sem, ↓reduceIte, zA, zB, zC, zD, zE, zF, reduceCtorEq, zG, zH, zI, zJ, zK, zL, zM, zN, zO, zP] <;> (try simp only [beq_iff_eq, beq_eq_false_iff_ne, bne_iff_ne, ne_eq, decide_eq_true_eq, decide_eq_false_iff_not, Bool.not_true, Bool.not_false, Bool.not_eq_true, Bool.not_eq_false, bne_eq_false_iff_eq, Decidable.not_not] at h)) | ((first | with_reducible refine WC_splitn (fun h => ?_) (fun h => ?_) | refine WC_split (fun h => ?_) (fun h => ?_)) <;> simp only [h, go_sem, ↓reduceIte, zA, zB, zC, zD, zE, zF, reduceCtorEq, zG, zH, zI, zJ, zK, zL, zM, zN, zO, zP] <;> (try simp only [beq_iff_eq, beq_eq_false_iff_ne, bne_iff_ne, ne_eq, decide_eq_true_eq, decide_eq_false_iff_not, Bool.not_true, Bool.not_false, Bool.not_eq_true, Bool.not_eq_false, bne_eq_false_iff_eq, Decidable.not_not] at h)))
      all_goals (first | omega | (repeat (first | rw [if_pos (by omega)] | rw [if_neg (by omega)])))
  · rw [why_4 ho hk]
    simp only [hk, go_sem, ↓reduceIte, zA, zB, zC, zD, zE, zF, reduceCtorEq, zG, zH, zI, zJ, zK, zL, zM, zN, zO, zP]
    have hv : (decide (o.b ≥ 1) = true ∧ decide (o.b ≤ 9) = true) ∨ (decide (o.b ≥ 1) = true ∧ decide (o.b ≤ 9) = false) ∨ (decide (o.b ≥ 1) = false ∧ decide (o.b ≤ 9) = true) := by
      simp only [decide_eq_true_eq, decide_eq_false_iff_not]; omega
    rcases hv with ⟨hv1, hv2⟩ | ⟨hv1, hv2⟩ | ⟨hv1, hv2⟩
    all_goals
      simp only [hv1, hv2, hk, go_sem, ↓reduceIte, zA, zB, zC, zD, zE, zF, reduceCtorEq, zG, zH, zI, zJ, zK, zL, zM, zN, zO, zP]
      simp only [ge_iff_le, decide_eq_true_eq, decide_eq_false_iff_not] at hv1 hv2
      repeat' (first | ((first | with_reducible refine WG_splitn (fun h => ?_) (fun h => ?_) | refine WG_split (fun h => ?_) (fun h => ?_)) <;> simp only [h, go_sem, ↓reduceIte, zA, zB, zC, zD, zE, zF, reduceCtorEq, zG, zH, zI, zJ, zK, zL, zM, zN, zO, zP] <;> (try simp only [beq_iff_eq, beq_eq_false_iff_ne, bne_iff_ne, ne_eq, decide_eq_true_eq, decide_eq_false_iff_not, Bool.not_true, Bool.not_false, Bool.not_eq_true, Bool.not_eq_false, bne_eq_false_iff_eq, Decidable.not_not] at h)) | ((first | with_reducible refine WC_splitn (fun h => ?_) (fun h => ?_) | refine WC_split (fun h => ?_) (fun h => ?_)) <;> simp only [h, go_sem, ↓reduceIte, zA, zB, zC, zD, zE, zF, reduceCtorEq, zG, zH, zI, zJ, zK, zL, zM, zN, zO, zP] <;> (try simp only [beq_iff_eq, beq_eq_false_iff_ne, bne_iff_ne, ne_eq, decide_eq_true_eq, decide_eq_false_iff_not, Bool.not_true, Bool.not_false, Bool.not_eq_true, Bool.not_eq_false, bne_eq_false_iff_eq, Decidable.not_not] at h)))
      all_goals (first | omega | (repeat (first | rw [if_pos (by omega)] | rw [if_neg (by omega)])))
  · rw [why_5 ho hk]
    simp only [hk, go_sem, ↓reduceIte, zA, zB, zC, zD, zE, zF, reduceCtorEq, zG, zH, zI, zJ, zK, zL, zM, zN, zO, zP]
    have hv : (decide (o.b ≥ 1) = true ∧ decide (o.b ≤ 9) = true) ∨ (decide (o.b ≥ 1) = true ∧ decide (o.b ≤ 9) = false) ∨ (decide (o.b ≥ 1) = false ∧ decide (o.b ≤ 9) = true) := by
      simp only [decide_eq_true_eq, decide_eq_false_iff_not]; omega
    rcases hv with ⟨hv1, hv2⟩ | ⟨hv1, hv2⟩ | ⟨hv1, hv2⟩
    all_goals
      simp only [hv1, hv2, hk, go_sem, ↓reduceIte, zA, zB, zC, zD, zE, zF, reduceCtorEq, zG, zH, zI, zJ, zK, zL, zM, zN, zO, zP]
      simp only [ge_iff_le, decide_eq_true_eq, decide_eq_false_iff_not] at hv1 hv2
      repeat' (first | ((first | with_reducible refine WG_splitn (fun h => ?_) (fun h => ?_) | refine WG_split (fun h => ?_) (fun h => ?_)) <;> simp only [h, go_sem, ↓reduceIte, zA, zB, zC, zD, zE, zF, reduceCtorEq, zG, zH, zI, zJ, zK, zL, zM, zN, zO, zP] <;> (try simp only [beq_iff_eq, beq_eq_false_iff_ne, bne_iff_ne, ne_eq, decide_eq_true_eq, decide_eq_false_iff_not, Bool.not_true, Bool.not_false, Bool.not_eq_true, Bool.not_eq_false, bne_eq_false_iff_eq, Decidable.not_not] at h)) | ((first | with_reducible refine WC_splitn (fun h => ?_) (fun h => ?_) | refine WC_split (fun h => ?_) (fun h => ?_)) <;> simp only [h, go_sem, ↓reduceIte, zA, zB, zC, zD, zE, zF, reduceCtorEq, zG, zH, zI, zJ, zK, zL, zM, zN, zO, zP] <;> (try simp only [beq_iff_eq, beq_eq_false_iff_ne, bne_iff_ne, ne_eq, decide_eq_true_eq, decide_eq_false_iff_not, Bool.not_true, Bool.not_false, Bool.not_eq_true, Bool.not_eq_false, bne_eq_false_iff_eq, Decidable.not_not] at h)))
      all_goals (first | omega | (repeat (first | rw [if_pos (by omega)] | rw [if_neg (by omega)])))
  · rw [why_6 ho hk]
    simp only [hk, go_sem, ↓reduceIte, zA, zB, zC, zD, zE, zF, reduceCtorEq, zG, zH, zI, zJ, zK, zL, zM, zN, zO, zP]
    have hv : (decide (o.b ≥ 1) = true ∧ decide (o.b ≤ 9) = true) ∨ (decide (o.b ≥ 1) = true ∧ decide (o.b ≤ 9) = false) ∨ (decide (o.b ≥ 1) = false ∧ decide (o.b ≤ 9) = true) := by
      simp only [decide_eq_true_eq, decide_eq_false_iff_not]; omega
    rcases hv with ⟨hv1, hv2⟩ | ⟨hv1, hv2⟩ | ⟨hv1, hv2⟩
    all_goals
      simp only [hv1, hv2, hk, go_sem, ↓reduceIte, zA, zB, zC, zD, zE, zF, reduceCtorEq, zG, zH, zI, zJ, zK, zL, zM, zN, zO, zP]
      simp only [ge_iff_le, decide_eq_true_eq, decide_eq_false_iff_not] at hv1 hv2
      repeat' (first | ((first | with_reducible refine WG_splitn (fun h => ?_) (fun h => ?_) | refine WG_split (fun h => ?_) (fun h => ?_)) <;> simp only [h, go_sem, ↓reduceIte, zA, zB, zC, zD, zE, zF, reduceCtorEq, zG, zH, zI, zJ, zK, zL, zM, zN, zO, zP] <;> (try simp only [beq_iff_eq, beq_eq_false_iff_ne, bne_iff_ne, ne_eq, decide_eq_true_eq, decide_eq_false_iff_not, Bool.not_true, Bool.not_false, Bool.not_eq_true, Bool.not_eq_false, bne_eq_false_iff_eq, Decidable.not_not] at h)) | ((first | with_reducible refine WC_splitn (fun h => ?_) (fun h => ?_) | refine WC_split (fun h => ?_) (fun h => ?_)) <;> simp only [h, go_sem, ↓reduceIte, zA, zB, zC, zD, zE, zF, reduceCtorEq, zG, zH, zI, zJ, zK, zL, zM, zN, zO, zP] <;> (try simp only [beq_iff_eq, beq_eq_false_iff_ne, bne_iff_ne, ne_eq, decide_eq_true_eq, decide_eq_false_iff_not, Bool.not_true, Bool.not_false, Bool.not_eq_true, Bool.not_eq_false, bne_eq_false_iff_eq, Decidable.not_not] at h)))
      all_goals (first | omega | (repeat (first | rw [if_pos (by omega)] | rw [if_neg (by omega)])))
  · rw [why_7 ho hk]
    simp only [hk, go_sem, ↓reduceIte, zA, zB, zC, zD, zE, zF, reduceCtorEq, zG, zH, zI, zJ, zK, zL, zM, zN, zO, zP]
    by_cases hq : (s.nodes.length : Int) ≤ o.a
    · rw [if_pos hq]
      have q1 : decide (o.a ≥ (s.nodes.length : Int)) = true := by simpa using hq
      simp only [q1, go_sem, ↓reduceIte, zA, zB, zC, zD, zE, zF, reduceCtorEq, zG, zH, zI, zJ, zK, zL, zM, zN, zO, zP]
    rw [if_neg hq]
    have q1 : decide (o.a ≥ (s.nodes.length : Int)) = false := by simp; omega
    have q3 : 0 ≤ o.a := hka.1
    obtain ⟨i, hiq⟩ : ∃ i : Nat, o.a.toNat = i := ⟨_, rfl⟩
    have hil : i < s.nodes.length := by omega
    have hg := get_mapD (f := nodeR) zeroNode hil
    have hN : nodeA s o.a = s.nodes.getD i zeroNode := by unfold nodeA; rw [hiq]
    rw [hN]
    generalize s.nodes.getD i zeroNode = n at *
    simp only [q1, q3, hiq, hg, hk, go_sem, ↓reduceIte, zA, zB, zC, zD, zE, zF, reduceCtorEq, zG, zH, zI, zJ, zK, zL, zM, zN, zO, zP]
    have hv : (decide (o.b ≥ 1) = true ∧ decide (o.b ≤ 9) = true) ∨ (decide (o.b ≥ 1) = true ∧ decide (o.b ≤ 9) = false) ∨ (decide (o.b ≥ 1) = false ∧ decide (o.b ≤ 9) = true) := by
      simp only [decide_eq_true_eq, decide_eq_false_iff_not]; omega
    rcases hv with ⟨hv1, hv2⟩ | ⟨hv1, hv2⟩ | ⟨hv1, hv2⟩
    all_goals
      simp only [hv1, hv2, hk, go_sem, ↓reduceIte, zA, zB, zC, zD, zE, zF, reduceCtorEq, zG, zH, zI, zJ, zK, zL, zM, zN, zO, zP]
      simp only [ge_iff_le, decide_eq_true_eq, decide_eq_false_iff_not] at hv1 hv2
      cases hu : n.up <;> simp only [hu, Bool.true_eq_false, go_sem, ↓reduceIte, zA, zB, zC, zD, zE, zF, reduceCtorEq, zG, zH, zI, zJ, zK, zL, zM, zN, zO, zP]
  · rw [why_8 ho hk]
    simp only [hk, go_sem, ↓reduceIte, zA, zB, zC, zD, zE, zF, reduceCtorEq, zG, zH, zI, zJ, zK, zL, zM, zN, zO, zP]
    by_cases hq : (s.nodes.length : Int) ≤ o.a
    · rw [if_pos hq]
      have q1 : decide (o.a ≥ (s.nodes.length : Int)) = true := by simpa using hq
      simp only [q1, go_sem, ↓reduceIte, zA, zB, zC, zD, zE, zF, reduceCtorEq, zG, zH, zI, zJ, zK, zL, zM, zN, zO, zP]
    rw [if_neg hq]
    have q1 : decide (o.a ≥ (s.nodes.length : Int)) = false := by simp; omega
    have q3 : 0 ≤ o.a := hka.1
    obtain ⟨i, hiq⟩ : ∃ i : Nat, o.a.toNat = i := ⟨_, rfl⟩
    have hil : i < s.nodes.length := by omega
    have hg := get_mapD (f := nodeR) zeroNode hil
    have hN : nodeA s o.a = s.nodes.getD i zeroNode := by unfold nodeA; rw [hiq]
    rw [hN]
    generalize s.nodes.getD i zeroNode = n at *
    simp only [q1, q3, hiq, hg, hk, go_sem, ↓reduceIte, zA, zB, zC, zD, zE, zF, reduceCtorEq, zG, zH, zI, zJ, zK, zL, zM, zN, zO, zP]
    have hv : (decide (o.b ≥ 1) = true ∧ decide (o.b ≤ 9) = true) ∨ (decide (o.b ≥ 1) = true ∧ decide (o.b ≤ 9) = false) ∨ (decide (o.b ≥ 1) = false ∧ decide (o.b ≤ 9) = true) := by
      simp only [decide_eq_true_eq, decide_eq_false_iff_not]; omega
    rcases hv with ⟨hv1, hv2⟩ | ⟨hv1, hv2⟩ | ⟨hv1, hv2⟩
    all_goals
      simp only [hv1, hv2, hk, go_sem, ↓reduceIte, zA, zB, zC, zD, zE, zF, reduceCtorEq, zG, zH, zI, zJ, zK, zL, zM, zN, zO, zP]
      simp only [ge_iff_le, decide_eq_true_eq, decide_eq_false_iff_not] at hv1 hv2
      unfold withinB
      simp only [decide_eq_false_iff_not]
      cases hu : n.up <;> simp only [hu, Bool.false_eq_true, hg, hk, go_sem, ↓reduceIte, zA, zB, zC, zD, zE, zF, reduceCtorEq, zG, zH, zI, zJ, zK, zL, zM, zN, zO, zP]
      repeat' (first | ((first | with_reducible refine WG_splitn (fun h => ?_) (fun h => ?_) | refine WG_split (fun h => ?_) (fun h => ?_)) <;> simp only [h, go_sem, ↓reduceIte, zA, zB, zC, zD, zE, zF, reduceCtorEq, zG, zH, zI, zJ, zK, zL, zM, zN, zO, zP] <;> (try simp only [beq_iff_eq, beq_eq_false_iff_ne, bne_iff_ne, ne_eq, decide_eq_true_eq, decide_eq_false_iff_not, Bool.not_true, Bool.not_false, Bool.not_eq_true, Bool.not_eq_false, bne_eq_false_iff_eq, Decidable.not_not] at h)) | ((first | with_reducible refine WC_splitn (fun h => ?_) (fun h => ?_) | refine WC_split (fun h => ?_) (fun h => ?_)) <;> simp only [h, go_sem, ↓reduceIte, zA, zB, zC, zD, zE, zF, reduceCtorEq, zG, zH, zI, zJ, zK, zL, zM, zN, zO, zP] <;> (try simp only [beq_iff_eq, beq_eq_false_iff_ne, bne_iff_ne, ne_eq, decide_eq_true_eq, decide_eq_false_iff_not, Bool.not_true, Bool.not_false, Bool.not_eq_true, Bool.not_eq_false, bne_eq_false_iff_eq, Decidable.not_not] at h)))
      all_goals (first | omega | (repeat (first | rw [if_pos (by omega)] | rw [if_neg (by omega)])))
  · rw [why_9 ho hk]
    simp only [hk, go_sem, ↓reduceIte, zA, zB, zC, zD, zE, zF, reduceCtorEq, zG, zH, zI, zJ, zK, zL, zM, zN, zO, zP]
    by_cases hq : o.a < 1 ∨ (s.jobs.length : Int) < o.a
    · rw [if_pos hq]
      refine WG_split (fun h1 => ?_) (fun h1 => ?_) <;> simp only [h1, go_sem, ↓reduceIte, zA, zB, zC, zD, zE, zF, reduceCtorEq, zG, zH, zI, zJ, zK, zL, zM, zN, zO, zP] <;> (try simp only [beq_iff_eq, beq_eq_false_iff_ne, bne_iff_ne, ne_eq, decide_eq_true_eq, decide_eq_false_iff_not, Bool.not_true, Bool.not_false, Bool.not_eq_true, Bool.not_eq_false, bne_eq_false_iff_eq, Decidable.not_not] at h1)
      refine WC_split (fun h2 => ?_) (fun h2 => ?_) <;> simp only [h2, go_sem, ↓reduceIte, zA, zB, zC, zD, zE, zF, reduceCtorEq, zG, zH, zI, zJ, zK, zL, zM, zN, zO, zP] <;> (try simp only [beq_iff_eq, beq_eq_false_iff_ne, bne_iff_ne, ne_eq, decide_eq_true_eq, decide_eq_false_iff_not, Bool.not_true, Bool.not_false, Bool.not_eq_true, Bool.not_eq_false, bne_eq_false_iff_eq, Decidable.not_not] at h2)
      omega
    rw [if_neg hq]
    have q1 : decide (o.a < 1) = false := by simp; omega
    have q2 : decide (o.a > (s.jobs.length : Int)) = false := by simp; omega
    have hw : IntKind.i64.wrap (o.a - 1) = o.a - 1 := wrap_in (by omega) (by omega)
    have q3 : 0 ≤ o.a - 1 := by omega
    obtain ⟨k, hkq⟩ : ∃ k : Nat, (o.a - 1).toNat = k := ⟨_, rfl⟩
    have hkl : k < s.jobs.length := by omega
    have hg := get_mapD (f := jobR) zeroJob hkl
    have hJ : jobA s o.a = s.jobs.getD k zeroJob := by unfold jobA; rw [hkq]
    rw [hJ]
    generalize s.jobs.getD k zeroJob = j at *
    simp only [q1, q2, q3, hw, hkq, hg, hk, go_sem, ↓reduceIte, zA, zB, zC, zD, zE, zF, reduceCtorEq, zG, zH, zI, zJ, zK, zL, zM, zN, zO, zP]
    have hv : (decide (o.b ≥ 1) = true ∧ decide (o.b ≤ 9) = true) ∨ (decide (o.b ≥ 1) = true ∧ decide (o.b ≤ 9) = false) ∨ (decide (o.b ≥ 1) = false ∧ decide (o.b ≤ 9) = true) := by
      simp only [decide_eq_true_eq, decide_eq_false_iff_not]; omega
    rcases hv with ⟨hv1, hv2⟩ | ⟨hv1, hv2⟩ | ⟨hv1, hv2⟩
    all_goals
      simp only [hv1, hv2, hk, go_sem, ↓reduceIte, zA, zB, zC, zD, zE, zF, reduceCtorEq, zG, zH, zI, zJ, zK, zL, zM, zN, zO, zP]
      simp only [ge_iff_le, decide_eq_true_eq, decide_eq_false_iff_not] at hv1 hv2
      refine WC_splitn (fun h1 => ?_) (fun h1 => ?_) <;> simp only [h1, go_sem, ↓reduceIte, zA, zB, zC, zD, zE, zF, reduceCtorEq, zG, zH, zI, zJ, zK, zL, zM, zN, zO, zP] <;> (try simp only [beq_iff_eq, beq_eq_false_iff_ne, bne_iff_ne, ne_eq, decide_eq_true_eq, decide_eq_false_iff_not, Bool.not_true, Bool.not_false, Bool.not_eq_true, Bool.not_eq_false, bne_eq_false_iff_eq, Decidable.not_not] at h1)
      · rw [if_pos (by omega)]
      rw [if_neg (by omega)]
      refine W_calld (fits9_tri s j o.b) rfl rfl rfl rfl ?_; simp only [go_sem, ↓reduceIte, zA, zB, zC, zD, zE, zF, reduceCtorEq, zG, zH, zI, zJ, zK, zL, zM, zN, zO, zP]
      have key : (if ¬ (fitsRB s.nodes j o.b = true ∧ j.inc < 1000000 ∧ freeAll o.b s.nodes 0 = true) then (8 : Int) else 0) = if (fitsRB s.nodes j o.b && decide (j.inc < 1000000) && freeAll o.b s.nodes 0) = false then 8 else 0 := by
        cases fitsRB s.nodes j o.b <;> cases freeAll o.b s.nodes 0 <;> by_cases hi : j.inc < 1000000 <;> simp [hi]
      rw [key]
      generalize hr : (fitsRB s.nodes j o.b && decide (j.inc < 1000000) && freeAll o.b s.nodes 0) = r
      cases hf : fitsRB s.nodes j o.b with
      | false =>
        rw [hf] at hr
        simp only [hk, go_sem, ↓reduceIte, zA, zB, zC, zD, zE, zF, reduceCtorEq, zG, zH, zI, zJ, zK, zL, zM, zN, zO, zP]
        refine W_loopI [4, 5, 11, 12] [] (fun kv : Nat × Bool => kv.1 ≤ s.nodes.length ∧ (kv.2 && freeAll o.b (s.nodes.drop kv.1) kv.1) = r) (fun kv => s.nodes.length - kv.1) (why9S c s o j) (0, false) ?_ ⟨Nat.zero_le _, hr⟩ ?_
        · simp only [why9S, hk, go_sem, ↓reduceIte, zA, zB, zC, zD, zE, zF, reduceCtorEq, zG, zH, zI, zJ, zK, zL, zM, zN, zO, zP, Int.natCast_zero]
        rintro ⟨k, b⟩ ⟨hkl, hF⟩
        dsimp only at hkl hF
        simp only [why9S, go_sem, ↓reduceIte, zA, zB, zC, zD, zE, zF, reduceCtorEq, zG, zH, zI, zJ, zK, zL, zM, zN, zO, zP]
        refine WC_split (fun h => ?_) (fun h => ?_)
        · have h := lt_of_dec h
          rw [drop_cons _ _ zeroNode h, freeAll] at hF
          have hgn := get_mapD (f := nodeR) zeroNode h
          generalize s.nodes.getD k zeroNode = n at *
          cases b with
          | false =>
            simp only [go_sem, ↓reduceIte, zA, zB, zC, zD, zE, zF, reduceCtorEq, zG, zH, zI, zJ, zK, zL, zM, zN, zO, zP]
            refine W_lpI (k + 1, false) ?_ ?_ ⟨by dsimp only; omega, by simpa using hF⟩ (by dsimp only; omega)
            · simp only [go_sem, ↓reduceIte, zA, zB, zC, zD, zE, zF, reduceCtorEq, zG, zH, zI, zJ, zK, zL, zM, zN, zO, zP]
            · simp only [why9S, go_sem, ↓reduceIte, zA, zB, zC, zD, zE, zF, reduceCtorEq, zG, zH, zI, zJ, zK, zL, zM, zN, zO, zP, wrap_succ (show k < 9223372036854775807 by omega)]
          | true =>
            simp only [go_sem, ↓reduceIte, zA, zB, zC, zD, zE, zF, reduceCtorEq, zG, zH, zI, zJ, zK, zL, zM, zN, zO, zP]
            refine W_calld (has9_tri o.b k (by omega)) rfl rfl rfl rfl ?_; simp only [go_sem, ↓reduceIte, zA, zB, zC, zD, zE, zF, reduceCtorEq, zG, zH, zI, zJ, zK, zL, zM, zN, zO, zP]
            cases hh : hasB o.b k with
            | false =>
              rw [hh] at hF
              simp only [go_sem, ↓reduceIte, zA, zB, zC, zD, zE, zF, reduceCtorEq, zG, zH, zI, zJ, zK, zL, zM, zN, zO, zP]
              refine W_lpI (k + 1, true) ?_ ?_ ⟨by dsimp only; omega, hF⟩ (by dsimp only; omega)
              · simp only [go_sem, ↓reduceIte, zA, zB, zC, zD, zE, zF, reduceCtorEq, zG, zH, zI, zJ, zK, zL, zM, zN, zO, zP]
              · simp only [why9S, go_sem, ↓reduceIte, zA, zB, zC, zD, zE, zF, reduceCtorEq, zG, zH, zI, zJ, zK, zL, zM, zN, zO, zP, wrap_succ (show k < 9223372036854775807 by omega)]
            | true =>
              rw [hh] at hF
              simp only [hgn, go_sem, ↓reduceIte, zA, zB, zC, zD, zE, zF, reduceCtorEq, zG, zH, zI, zJ, zK, zL, zM, zN, zO, zP]
              refine W_calld (free9_tri n) rfl rfl rfl rfl ?_; simp only [go_sem, ↓reduceIte, zA, zB, zC, zD, zE, zF, reduceCtorEq, zG, zH, zI, zJ, zK, zL, zM, zN, zO, zP]
              refine W_lpI (k + 1, freeB n) ?_ ?_ ⟨by dsimp only; omega, by simpa using hF⟩ (by dsimp only; omega)
              · simp only [go_sem, ↓reduceIte, zA, zB, zC, zD, zE, zF, reduceCtorEq, zG, zH, zI, zJ, zK, zL, zM, zN, zO, zP]
              · simp only [why9S, go_sem, ↓reduceIte, zA, zB, zC, zD, zE, zF, reduceCtorEq, zG, zH, zI, zJ, zK, zL, zM, zN, zO, zP, wrap_succ (show k < 9223372036854775807 by omega)]
        · obtain rfl := eq_of_dec h hkl
          rw [List.drop_length, freeAll, Bool.and_true] at hF
          subst hF
          cases b <;> simp only [go_sem, ↓reduceIte, zA, zB, zC, zD, zE, zF, reduceCtorEq, zG, zH, zI, zJ, zK, zL, zM, zN, zO, zP, Bool.true_eq_false]
      | true =>
        rw [hf, Bool.true_and] at hr
        simp only [hg, hk, go_sem, ↓reduceIte, zA, zB, zC, zD, zE, zF, reduceCtorEq, zG, zH, zI, zJ, zK, zL, zM, zN, zO, zP]
        refine W_loopI [4, 5, 11, 12] [] (fun kv : Nat × Bool => kv.1 ≤ s.nodes.length ∧ (kv.2 && freeAll o.b (s.nodes.drop kv.1) kv.1) = r) (fun kv => s.nodes.length - kv.1) (why9S c s o j) (0, decide (j.inc < 1000000)) ?_ ⟨Nat.zero_le _, hr⟩ ?_
        · simp only [why9S, hk, go_sem, ↓reduceIte, zA, zB, zC, zD, zE, zF, reduceCtorEq, zG, zH, zI, zJ, zK, zL, zM, zN, zO, zP, Int.natCast_zero]
        rintro ⟨k, b⟩ ⟨hkl, hF⟩
        dsimp only at hkl hF
        simp only [why9S, go_sem, ↓reduceIte, zA, zB, zC, zD, zE, zF, reduceCtorEq, zG, zH, zI, zJ, zK, zL, zM, zN, zO, zP]
        refine WC_split (fun h => ?_) (fun h => ?_)
        · have h := lt_of_dec h
          rw [drop_cons _ _ zeroNode h, freeAll] at hF
          have hgn := get_mapD (f := nodeR) zeroNode h
          generalize s.nodes.getD k zeroNode = n at *
          cases b with
          | false =>
            simp only [go_sem, ↓reduceIte, zA, zB, zC, zD, zE, zF, reduceCtorEq, zG, zH, zI, zJ, zK, zL, zM, zN, zO, zP]
            refine W_lpI (k + 1, false) ?_ ?_ ⟨by dsimp only; omega, by simpa using hF⟩ (by dsimp only; omega)
            · simp only [go_sem, ↓reduceIte, zA, zB, zC, zD, zE, zF, reduceCtorEq, zG, zH, zI, zJ, zK, zL, zM, zN, zO, zP]
            · simp only [why9S, go_sem, ↓reduceIte, zA, zB, zC, zD, zE, zF, reduceCtorEq, zG, zH, zI, zJ, zK, zL, zM, zN, zO, zP, wrap_succ (show k < 9223372036854775807 by omega)]
          | true =>
            simp only [go_sem, ↓reduceIte, zA, zB, zC, zD, zE, zF, reduceCtorEq, zG, zH, zI, zJ, zK, zL, zM, zN, zO, zP]
            refine W_calld (has9_tri o.b k (by omega)) rfl rfl rfl rfl ?_; simp only [go_sem, ↓reduceIte, zA, zB, zC, zD, zE, zF, reduceCtorEq, zG, zH, zI, zJ, zK, zL, zM, zN, zO, zP]
            cases hh : hasB o.b k with
            | false =>
              rw [hh] at hF
              simp only [go_sem, ↓reduceIte, zA, zB, zC, zD, zE, zF, reduceCtorEq, zG, zH, zI, zJ, zK, zL, zM, zN, zO, zP]
              refine W_lpI (k + 1, true) ?_ ?_ ⟨by dsimp only; omega, hF⟩ (by dsimp only; omega)
              · simp only [go_sem, ↓reduceIte, zA, zB, zC, zD, zE, zF, reduceCtorEq, zG, zH, zI, zJ, zK, zL, zM, zN, zO, zP]
              · simp only [why9S, go_sem, ↓reduceIte, zA, zB, zC, zD, zE, zF, reduceCtorEq, zG, zH, zI, zJ, zK, zL, zM, zN, zO, zP, wrap_succ (show k < 9223372036854775807 by omega)]
            | true =>
              rw [hh] at hF
              simp only [hgn, go_sem, ↓reduceIte, zA, zB, zC, zD, zE, zF, reduceCtorEq, zG, zH, zI, zJ, zK, zL, zM, zN, zO, zP]
              refine W_calld (free9_tri n) rfl rfl rfl rfl ?_; simp only [go_sem, ↓reduceIte, zA, zB, zC, zD, zE, zF, reduceCtorEq, zG, zH, zI, zJ, zK, zL, zM, zN, zO, zP]
              refine W_lpI (k + 1, freeB n) ?_ ?_ ⟨by dsimp only; omega, by simpa using hF⟩ (by dsimp only; omega)
              · simp only [go_sem, ↓reduceIte, zA, zB, zC, zD, zE, zF, reduceCtorEq, zG, zH, zI, zJ, zK, zL, zM, zN, zO, zP]
              · simp only [why9S, go_sem, ↓reduceIte, zA, zB, zC, zD, zE, zF, reduceCtorEq, zG, zH, zI, zJ, zK, zL, zM, zN, zO, zP, wrap_succ (show k < 9223372036854775807 by omega)]
        · obtain rfl := eq_of_dec h hkl
          rw [List.drop_length, freeAll, Bool.and_true] at hF
          subst hF
          cases b <;> simp only [go_sem, ↓reduceIte, zA, zB, zC, zD, zE, zF, reduceCtorEq, zG, zH, zI, zJ, zK, zL, zM, zN, zO, zP, Bool.true_eq_false]
  · rw [why_10 ho hk]
    simp only [hk, go_sem, ↓reduceIte, zA, zB, zC, zD, zE, zF, reduceCtorEq, zG, zH, zI, zJ, zK, zL, zM, zN, zO, zP]
    by_cases hq : o.a < 1 ∨ (s.jobs.length : Int) < o.a
    · rw [if_pos hq]
      refine WG_split (fun h1 => ?_) (fun h1 => ?_) <;> simp only [h1, go_sem, ↓reduceIte, zA, zB, zC, zD, zE, zF, reduceCtorEq, zG, zH, zI, zJ, zK, zL, zM, zN, zO, zP] <;> (try simp only [beq_iff_eq, beq_eq_false_iff_ne, bne_iff_ne, ne_eq, decide_eq_true_eq, decide_eq_false_iff_not, Bool.not_true, Bool.not_false, Bool.not_eq_true, Bool.not_eq_false, bne_eq_false_iff_eq, Decidable.not_not] at h1)
      refine WC_split (fun h2 => ?_) (fun h2 => ?_) <;> simp only [h2, go_sem, ↓reduceIte, zA, zB, zC, zD, zE, zF, reduceCtorEq, zG, zH, zI, zJ, zK, zL, zM, zN, zO, zP] <;> (try simp only [beq_iff_eq, beq_eq_false_iff_ne, bne_iff_ne, ne_eq, decide_eq_true_eq, decide_eq_false_iff_not, Bool.not_true, Bool.not_false, Bool.not_eq_true, Bool.not_eq_false, bne_eq_false_iff_eq, Decidable.not_not] at h2)
      omega
    rw [if_neg hq]
    have q1 : decide (o.a < 1) = false := by simp; omega
    have q2 : decide (o.a > (s.jobs.length : Int)) = false := by simp; omega
    have hw : IntKind.i64.wrap (o.a - 1) = o.a - 1 := wrap_in (by omega) (by omega)
    have q3 : 0 ≤ o.a - 1 := by omega
    obtain ⟨k, hkq⟩ : ∃ k : Nat, (o.a - 1).toNat = k := ⟨_, rfl⟩
    have hkl : k < s.jobs.length := by omega
    have hg := get_mapD (f := jobR) zeroJob hkl
    have hJ : jobA s o.a = s.jobs.getD k zeroJob := by unfold jobA; rw [hkq]
    rw [hJ]
    generalize s.jobs.getD k zeroJob = j at *
    simp only [q1, q2, q3, hw, hkq, hg, hk, go_sem, ↓reduceIte, zA, zB, zC, zD, zE, zF, reduceCtorEq, zG, zH, zI, zJ, zK, zL, zM, zN, zO, zP]
    have hv : (decide (o.b ≥ 1) = true ∧ decide (o.b ≤ 9) = true) ∨ (decide (o.b ≥ 1) = true ∧ decide (o.b ≤ 9) = false) ∨ (decide (o.b ≥ 1) = false ∧ decide (o.b ≤ 9) = true) := by
      simp only [decide_eq_true_eq, decide_eq_false_iff_not]; omega
    rcases hv with ⟨hv1, hv2⟩ | ⟨hv1, hv2⟩ | ⟨hv1, hv2⟩
    all_goals
      simp only [hv1, hv2, hk, go_sem, ↓reduceIte, zA, zB, zC, zD, zE, zF, reduceCtorEq, zG, zH, zI, zJ, zK, zL, zM, zN, zO, zP]
      simp only [ge_iff_le, decide_eq_true_eq, decide_eq_false_iff_not] at hv1 hv2
      repeat' (first | ((first | with_reducible refine WG_splitn (fun h => ?_) (fun h => ?_) | refine WG_split (fun h => ?_) (fun h => ?_)) <;> simp only [h, go_sem, ↓reduceIte, zA, zB, zC, zD, zE, zF, reduceCtorEq, zG, zH, zI, zJ, zK, zL, zM, zN, zO, zP] <;> (try simp only [beq_iff_eq, beq_eq_false_iff_ne, bne_iff_ne, ne_eq, decide_eq_true_eq, decide_eq_false_iff_not, Bool.not_true, Bool.not_false, Bool.not_eq_true, Bool.not_eq_false, bne_eq_false_iff_eq, Decidable.not_not] at h)) | ((first | with_reducible refine WC_splitn (fun h => ?_) (fun h => ?_) | refine WC_split (fun h => ?_) (fun h => ?_)) <;> simp only [h, go_sem, ↓reduceIte, zA, zB, zC, zD, zE, zF, reduceCtorEq, zG, zH, zI, zJ, zK, zL, zM, zN, zO, zP] <;> (try simp only [beq_iff_eq, beq_eq_false_iff_ne, bne_iff_ne, ne_eq, decide_eq_true_eq, decide_eq_false_iff_not, Bool.not_true, Bool.not_false, Bool.not_eq_true, Bool.not_eq_false, bne_eq_false_iff_eq, Decidable.not_not] at h)))
      all_goals (first | omega | (repeat (first | rw [if_pos (by omega)] | rw [if_neg (by omega)])))
  · rw [why_11 ho hk]
    simp only [hk, go_sem, ↓reduceIte, zA, zB, zC, zD, zE, zF, reduceCtorEq, zG, zH, zI, zJ, zK, zL, zM, zN, zO, zP]
    by_cases hq : o.a < 1 ∨ (s.jobs.length : Int) < o.a
    · rw [if_pos hq]
      refine WG_split (fun h1 => ?_) (fun h1 => ?_) <;> simp only [h1, go_sem, ↓reduceIte, zA, zB, zC, zD, zE, zF, reduceCtorEq, zG, zH, zI, zJ, zK, zL, zM, zN, zO, zP] <;> (try simp only [beq_iff_eq, beq_eq_false_iff_ne, bne_iff_ne, ne_eq, decide_eq_true_eq, decide_eq_false_iff_not, Bool.not_true, Bool.not_false, Bool.not_eq_true, Bool.not_eq_false, bne_eq_false_iff_eq, Decidable.not_not] at h1)
      refine WC_split (fun h2 => ?_) (fun h2 => ?_) <;> simp only [h2, go_sem, ↓reduceIte, zA, zB, zC, zD, zE, zF, reduceCtorEq, zG, zH, zI, zJ, zK, zL, zM, zN, zO, zP] <;> (try simp only [beq_iff_eq, beq_eq_false_iff_ne, bne_iff_ne, ne_eq, decide_eq_true_eq, decide_eq_false_iff_not, Bool.not_true, Bool.not_false, Bool.not_eq_true, Bool.not_eq_false, bne_eq_false_iff_eq, Decidable.not_not] at h2)
      omega
    rw [if_neg hq]
    have q1 : decide (o.a < 1) = false := by simp; omega
    have q2 : decide (o.a > (s.jobs.length : Int)) = false := by simp; omega
    have hw : IntKind.i64.wrap (o.a - 1) = o.a - 1 := wrap_in (by omega) (by omega)
    have q3 : 0 ≤ o.a - 1 := by omega
    obtain ⟨k, hkq⟩ : ∃ k : Nat, (o.a - 1).toNat = k := ⟨_, rfl⟩
    have hkl : k < s.jobs.length := by omega
    have hg := get_mapD (f := jobR) zeroJob hkl
    have hJ : jobA s o.a = s.jobs.getD k zeroJob := by unfold jobA; rw [hkq]
    rw [hJ]
    generalize s.jobs.getD k zeroJob = j at *
    simp only [q1, q2, q3, hw, hkq, hg, hk, go_sem, ↓reduceIte, zA, zB, zC, zD, zE, zF, reduceCtorEq, zG, zH, zI, zJ, zK, zL, zM, zN, zO, zP]
    have hv : (decide (o.b ≥ 1) = true ∧ decide (o.b ≤ 9) = true) ∨ (decide (o.b ≥ 1) = true ∧ decide (o.b ≤ 9) = false) ∨ (decide (o.b ≥ 1) = false ∧ decide (o.b ≤ 9) = true) := by
      simp only [decide_eq_true_eq, decide_eq_false_iff_not]; omega
    rcases hv with ⟨hv1, hv2⟩ | ⟨hv1, hv2⟩ | ⟨hv1, hv2⟩
    all_goals
      simp only [hv1, hv2, hk, go_sem, ↓reduceIte, zA, zB, zC, zD, zE, zF, reduceCtorEq, zG, zH, zI, zJ, zK, zL, zM, zN, zO, zP]
      simp only [ge_iff_le, decide_eq_true_eq, decide_eq_false_iff_not] at hv1 hv2
      repeat' (first | ((first | with_reducible refine WG_splitn (fun h => ?_) (fun h => ?_) | refine WG_split (fun h => ?_) (fun h => ?_)) <;> simp only [h, go_sem, ↓reduceIte, zA, zB, zC, zD, zE, zF, reduceCtorEq, zG, zH, zI, zJ, zK, zL, zM, zN, zO, zP] <;> (try simp only [beq_iff_eq, beq_eq_false_iff_ne, bne_iff_ne, ne_eq, decide_eq_true_eq, decide_eq_false_iff_not, Bool.not_true, Bool.not_false, Bool.not_eq_true, Bool.not_eq_false, bne_eq_false_iff_eq, Decidable.not_not] at h)) | ((first | with_reducible refine WC_splitn (fun h => ?_) (fun h => ?_) | refine WC_split (fun h => ?_) (fun h => ?_)) <;> simp only [h, go_sem, ↓reduceIte, zA, zB, zC, zD, zE, zF, reduceCtorEq, zG, zH, zI, zJ, zK, zL, zM, zN, zO, zP] <;> (try simp only [beq_iff_eq, beq_eq_false_iff_ne, bne_iff_ne, ne_eq, decide_eq_true_eq, decide_eq_false_iff_not, Bool.not_true, Bool.not_false, Bool.not_eq_true, Bool.not_eq_false, bne_eq_false_iff_eq, Decidable.not_not] at h)))
      all_goals (first | omega | (repeat (first | rw [if_pos (by omega)] | rw [if_neg (by omega)])))
  · rw [why_12 ho hk]
    simp only [hk, go_sem, ↓reduceIte, zA, zB, zC, zD, zE, zF, reduceCtorEq, zG, zH, zI, zJ, zK, zL, zM, zN, zO, zP]
    by_cases hq : o.a < 1 ∨ (s.jobs.length : Int) < o.a
    · rw [if_pos hq]
      refine WG_split (fun h1 => ?_) (fun h1 => ?_) <;> simp only [h1, go_sem, ↓reduceIte, zA, zB, zC, zD, zE, zF, reduceCtorEq, zG, zH, zI, zJ, zK, zL, zM, zN, zO, zP] <;> (try simp only [beq_iff_eq, beq_eq_false_iff_ne, bne_iff_ne, ne_eq, decide_eq_true_eq, decide_eq_false_iff_not, Bool.not_true, Bool.not_false, Bool.not_eq_true, Bool.not_eq_false, bne_eq_false_iff_eq, Decidable.not_not] at h1)
      refine WC_split (fun h2 => ?_) (fun h2 => ?_) <;> simp only [h2, go_sem, ↓reduceIte, zA, zB, zC, zD, zE, zF, reduceCtorEq, zG, zH, zI, zJ, zK, zL, zM, zN, zO, zP] <;> (try simp only [beq_iff_eq, beq_eq_false_iff_ne, bne_iff_ne, ne_eq, decide_eq_true_eq, decide_eq_false_iff_not, Bool.not_true, Bool.not_false, Bool.not_eq_true, Bool.not_eq_false, bne_eq_false_iff_eq, Decidable.not_not] at h2)
      omega
    rw [if_neg hq]
    have q1 : decide (o.a < 1) = false := by simp; omega
    have q2 : decide (o.a > (s.jobs.length : Int)) = false := by simp; omega
    have hw : IntKind.i64.wrap (o.a - 1) = o.a - 1 := wrap_in (by omega) (by omega)
    have q3 : 0 ≤ o.a - 1 := by omega
    obtain ⟨k, hkq⟩ : ∃ k : Nat, (o.a - 1).toNat = k := ⟨_, rfl⟩
    have hkl : k < s.jobs.length := by omega
    have hg := get_mapD (f := jobR) zeroJob hkl
    have hJ : jobA s o.a = s.jobs.getD k zeroJob := by unfold jobA; rw [hkq]
    rw [hJ]
    generalize s.jobs.getD k zeroJob = j at *
    simp only [q1, q2, q3, hw, hkq, hg, hk, go_sem, ↓reduceIte, zA, zB, zC, zD, zE, zF, reduceCtorEq, zG, zH, zI, zJ, zK, zL, zM, zN, zO, zP]
    have hv : (decide (o.b ≥ 1) = true ∧ decide (o.b ≤ 9) = true) ∨ (decide (o.b ≥ 1) = true ∧ decide (o.b ≤ 9) = false) ∨ (decide (o.b ≥ 1) = false ∧ decide (o.b ≤ 9) = true) := by
      simp only [decide_eq_true_eq, decide_eq_false_iff_not]; omega
    rcases hv with ⟨hv1, hv2⟩ | ⟨hv1, hv2⟩ | ⟨hv1, hv2⟩
    all_goals
      simp only [hv1, hv2, hk, go_sem, ↓reduceIte, zA, zB, zC, zD, zE, zF, reduceCtorEq, zG, zH, zI, zJ, zK, zL, zM, zN, zO, zP]
      simp only [ge_iff_le, decide_eq_true_eq, decide_eq_false_iff_not] at hv1 hv2
      refine WC_splitn (fun h1 => ?_) (fun h1 => ?_) <;> simp only [h1, go_sem, ↓reduceIte, zA, zB, zC, zD, zE, zF, reduceCtorEq, zG, zH, zI, zJ, zK, zL, zM, zN, zO, zP] <;> (try simp only [beq_iff_eq, beq_eq_false_iff_ne, bne_iff_ne, ne_eq, decide_eq_true_eq, decide_eq_false_iff_not, Bool.not_true, Bool.not_false, Bool.not_eq_true, Bool.not_eq_false, bne_eq_false_iff_eq, Decidable.not_not] at h1)
      · rw [if_pos (by omega)]
      rw [if_neg (by omega)]
      refine WD_calld (drains9_tri s j.queue (by omega)) rfl rfl rfl rfl ?_; simp only [go_sem, ↓reduceIte, zA, zB, zC, zD, zE, zF, reduceCtorEq, zG, zH, zI, zJ, zK, zL, zM, zN, zO, zP]
      repeat' (first | ((first | with_reducible refine WG_splitn (fun h => ?_) (fun h => ?_) | refine WG_split (fun h => ?_) (fun h => ?_)) <;> simp only [h, go_sem, ↓reduceIte, zA, zB, zC, zD, zE, zF, reduceCtorEq, zG, zH, zI, zJ, zK, zL, zM, zN, zO, zP] <;> (try simp only [beq_iff_eq, beq_eq_false_iff_ne, bne_iff_ne, ne_eq, decide_eq_true_eq, decide_eq_false_iff_not, Bool.not_true, Bool.not_false, Bool.not_eq_true, Bool.not_eq_false, bne_eq_false_iff_eq, Decidable.not_not] at h)) | ((first | with_reducible refine WC_splitn (fun h => ?_) (fun h => ?_) | refine WC_split (fun h => ?_) (fun h => ?_)) <;> simp only [h, go_sem, ↓reduceIte, zA, zB, zC, zD, zE, zF, reduceCtorEq, zG, zH, zI, zJ, zK, zL, zM, zN, zO, zP] <;> (try simp only [beq_iff_eq, beq_eq_false_iff_ne, bne_iff_ne, ne_eq, decide_eq_true_eq, decide_eq_false_iff_not, Bool.not_true, Bool.not_false, Bool.not_eq_true, Bool.not_eq_false, bne_eq_false_iff_eq, Decidable.not_not] at h)))
      all_goals (first | omega | (repeat (first | rw [if_pos (by omega)] | rw [if_neg (by omega)])))
  · rw [why_13 ho hk]
    simp only [hk, go_sem, ↓reduceIte, zA, zB, zC, zD, zE, zF, reduceCtorEq, zG, zH, zI, zJ, zK, zL, zM, zN, zO, zP]
    by_cases hq : o.a < 1 ∨ (s.jobs.length : Int) < o.a
    · rw [if_pos hq]
      refine WG_split (fun h1 => ?_) (fun h1 => ?_) <;> simp only [h1, go_sem, ↓reduceIte, zA, zB, zC, zD, zE, zF, reduceCtorEq, zG, zH, zI, zJ, zK, zL, zM, zN, zO, zP] <;> (try simp only [beq_iff_eq, beq_eq_false_iff_ne, bne_iff_ne, ne_eq, decide_eq_true_eq, decide_eq_false_iff_not, Bool.not_true, Bool.not_false, Bool.not_eq_true, Bool.not_eq_false, bne_eq_false_iff_eq, Decidable.not_not] at h1)
      refine WC_split (fun h2 => ?_) (fun h2 => ?_) <;> simp only [h2, go_sem, ↓reduceIte, zA, zB, zC, zD, zE, zF, reduceCtorEq, zG, zH, zI, zJ, zK, zL, zM, zN, zO, zP] <;> (try simp only [beq_iff_eq, beq_eq_false_iff_ne, bne_iff_ne, ne_eq, decide_eq_true_eq, decide_eq_false_iff_not, Bool.not_true, Bool.not_false, Bool.not_eq_true, Bool.not_eq_false, bne_eq_false_iff_eq, Decidable.not_not] at h2)
      omega
    rw [if_neg hq]
    have q1 : decide (o.a < 1) = false := by simp; omega
    have q2 : decide (o.a > (s.jobs.length : Int)) = false := by simp; omega
    have hw : IntKind.i64.wrap (o.a - 1) = o.a - 1 := wrap_in (by omega) (by omega)
    have q3 : 0 ≤ o.a - 1 := by omega
    obtain ⟨k, hkq⟩ : ∃ k : Nat, (o.a - 1).toNat = k := ⟨_, rfl⟩
    have hkl : k < s.jobs.length := by omega
    have hg := get_mapD (f := jobR) zeroJob hkl
    have hJ : jobA s o.a = s.jobs.getD k zeroJob := by unfold jobA; rw [hkq]
    rw [hJ]
    generalize s.jobs.getD k zeroJob = j at *
    simp only [q1, q2, q3, hw, hkq, hg, hk, go_sem, ↓reduceIte, zA, zB, zC, zD, zE, zF, reduceCtorEq, zG, zH, zI, zJ, zK, zL, zM, zN, zO, zP]
    have hv : (decide (o.b ≥ 1) = true ∧ decide (o.b ≤ 9) = true) ∨ (decide (o.b ≥ 1) = true ∧ decide (o.b ≤ 9) = false) ∨ (decide (o.b ≥ 1) = false ∧ decide (o.b ≤ 9) = true) := by
      simp only [decide_eq_true_eq, decide_eq_false_iff_not]; omega
    rcases hv with ⟨hv1, hv2⟩ | ⟨hv1, hv2⟩ | ⟨hv1, hv2⟩
    all_goals
      simp only [hv1, hv2, hk, go_sem, ↓reduceIte, zA, zB, zC, zD, zE, zF, reduceCtorEq, zG, zH, zI, zJ, zK, zL, zM, zN, zO, zP]
      simp only [ge_iff_le, decide_eq_true_eq, decide_eq_false_iff_not] at hv1 hv2
      have hrn : runsB j = decide (j.phase = 2 ∨ j.phase = 3) := by unfold runsB; rw [Bool.eq_iff_iff]; simp
      rw [hrn]
      simp only [decide_eq_false_iff_not]
      repeat' (first | ((first | with_reducible refine WG_splitn (fun h => ?_) (fun h => ?_) | refine WG_split (fun h => ?_) (fun h => ?_)) <;> simp only [h, go_sem, ↓reduceIte, zA, zB, zC, zD, zE, zF, reduceCtorEq, zG, zH, zI, zJ, zK, zL, zM, zN, zO, zP] <;> (try simp only [beq_iff_eq, beq_eq_false_iff_ne, bne_iff_ne, ne_eq, decide_eq_true_eq, decide_eq_false_iff_not, Bool.not_true, Bool.not_false, Bool.not_eq_true, Bool.not_eq_false, bne_eq_false_iff_eq, Decidable.not_not] at h)) | ((first | with_reducible refine WC_splitn (fun h => ?_) (fun h => ?_) | refine WC_split (fun h => ?_) (fun h => ?_)) <;> simp only [h, go_sem, ↓reduceIte, zA, zB, zC, zD, zE, zF, reduceCtorEq, zG, zH, zI, zJ, zK, zL, zM, zN, zO, zP] <;> (try simp only [beq_iff_eq, beq_eq_false_iff_ne, bne_iff_ne, ne_eq, decide_eq_true_eq, decide_eq_false_iff_not, Bool.not_true, Bool.not_false, Bool.not_eq_true, Bool.not_eq_false, bne_eq_false_iff_eq, Decidable.not_not] at h)))
      all_goals (first | omega | (repeat (first | rw [if_pos (by omega)] | rw [if_neg (by omega)])))
  · rw [why_14 ho hk]
    simp only [hk, go_sem, ↓reduceIte, zA, zB, zC, zD, zE, zF, reduceCtorEq, zG, zH, zI, zJ, zK, zL, zM, zN, zO, zP]
    by_cases hq : o.a < 1 ∨ (s.jobs.length : Int) < o.a
    · rw [if_pos hq]
      refine WG_split (fun h1 => ?_) (fun h1 => ?_) <;> simp only [h1, go_sem, ↓reduceIte, zA, zB, zC, zD, zE, zF, reduceCtorEq, zG, zH, zI, zJ, zK, zL, zM, zN, zO, zP] <;> (try simp only [beq_iff_eq, beq_eq_false_iff_ne, bne_iff_ne, ne_eq, decide_eq_true_eq, decide_eq_false_iff_not, Bool.not_true, Bool.not_false, Bool.not_eq_true, Bool.not_eq_false, bne_eq_false_iff_eq, Decidable.not_not] at h1)
      refine WC_split (fun h2 => ?_) (fun h2 => ?_) <;> simp only [h2, go_sem, ↓reduceIte, zA, zB, zC, zD, zE, zF, reduceCtorEq, zG, zH, zI, zJ, zK, zL, zM, zN, zO, zP] <;> (try simp only [beq_iff_eq, beq_eq_false_iff_ne, bne_iff_ne, ne_eq, decide_eq_true_eq, decide_eq_false_iff_not, Bool.not_true, Bool.not_false, Bool.not_eq_true, Bool.not_eq_false, bne_eq_false_iff_eq, Decidable.not_not] at h2)
      omega
    rw [if_neg hq]
    have q1 : decide (o.a < 1) = false := by simp; omega
    have q2 : decide (o.a > (s.jobs.length : Int)) = false := by simp; omega
    have hw : IntKind.i64.wrap (o.a - 1) = o.a - 1 := wrap_in (by omega) (by omega)
    have q3 : 0 ≤ o.a - 1 := by omega
    obtain ⟨k, hkq⟩ : ∃ k : Nat, (o.a - 1).toNat = k := ⟨_, rfl⟩
    have hkl : k < s.jobs.length := by omega
    have hg := get_mapD (f := jobR) zeroJob hkl
    have hJ : jobA s o.a = s.jobs.getD k zeroJob := by unfold jobA; rw [hkq]
    rw [hJ]
    generalize s.jobs.getD k zeroJob = j at *
    simp only [q1, q2, q3, hw, hkq, hg, hk, go_sem, ↓reduceIte, zA, zB, zC, zD, zE, zF, reduceCtorEq, zG, zH, zI, zJ, zK, zL, zM, zN, zO, zP]
    have hv : (decide (o.b ≥ 1) = true ∧ decide (o.b ≤ 9) = true) ∨ (decide (o.b ≥ 1) = true ∧ decide (o.b ≤ 9) = false) ∨ (decide (o.b ≥ 1) = false ∧ decide (o.b ≤ 9) = true) := by
      simp only [decide_eq_true_eq, decide_eq_false_iff_not]; omega
    rcases hv with ⟨hv1, hv2⟩ | ⟨hv1, hv2⟩ | ⟨hv1, hv2⟩
    all_goals
      simp only [hv1, hv2, hk, go_sem, ↓reduceIte, zA, zB, zC, zD, zE, zF, reduceCtorEq, zG, zH, zI, zJ, zK, zL, zM, zN, zO, zP]
      simp only [ge_iff_le, decide_eq_true_eq, decide_eq_false_iff_not] at hv1 hv2
      repeat' (first | ((first | with_reducible refine WG_splitn (fun h => ?_) (fun h => ?_) | refine WG_split (fun h => ?_) (fun h => ?_)) <;> simp only [h, go_sem, ↓reduceIte, zA, zB, zC, zD, zE, zF, reduceCtorEq, zG, zH, zI, zJ, zK, zL, zM, zN, zO, zP] <;> (try simp only [beq_iff_eq, beq_eq_false_iff_ne, bne_iff_ne, ne_eq, decide_eq_true_eq, decide_eq_false_iff_not, Bool.not_true, Bool.not_false, Bool.not_eq_true, Bool.not_eq_false, bne_eq_false_iff_eq, Decidable.not_not] at h)) | ((first | with_reducible refine WC_splitn (fun h => ?_) (fun h => ?_) | refine WC_split (fun h => ?_) (fun h => ?_)) <;> simp only [h, go_sem, ↓reduceIte, zA, zB, zC, zD, zE, zF, reduceCtorEq, zG, zH, zI, zJ, zK, zL, zM, zN, zO, zP] <;> (try simp only [beq_iff_eq, beq_eq_false_iff_ne, bne_iff_ne, ne_eq, decide_eq_true_eq, decide_eq_false_iff_not, Bool.not_true, Bool.not_false, Bool.not_eq_true, Bool.not_eq_false, bne_eq_false_iff_eq, Decidable.not_not] at h)))
      all_goals (first | omega | (repeat (first | rw [if_pos (by omega)] | rw [if_neg (by omega)])))
  · rw [why_15 ho hk]
    simp only [hk, go_sem, ↓reduceIte, zA, zB, zC, zD, zE, zF, reduceCtorEq, zG, zH, zI, zJ, zK, zL, zM, zN, zO, zP]
    by_cases hq : o.a < 1 ∨ (s.jobs.length : Int) < o.a
    · rw [if_pos hq]
      refine WG_split (fun h1 => ?_) (fun h1 => ?_) <;> simp only [h1, go_sem, ↓reduceIte, zA, zB, zC, zD, zE, zF, reduceCtorEq, zG, zH, zI, zJ, zK, zL, zM, zN, zO, zP] <;> (try simp only [beq_iff_eq, beq_eq_false_iff_ne, bne_iff_ne, ne_eq, decide_eq_true_eq, decide_eq_false_iff_not, Bool.not_true, Bool.not_false, Bool.not_eq_true, Bool.not_eq_false, bne_eq_false_iff_eq, Decidable.not_not] at h1)
      refine WC_split (fun h2 => ?_) (fun h2 => ?_) <;> simp only [h2, go_sem, ↓reduceIte, zA, zB, zC, zD, zE, zF, reduceCtorEq, zG, zH, zI, zJ, zK, zL, zM, zN, zO, zP] <;> (try simp only [beq_iff_eq, beq_eq_false_iff_ne, bne_iff_ne, ne_eq, decide_eq_true_eq, decide_eq_false_iff_not, Bool.not_true, Bool.not_false, Bool.not_eq_true, Bool.not_eq_false, bne_eq_false_iff_eq, Decidable.not_not] at h2)
      omega
    rw [if_neg hq]
    have q1 : decide (o.a < 1) = false := by simp; omega
    have q2 : decide (o.a > (s.jobs.length : Int)) = false := by simp; omega
    have hw : IntKind.i64.wrap (o.a - 1) = o.a - 1 := wrap_in (by omega) (by omega)
    have q3 : 0 ≤ o.a - 1 := by omega
    obtain ⟨k, hkq⟩ : ∃ k : Nat, (o.a - 1).toNat = k := ⟨_, rfl⟩
    have hkl : k < s.jobs.length := by omega
    have hg := get_mapD (f := jobR) zeroJob hkl
    have hJ : jobA s o.a = s.jobs.getD k zeroJob := by unfold jobA; rw [hkq]
    rw [hJ]
    generalize s.jobs.getD k zeroJob = j at *
    simp only [q1, q2, q3, hw, hkq, hg, hk, go_sem, ↓reduceIte, zA, zB, zC, zD, zE, zF, reduceCtorEq, zG, zH, zI, zJ, zK, zL, zM, zN, zO, zP]
    have hv : (decide (o.b ≥ 1) = true ∧ decide (o.b ≤ 9) = true) ∨ (decide (o.b ≥ 1) = true ∧ decide (o.b ≤ 9) = false) ∨ (decide (o.b ≥ 1) = false ∧ decide (o.b ≤ 9) = true) := by
      simp only [decide_eq_true_eq, decide_eq_false_iff_not]; omega
    rcases hv with ⟨hv1, hv2⟩ | ⟨hv1, hv2⟩ | ⟨hv1, hv2⟩
    all_goals
      simp only [hv1, hv2, hk, go_sem, ↓reduceIte, zA, zB, zC, zD, zE, zF, reduceCtorEq, zG, zH, zI, zJ, zK, zL, zM, zN, zO, zP]
      simp only [ge_iff_le, decide_eq_true_eq, decide_eq_false_iff_not] at hv1 hv2
      have hrn : runsB j = decide (j.phase = 2 ∨ j.phase = 3) := by unfold runsB; rw [Bool.eq_iff_iff]; simp
      rw [hrn]
      simp only [decide_eq_false_iff_not]
      repeat' (first | ((first | with_reducible refine WG_splitn (fun h => ?_) (fun h => ?_) | refine WG_split (fun h => ?_) (fun h => ?_)) <;> simp only [h, go_sem, ↓reduceIte, zA, zB, zC, zD, zE, zF, reduceCtorEq, zG, zH, zI, zJ, zK, zL, zM, zN, zO, zP] <;> (try simp only [beq_iff_eq, beq_eq_false_iff_ne, bne_iff_ne, ne_eq, decide_eq_true_eq, decide_eq_false_iff_not, Bool.not_true, Bool.not_false, Bool.not_eq_true, Bool.not_eq_false, bne_eq_false_iff_eq, Decidable.not_not] at h)) | ((first | with_reducible refine WC_splitn (fun h => ?_) (fun h => ?_) | refine WC_split (fun h => ?_) (fun h => ?_)) <;> simp only [h, go_sem, ↓reduceIte, zA, zB, zC, zD, zE, zF, reduceCtorEq, zG, zH, zI, zJ, zK, zL, zM, zN, zO, zP] <;> (try simp only [beq_iff_eq, beq_eq_false_iff_ne, bne_iff_ne, ne_eq, decide_eq_true_eq, decide_eq_false_iff_not, Bool.not_true, Bool.not_false, Bool.not_eq_true, Bool.not_eq_false, bne_eq_false_iff_eq, Decidable.not_not] at h)))
      all_goals (first | omega | (repeat (first | rw [if_pos (by omega)] | rw [if_neg (by omega)])))
  · rw [why_16 ho hk]
    simp only [hk, go_sem, ↓reduceIte, zA, zB, zC, zD, zE, zF, reduceCtorEq, zG, zH, zI, zJ, zK, zL, zM, zN, zO, zP]
    by_cases hq : (s.nodes.length : Int) ≤ o.a
    · rw [if_pos hq]
      have q1 : decide (o.a ≥ (s.nodes.length : Int)) = true := by simpa using hq
      simp only [q1, go_sem, ↓reduceIte, zA, zB, zC, zD, zE, zF, reduceCtorEq, zG, zH, zI, zJ, zK, zL, zM, zN, zO, zP]
    rw [if_neg hq]
    have q1 : decide (o.a ≥ (s.nodes.length : Int)) = false := by simp; omega
    have q3 : 0 ≤ o.a := hka.1
    obtain ⟨i, hiq⟩ : ∃ i : Nat, o.a.toNat = i := ⟨_, rfl⟩
    have hil : i < s.nodes.length := by omega
    have hg := get_mapD (f := nodeR) zeroNode hil
    have hN : nodeA s o.a = s.nodes.getD i zeroNode := by unfold nodeA; rw [hiq]
    rw [hN]
    generalize s.nodes.getD i zeroNode = n at *
    simp only [q1, q3, hiq, hg, hk, go_sem, ↓reduceIte, zA, zB, zC, zD, zE, zF, reduceCtorEq, zG, zH, zI, zJ, zK, zL, zM, zN, zO, zP]
    have hv : (decide (o.b ≥ 1) = true ∧ decide (o.b ≤ 9) = true) ∨ (decide (o.b ≥ 1) = true ∧ decide (o.b ≤ 9) = false) ∨ (decide (o.b ≥ 1) = false ∧ decide (o.b ≤ 9) = true) := by
      simp only [decide_eq_true_eq, decide_eq_false_iff_not]; omega
    rcases hv with ⟨hv1, hv2⟩ | ⟨hv1, hv2⟩ | ⟨hv1, hv2⟩
    all_goals
      simp only [hv1, hv2, hk, go_sem, ↓reduceIte, zA, zB, zC, zD, zE, zF, reduceCtorEq, zG, zH, zI, zJ, zK, zL, zM, zN, zO, zP]
      simp only [ge_iff_le, decide_eq_true_eq, decide_eq_false_iff_not] at hv1 hv2
      cases hu : n.up <;> cases hc : n.cordon <;> simp only [hu, hc, hg, hk, Bool.true_eq_false, go_sem, ↓reduceIte, zA, zB, zC, zD, zE, zF, reduceCtorEq, zG, zH, zI, zJ, zK, zL, zM, zN, zO, zP]
  · rw [why_17 ho hk]
    simp only [hk, go_sem, ↓reduceIte, zA, zB, zC, zD, zE, zF, reduceCtorEq, zG, zH, zI, zJ, zK, zL, zM, zN, zO, zP]
    by_cases hq : (s.nodes.length : Int) ≤ o.a
    · rw [if_pos hq]
      have q1 : decide (o.a ≥ (s.nodes.length : Int)) = true := by simpa using hq
      simp only [q1, go_sem, ↓reduceIte, zA, zB, zC, zD, zE, zF, reduceCtorEq, zG, zH, zI, zJ, zK, zL, zM, zN, zO, zP]
    rw [if_neg hq]
    have q1 : decide (o.a ≥ (s.nodes.length : Int)) = false := by simp; omega
    have q3 : 0 ≤ o.a := hka.1
    obtain ⟨i, hiq⟩ : ∃ i : Nat, o.a.toNat = i := ⟨_, rfl⟩
    have hil : i < s.nodes.length := by omega
    have hg := get_mapD (f := nodeR) zeroNode hil
    have hN : nodeA s o.a = s.nodes.getD i zeroNode := by unfold nodeA; rw [hiq]
    rw [hN]
    generalize s.nodes.getD i zeroNode = n at *
    simp only [q1, q3, hiq, hg, hk, go_sem, ↓reduceIte, zA, zB, zC, zD, zE, zF, reduceCtorEq, zG, zH, zI, zJ, zK, zL, zM, zN, zO, zP]
    have hv : (decide (o.b ≥ 1) = true ∧ decide (o.b ≤ 9) = true) ∨ (decide (o.b ≥ 1) = true ∧ decide (o.b ≤ 9) = false) ∨ (decide (o.b ≥ 1) = false ∧ decide (o.b ≤ 9) = true) := by
      simp only [decide_eq_true_eq, decide_eq_false_iff_not]; omega
    rcases hv with ⟨hv1, hv2⟩ | ⟨hv1, hv2⟩ | ⟨hv1, hv2⟩
    all_goals
      simp only [hv1, hv2, hk, go_sem, ↓reduceIte, zA, zB, zC, zD, zE, zF, reduceCtorEq, zG, zH, zI, zJ, zK, zL, zM, zN, zO, zP]
      simp only [ge_iff_le, decide_eq_true_eq, decide_eq_false_iff_not] at hv1 hv2
      cases hu : n.moving <;> cases hc : n.cordon <;> simp only [hu, hc, hg, hk, Bool.true_eq_false, go_sem, ↓reduceIte, zA, zB, zC, zD, zE, zF, reduceCtorEq, zG, zH, zI, zJ, zK, zL, zM, zN, zO, zP]
  · rw [why_18 ho hk]
    simp only [hk, go_sem, ↓reduceIte, zA, zB, zC, zD, zE, zF, reduceCtorEq, zG, zH, zI, zJ, zK, zL, zM, zN, zO, zP]
    by_cases hq : (s.nodes.length : Int) ≤ o.a
    · rw [if_pos hq]
      have q1 : decide (o.a ≥ (s.nodes.length : Int)) = true := by simpa using hq
      simp only [q1, go_sem, ↓reduceIte, zA, zB, zC, zD, zE, zF, reduceCtorEq, zG, zH, zI, zJ, zK, zL, zM, zN, zO, zP]
    rw [if_neg hq]
    have q1 : decide (o.a ≥ (s.nodes.length : Int)) = false := by simp; omega
    have q3 : 0 ≤ o.a := hka.1
    obtain ⟨i, hiq⟩ : ∃ i : Nat, o.a.toNat = i := ⟨_, rfl⟩
    have hil : i < s.nodes.length := by omega
    have hg := get_mapD (f := nodeR) zeroNode hil
    have hN : nodeA s o.a = s.nodes.getD i zeroNode := by unfold nodeA; rw [hiq]
    rw [hN]
    generalize s.nodes.getD i zeroNode = n at *
    simp only [q1, q3, hiq, hg, hk, go_sem, ↓reduceIte, zA, zB, zC, zD, zE, zF, reduceCtorEq, zG, zH, zI, zJ, zK, zL, zM, zN, zO, zP]
    have hv : (decide (o.b ≥ 1) = true ∧ decide (o.b ≤ 9) = true) ∨ (decide (o.b ≥ 1) = true ∧ decide (o.b ≤ 9) = false) ∨ (decide (o.b ≥ 1) = false ∧ decide (o.b ≤ 9) = true) := by
      simp only [decide_eq_true_eq, decide_eq_false_iff_not]; omega
    rcases hv with ⟨hv1, hv2⟩ | ⟨hv1, hv2⟩ | ⟨hv1, hv2⟩
    all_goals
      simp only [hv1, hv2, hk, go_sem, ↓reduceIte, zA, zB, zC, zD, zE, zF, reduceCtorEq, zG, zH, zI, zJ, zK, zL, zM, zN, zO, zP]
      simp only [ge_iff_le, decide_eq_true_eq, decide_eq_false_iff_not] at hv1 hv2
      have e : (n.job == 0) = decide (n.job = 0) := rfl
      cases hu : n.up <;> cases hc : n.cordon <;> cases hm : n.moving <;> cases hz : decide (n.job = 0) <;> simp only [hu, hc, hm, e, hz, hg, hk, Bool.true_eq_false, go_sem, ↓reduceIte, zA, zB, zC, zD, zE, zF, reduceCtorEq, zG, zH, zI, zJ, zK, zL, zM, zN, zO, zP]
  · rw [why_19 ho hk]
    simp only [hk, go_sem, ↓reduceIte, zA, zB, zC, zD, zE, zF, reduceCtorEq, zG, zH, zI, zJ, zK, zL, zM, zN, zO, zP]
    by_cases hq : (s.nodes.length : Int) ≤ o.a
    · rw [if_pos hq]
      have q1 : decide (o.a ≥ (s.nodes.length : Int)) = true := by simpa using hq
      simp only [q1, go_sem, ↓reduceIte, zA, zB, zC, zD, zE, zF, reduceCtorEq, zG, zH, zI, zJ, zK, zL, zM, zN, zO, zP]
    rw [if_neg hq]
    have q1 : decide (o.a ≥ (s.nodes.length : Int)) = false := by simp; omega
    have q3 : 0 ≤ o.a := hka.1
    obtain ⟨i, hiq⟩ : ∃ i : Nat, o.a.toNat = i := ⟨_, rfl⟩
    have hil : i < s.nodes.length := by omega
    have hg := get_mapD (f := nodeR) zeroNode hil
    have hN : nodeA s o.a = s.nodes.getD i zeroNode := by unfold nodeA; rw [hiq]
    rw [hN]
    generalize s.nodes.getD i zeroNode = n at *
    simp only [q1, q3, hiq, hg, hk, go_sem, ↓reduceIte, zA, zB, zC, zD, zE, zF, reduceCtorEq, zG, zH, zI, zJ, zK, zL, zM, zN, zO, zP]
    have hv : (decide (o.b ≥ 1) = true ∧ decide (o.b ≤ 9) = true) ∨ (decide (o.b ≥ 1) = true ∧ decide (o.b ≤ 9) = false) ∨ (decide (o.b ≥ 1) = false ∧ decide (o.b ≤ 9) = true) := by
      simp only [decide_eq_true_eq, decide_eq_false_iff_not]; omega
    rcases hv with ⟨hv1, hv2⟩ | ⟨hv1, hv2⟩ | ⟨hv1, hv2⟩
    all_goals
      simp only [hv1, hv2, hk, go_sem, ↓reduceIte, zA, zB, zC, zD, zE, zF, reduceCtorEq, zG, zH, zI, zJ, zK, zL, zM, zN, zO, zP]
      simp only [ge_iff_le, decide_eq_true_eq, decide_eq_false_iff_not] at hv1 hv2
      unfold withinB
      simp only [decide_eq_false_iff_not]
      cases hu : n.moving <;> simp only [hu, Bool.true_eq_false, hg, hk, go_sem, ↓reduceIte, zA, zB, zC, zD, zE, zF, reduceCtorEq, zG, zH, zI, zJ, zK, zL, zM, zN, zO, zP]
      repeat' (first | ((first | with_reducible refine WG_splitn (fun h => ?_) (fun h => ?_) | refine WG_split (fun h => ?_) (fun h => ?_)) <;> simp only [h, go_sem, ↓reduceIte, zA, zB, zC, zD, zE, zF, reduceCtorEq, zG, zH, zI, zJ, zK, zL, zM, zN, zO, zP] <;> (try simp only [beq_iff_eq, beq_eq_false_iff_ne, bne_iff_ne, ne_eq, decide_eq_true_eq, decide_eq_false_iff_not, Bool.not_true, Bool.not_false, Bool.not_eq_true, Bool.not_eq_false, bne_eq_false_iff_eq, Decidable.not_not] at h)) | ((first | with_reducible refine WC_splitn (fun h => ?_) (fun h => ?_) | refine WC_split (fun h => ?_) (fun h => ?_)) <;> simp only [h, go_sem, ↓reduceIte, zA, zB, zC, zD, zE, zF, reduceCtorEq, zG, zH, zI, zJ, zK, zL, zM, zN, zO, zP] <;> (try simp only [beq_iff_eq, beq_eq_false_iff_ne, bne_iff_ne, ne_eq, decide_eq_true_eq, decide_eq_false_iff_not, Bool.not_true, Bool.not_false, Bool.not_eq_true, Bool.not_eq_false, bne_eq_false_iff_eq, Decidable.not_not] at h)))
      all_goals (first | omega | (repeat (first | rw [if_pos (by omega)] | rw [if_neg (by omega)])))
  · rw [why_20 ho hk]
    simp only [hk, go_sem, ↓reduceIte, zA, zB, zC, zD, zE, zF, reduceCtorEq, zG, zH, zI, zJ, zK, zL, zM, zN, zO, zP]
    by_cases hq : o.a < 1 ∨ (s.jobs.length : Int) < o.a
    · rw [if_pos hq]
      refine WG_split (fun h1 => ?_) (fun h1 => ?_) <;> simp only [h1, go_sem, ↓reduceIte, zA, zB, zC, zD, zE, zF, reduceCtorEq, zG, zH, zI, zJ, zK, zL, zM, zN, zO, zP] <;> (try simp only [beq_iff_eq, beq_eq_false_iff_ne, bne_iff_ne, ne_eq, decide_eq_true_eq, decide_eq_false_iff_not, Bool.not_true, Bool.not_false, Bool.not_eq_true, Bool.not_eq_false, bne_eq_false_iff_eq, Decidable.not_not] at h1)
      refine WC_split (fun h2 => ?_) (fun h2 => ?_) <;> simp only [h2, go_sem, ↓reduceIte, zA, zB, zC, zD, zE, zF, reduceCtorEq, zG, zH, zI, zJ, zK, zL, zM, zN, zO, zP] <;> (try simp only [beq_iff_eq, beq_eq_false_iff_ne, bne_iff_ne, ne_eq, decide_eq_true_eq, decide_eq_false_iff_not, Bool.not_true, Bool.not_false, Bool.not_eq_true, Bool.not_eq_false, bne_eq_false_iff_eq, Decidable.not_not] at h2)
      omega
    rw [if_neg hq]
    have q1 : decide (o.a < 1) = false := by simp; omega
    have q2 : decide (o.a > (s.jobs.length : Int)) = false := by simp; omega
    have hw : IntKind.i64.wrap (o.a - 1) = o.a - 1 := wrap_in (by omega) (by omega)
    have q3 : 0 ≤ o.a - 1 := by omega
    obtain ⟨k, hkq⟩ : ∃ k : Nat, (o.a - 1).toNat = k := ⟨_, rfl⟩
    have hkl : k < s.jobs.length := by omega
    have hg := get_mapD (f := jobR) zeroJob hkl
    have hJ : jobA s o.a = s.jobs.getD k zeroJob := by unfold jobA; rw [hkq]
    rw [hJ]
    generalize s.jobs.getD k zeroJob = j at *
    simp only [q1, q2, q3, hw, hkq, hg, hk, go_sem, ↓reduceIte, zA, zB, zC, zD, zE, zF, reduceCtorEq, zG, zH, zI, zJ, zK, zL, zM, zN, zO, zP]
    have hv : (decide (o.b ≥ 1) = true ∧ decide (o.b ≤ 9) = true) ∨ (decide (o.b ≥ 1) = true ∧ decide (o.b ≤ 9) = false) ∨ (decide (o.b ≥ 1) = false ∧ decide (o.b ≤ 9) = true) := by
      simp only [decide_eq_true_eq, decide_eq_false_iff_not]; omega
    rcases hv with ⟨hv1, hv2⟩ | ⟨hv1, hv2⟩ | ⟨hv1, hv2⟩
    all_goals
      simp only [hv1, hv2, hk, go_sem, ↓reduceIte, zA, zB, zC, zD, zE, zF, reduceCtorEq, zG, zH, zI, zJ, zK, zL, zM, zN, zO, zP]
      simp only [ge_iff_le, decide_eq_true_eq, decide_eq_false_iff_not] at hv1 hv2
      obtain ⟨b, hb⟩ := Int.eq_ofNat_of_zero_le hkb.1
      simp only [hb, Int.toNat_natCast, go_sem, ↓reduceIte, zA, zB, zC, zD, zE, zF, reduceCtorEq, zG, zH, zI, zJ, zK, zL, zM, zN, zO, zP]
      refine WC_split (fun h0 => ?_) (fun h0 => ?_) <;> simp only [h0, go_sem, ↓reduceIte, zA, zB, zC, zD, zE, zF, reduceCtorEq, zG, zH, zI, zJ, zK, zL, zM, zN, zO, zP] <;> (try simp only [beq_iff_eq, beq_eq_false_iff_ne, bne_iff_ne, ne_eq, decide_eq_true_eq, decide_eq_false_iff_not, Bool.not_true, Bool.not_false, Bool.not_eq_true, Bool.not_eq_false, bne_eq_false_iff_eq, Decidable.not_not] at h0)
      · rw [if_pos (by omega)]
      rw [if_neg (by omega)]
      refine WC_splitn (fun h1 => ?_) (fun h1 => ?_) <;> simp only [h1, go_sem, ↓reduceIte, zA, zB, zC, zD, zE, zF, reduceCtorEq, zG, zH, zI, zJ, zK, zL, zM, zN, zO, zP] <;> (try simp only [beq_iff_eq, beq_eq_false_iff_ne, bne_iff_ne, ne_eq, decide_eq_true_eq, decide_eq_false_iff_not, Bool.not_true, Bool.not_false, Bool.not_eq_true, Bool.not_eq_false, bne_eq_false_iff_eq, Decidable.not_not] at h1)
      · rw [if_pos (by omega)]
      rw [if_neg (by omega)]
      refine WD_calld (has9_tri j.nodes b (by omega)) rfl rfl rfl rfl ?_; simp only [go_sem, ↓reduceIte, zA, zB, zC, zD, zE, zF, reduceCtorEq, zG, zH, zI, zJ, zK, zL, zM, zN, zO, zP]
      cases hh : hasB j.nodes b with
      | false => simp only [true_or, go_sem, ↓reduceIte, zA, zB, zC, zD, zE, zF, reduceCtorEq, zG, zH, zI, zJ, zK, zL, zM, zN, zO, zP]
      | true =>
      simp only [Bool.true_eq_false, false_or, go_sem, ↓reduceIte, zA, zB, zC, zD, zE, zF, reduceCtorEq, zG, zH, zI, zJ, zK, zL, zM, zN, zO, zP]
      refine WD_calld (many9_tri j.nodes) rfl rfl rfl rfl ?_; simp only [go_sem, ↓reduceIte, zA, zB, zC, zD, zE, zF, reduceCtorEq, zG, zH, zI, zJ, zK, zL, zM, zN, zO, zP]
      repeat' (first | ((first | with_reducible refine WG_splitn (fun h => ?_) (fun h => ?_) | refine WG_split (fun h => ?_) (fun h => ?_)) <;> simp only [h, go_sem, ↓reduceIte, zA, zB, zC, zD, zE, zF, reduceCtorEq, zG, zH, zI, zJ, zK, zL, zM, zN, zO, zP] <;> (try simp only [beq_iff_eq, beq_eq_false_iff_ne, bne_iff_ne, ne_eq, decide_eq_true_eq, decide_eq_false_iff_not, Bool.not_true, Bool.not_false, Bool.not_eq_true, Bool.not_eq_false, bne_eq_false_iff_eq, Decidable.not_not] at h)) | ((first | with_reducible refine WC_splitn (fun h => ?_) (fun h => ?_) | refine WC_split (fun h => ?_) (fun h => ?_)) <;> simp only [h, go_sem, ↓reduceIte, zA, zB, zC, zD, zE, zF, reduceCtorEq, zG, zH, zI, zJ, zK, zL, zM, zN, zO, zP] <;> (try simp only [beq_iff_eq, beq_eq_false_iff_ne, bne_iff_ne, ne_eq, decide_eq_true_eq, decide_eq_false_iff_not, Bool.not_true, Bool.not_false, Bool.not_eq_true, Bool.not_eq_false, bne_eq_false_iff_eq, Decidable.not_not] at h)))
      all_goals (first | omega | (repeat (first | rw [if_pos (by omega)] | rw [if_neg (by omega)])))
  · rw [why_21 ho hk]
    simp only [hk, go_sem, ↓reduceIte, zA, zB, zC, zD, zE, zF, reduceCtorEq, zG, zH, zI, zJ, zK, zL, zM, zN, zO, zP]
    repeat' (first | ((first | with_reducible refine WG_splitn (fun h => ?_) (fun h => ?_) | refine WG_split (fun h => ?_) (fun h => ?_)) <;> simp only [h, go_sem, ↓reduceIte, zA, zB, zC, zD, zE, zF, reduceCtorEq, zG, zH, zI, zJ, zK, zL, zM, zN, zO, zP] <;> (try simp only [beq_iff_eq, beq_eq_false_iff_ne, bne_iff_ne, ne_eq, decide_eq_true_eq, decide_eq_false_iff_not, Bool.not_true, Bool.not_false, Bool.not_eq_true, Bool.not_eq_false, bne_eq_false_iff_eq, Decidable.not_not] at h)) | ((first | with_reducible refine WC_splitn (fun h => ?_) (fun h => ?_) | refine WC_split (fun h => ?_) (fun h => ?_)) <;> simp only [h, go_sem, ↓reduceIte, zA, zB, zC, zD, zE, zF, reduceCtorEq, zG, zH, zI, zJ, zK, zL, zM, zN, zO, zP] <;> (try simp only [beq_iff_eq, beq_eq_false_iff_ne, bne_iff_ne, ne_eq, decide_eq_true_eq, decide_eq_false_iff_not, Bool.not_true, Bool.not_false, Bool.not_eq_true, Bool.not_eq_false, bne_eq_false_iff_eq, Decidable.not_not] at h)))
    all_goals (first | omega | (repeat (first | rw [if_pos (by omega)] | rw [if_neg (by omega)])))
end Dv
