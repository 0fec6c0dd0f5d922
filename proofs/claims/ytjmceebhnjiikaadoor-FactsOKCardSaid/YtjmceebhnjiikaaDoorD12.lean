/- The book's work: hold and shrink. -/
import Derived.Test.YtjmceebhnjiikaaDoorD11
set_option linter.unusedVariables false
set_option linter.unusedSimpArgs false
namespace Dv
open Go Go.Proofs
open Nat renaming reduceEqDiff → zA, reduceAdd → zB, reduceSub → zC, reduceMul → zD, reduceLT → zE, reduceLeDiff → zF
open Int renaming reduceLE → zG, reduceLT → zH, reduceToNat → zI, reduceBEq → zJ, reduceBNe → zK, reduceEq → zL, reduceAdd → zM, reduceSub → zN, reduceMul → zO, reduceNeg → zP
attribute [local go_sem] argEnv W_nil W_seq W_skip W_ret W_exit W_scope W_block W_blk W_reg W_regD W_cond WC_t WC_f WC_any Wx_c Wx_ops Wx_lp Wx_blk W_ops_nil W_opsD_q W_guard W_guardD WG_tt WG_ff WG_tf WG_ft WG_u WGD_tt WGD_ff WGD_tf WGD_ft WGD_u WE_some WED_some W_mv W_pick W_new W_box W_build W_bsl W_ld1 W_ldn W_st W_nck W_bin W_eqb W_not W_cvt W_fad W_fld1 W_fldn W_ixa W_ixr W_ix1 W_ixs W_len W_lens W_mkf W_ext W_app W_min W_isnp W_isns W_eqs W_neg W_ixn W_sli W_sls WD_mv WD_pick WD_new WD_box WD_build WD_bsl WD_ld1 WD_ldn WD_st WD_nck WD_bin WD_eqb WD_not WD_cvt WD_fad WD_fld1 WD_fldn WD_ixa WD_ixr WD_ix1 WD_ixs WD_len WD_lens WD_mkf WD_ext WD_app WD_min WD_isnp WD_isns WD_eqs WD_neg WD_ixn WD_sli WD_sls effF Opd.ev getE putE binV LV.int LV.bool LV.undef Go.undef LV.cells LV.toD LV.toDs splice fillL rowsOf srcRows updL objL Eff.owned nwp St.get St.obj St.put Value.oneCell' Ends adopt Ad.ap isNil St.keep St.okKeep okObj idl idlL idlO RVs.of RV.of oneOr Ends0 EndsO_iff frzs rn rnL rnO piOf eqCells eqV boundV Option.map_some Option.map_none List.append_nil List.nil_append List.cons_append List.map_nil List.map_cons List.length_nil List.length_cons List.set_cons_zero List.set_cons_succ List.take_succ_cons List.take_zero List.take_nil List.drop_succ_cons List.drop_zero List.drop_nil List.getElem?_cons_zero List.getElem?_cons_succ List.getElem?_nil List.isEmpty_nil List.isEmpty_cons List.all_cons List.all_nil List.isEmpty_nil cond_true cond_false Bool.true_and Bool.false_and Bool.and_true Bool.and_false Bool.not_true Bool.not_false Bool.or_true Bool.true_or Bool.or_false Bool.false_or true_and and_true true_or or_true Option.some.injEq LV.d.injEq DV.val.injEq Value.bool.injEq Value.int.injEq decide_true decide_false and_self Nat.zero_add Nat.add_zero if_true if_false Int.toNat_zero beq_self_eq_true Nat.zero_lt_succ Int.toNat_natCast Int.natCast_nonneg List.length_map i64 bl List.zip_cons_cons List.zip_nil_left List.zip_nil_right nwp confV stateV nodeV jobV nodesV jobsV opV msgV nodeR jobR opR msgR zeroOp zeroMsg msgsV
variable {G : Nat → Option (List DV)}

/-- book.work.hold -/
def ir79 : Nat × C × List RV := (100,
(.seq (.reg [⟨(some 2), .mv (.c (.val (.int .i64 0))), none, []⟩])
 (.seq (.block 0 (.seq (.reg [⟨(some 5), .mv (.t 0), none, []⟩,
 ⟨(some 6), .nck (.t 5), none, []⟩,
 ⟨(some 7), .fad 22 (.t 6), none, []⟩,
 ⟨(some 8), .ld1 (.t 7), none, []⟩,
 ⟨(some 9), .nck (.t 8), none, []⟩,
 ⟨(some 10), .fad 6 (.t 9), none, []⟩,
 ⟨(some 11), .ld1 (.t 10), none, []⟩,
 ⟨(some 12), .bin .neq (.t 11) (.c (.val (.int .i64 0))), none, []⟩,
 ⟨(some 4), .mv (.t 12), none, []⟩])
 (.cond (.t 4) (.seq (.reg [⟨(some 2), .mv (.c (.val (.int .i64 5))), none, []⟩])
 .ret)
 (.seq (.regD [⟨(some 14), .mv (.t 0), none, []⟩,
 ⟨(some 15), .nck (.t 14), none, [0]⟩,
 ⟨(some 16), .fad 9 (.t 15), none, [1, 0]⟩,
 ⟨(some 17), .ldn 6 (.t 16), none, [2, 1, 0]⟩,
 ⟨(some 18), .mv (.t 0), none, []⟩,
 ⟨(some 19), .nck (.t 18), none, [4]⟩,
 ⟨(some 20), .fad 22 (.t 19), none, [5, 4]⟩,
 ⟨(some 21), .ld1 (.t 20), none, [6, 5, 4]⟩,
 ⟨(some 22), .nck (.t 21), none, [7, 6, 5, 4]⟩,
 ⟨(some 23), .ldn 12 (.t 22), none, [8, 7, 6, 5, 4]⟩,
 ⟨(some 24), .mv (.t 0), none, []⟩,
 ⟨(some 25), .nck (.t 24), none, [10]⟩,
 ⟨(some 26), .fad 15 (.t 25), none, [11, 10]⟩,
 ⟨(some 27), .fad 2 (.t 26), none, [12, 11, 10]⟩,
 ⟨(some 28), .ld1 (.t 27), none, [13, 12, 11, 10]⟩,
 ⟨(some 29), .call (.f 67) [(.t 17), (.t 23), (.t 28), (.f 30)], none, [3, 2, 1, 0, 9, 8, 7, 6, 5, 4, 14, 13, 12, 11, 10]⟩,
 ⟨(some 30), .not (.t 29), none, [15, 3, 2, 1, 0, 9, 8, 7, 6, 5, 4, 14, 13, 12, 11, 10]⟩,
 ⟨(some 31), .mv (.t 30), none, [16, 15, 3, 2, 1, 0, 9, 8, 7, 6, 5, 4, 14, 13, 12, 11, 10]⟩,
 ⟨(some 32), .mv (.t 0), (some (31, false)), [17, 16, 15, 3, 2, 1, 0, 9, 8, 7, 6, 5, 4, 14, 13, 12, 11, 10]⟩,
 ⟨(some 33), .nck (.t 32), (some (31, false)), [18, 17, 16, 15, 3, 2, 1, 0, 9, 8, 7, 6, 5, 4, 14, 13, 12, 11, 10]⟩,
 ⟨(some 34), .fad 22 (.t 33), (some (31, false)), [19, 18, 17, 16, 15, 3, 2, 1, 0, 9, 8, 7, 6, 5, 4, 14, 13, 12, 11, 10]⟩,
 ⟨(some 35), .ld1 (.t 34), (some (31, false)), [20, 19, 18, 17, 16, 15, 3, 2, 1, 0, 9, 8, 7, 6, 5, 4, 14, 13, 12, 11, 10]⟩,
 ⟨(some 36), .nck (.t 35), (some (31, false)), [21, 20, 19, 18, 17, 16, 15, 3, 2, 1, 0, 9, 8, 7, 6, 5, 4, 14, 13, 12, 11, 10]⟩,
 ⟨(some 37), .fad 7 (.t 36), (some (31, false)), [22, 21, 20, 19, 18, 17, 16, 15, 3, 2, 1, 0, 9, 8, 7, 6, 5, 4, 14, 13, 12, 11, 10]⟩,
 ⟨(some 38), .ld1 (.t 37), (some (31, false)), [23, 22, 21, 20, 19, 18, 17, 16, 15, 3, 2, 1, 0, 9, 8, 7, 6, 5, 4, 14, 13, 12, 11, 10]⟩,
 ⟨(some 39), .bin .geq (.t 38) (.c (.val (.int .i64 1000000))), (some (31, false)), [24, 23, 22, 21, 20, 19, 18, 17, 16, 15, 3, 2, 1, 0, 9, 8, 7, 6, 5, 4, 14, 13, 12, 11, 10]⟩,
 ⟨(some 40), .pick (.t 31) (.c (.val (.bool true))) (.t 39), none, [17, 16, 15, 3, 2, 1, 0, 9, 8, 7, 6, 5, 4, 14, 13, 12, 11, 10, 25, 24, 23, 22, 21, 20, 19, 18]⟩,
 ⟨(some 13), .mv (.t 40), none, [26, 17, 16, 15, 3, 2, 1, 0, 9, 8, 7, 6, 5, 4, 14, 13, 12, 11, 10, 25, 24, 23, 22, 21, 20, 19, 18]⟩])
 (.cond (.t 13) (.seq (.reg [⟨(some 2), .mv (.c (.val (.int .i64 8))), none, []⟩])
 .ret)
 .skip)))))
 (.seq (.regD [⟨(some 41), .mv (.t 0), none, []⟩,
 ⟨(some 42), .nck (.t 41), none, [0]⟩,
 ⟨(some 43), .fad 22 (.t 42), none, [1, 0]⟩,
 ⟨(some 44), .ld1 (.t 43), none, [2, 1, 0]⟩,
 ⟨(some 45), .mv (.t 0), none, []⟩,
 ⟨(some 46), .nck (.t 45), none, [4]⟩,
 ⟨(some 47), .fad 22 (.t 46), none, [5, 4]⟩,
 ⟨(some 48), .ld1 (.t 47), none, [6, 5, 4]⟩,
 ⟨(some 49), .mv (.t 0), none, []⟩,
 ⟨(some 50), .nck (.t 49), none, [8]⟩,
 ⟨(some 51), .fad 15 (.t 50), none, [9, 8]⟩,
 ⟨(some 52), .fad 2 (.t 51), none, [10, 9, 8]⟩,
 ⟨(some 53), .ld1 (.t 52), none, [11, 10, 9, 8]⟩,
 ⟨(some 54), .nck (.t 44), none, [3, 2, 1, 0, 7, 6, 5, 4, 12, 11, 10, 9, 8]⟩,
 ⟨(some 55), .fad 6 (.t 54), none, [13, 3, 2, 1, 0, 7, 6, 5, 4, 12, 11, 10, 9, 8]⟩,
 ⟨none, .st 1 (.t 55) (.c (.val (.int .i64 1))), none, [14, 13, 3, 2, 1, 0, 7, 6, 5, 4, 12, 11, 10, 9, 8]⟩,
 ⟨(some 56), .nck (.t 48), none, [7, 6, 5, 4, 0, 1, 2, 3, 8, 9, 10, 11, 12, 13, 14, 15]⟩,
 ⟨(some 57), .fad 8 (.t 56), none, [16, 7, 6, 5, 4, 0, 1, 2, 3, 8, 9, 10, 11, 12, 13, 14, 15]⟩,
 ⟨none, .st 1 (.t 57) (.t 53), none, [17, 16, 7, 6, 5, 4, 0, 1, 2, 3, 8, 9, 10, 11, 12, 13, 14, 15]⟩])
 (.seq (.reg [⟨(some 58), .mv (.t 0), none, []⟩,
 ⟨(some 59), .nck (.t 58), none, []⟩,
 ⟨(some 60), .fad 22 (.t 59), none, []⟩,
 ⟨(some 61), .ld1 (.t 60), none, []⟩,
 ⟨(some 62), .nck (.t 61), none, []⟩,
 ⟨(some 63), .fad 7 (.t 62), none, []⟩,
 ⟨(some 64), .ld1 (.t 63), none, []⟩,
 ⟨(some 65), .bin .add (.t 64) (.c (.val (.int .i64 1))), none, []⟩,
 ⟨(some 66), .nck (.t 61), none, []⟩,
 ⟨(some 67), .fad 7 (.t 66), none, []⟩,
 ⟨none, .st 1 (.t 67) (.t 65), none, []⟩])
 (.seq (.seq (.reg [⟨(some 68), .mv (.t 0), none, []⟩,
 ⟨(some 69), .nck (.t 68), none, []⟩,
 ⟨(some 70), .fad 9 (.t 69), none, []⟩,
 ⟨(some 71), .fad 0 (.t 70), none, []⟩,
 ⟨(some 72), .ld1 (.t 71), none, []⟩,
 ⟨(some 73), .len (.t 72), none, []⟩,
 ⟨(some 74), .mv (.c (.val (.int .i64 0))), none, []⟩])
 (.block 1 (.loop (.seq (.reg [⟨(some 75), .bin .lss (.t 74) (.t 73), none, []⟩])
 (.seq (.cond (.t 75) .skip
 (.exit 1))
 (.seq (.block 2 (.seq (.reg [⟨(some 76), .mv (.t 74), none, []⟩,
 ⟨(some 3), .mv (.t 76), none, []⟩])
 (.seq (.reg [⟨(some 77), .mv (.t 0), none, []⟩,
 ⟨(some 78), .nck (.t 77), none, []⟩,
 ⟨(some 79), .fad 15 (.t 78), none, []⟩,
 ⟨(some 80), .fad 2 (.t 79), none, []⟩,
 ⟨(some 81), .ld1 (.t 80), none, []⟩,
 ⟨(some 82), .mv (.t 3), none, []⟩,
 ⟨(some 83), .bin .shr (.t 81) (.t 82), none, []⟩,
 ⟨(some 84), .bin .and (.t 83) (.c (.val (.int .i64 1))), none, []⟩,
 ⟨(some 85), .bin .eql (.t 84) (.c (.val (.int .i64 1))), none, []⟩])
 (.cond (.t 85) (.regD [⟨(some 86), .mv (.t 0), none, []⟩,
 ⟨(some 87), .nck (.t 86), none, [0]⟩,
 ⟨(some 88), .fad 9 (.t 87), none, [1, 0]⟩,
 ⟨(some 89), .fad 0 (.t 88), none, [2, 1, 0]⟩,
 ⟨(some 90), .ld1 (.t 89), none, [3, 2, 1, 0]⟩,
 ⟨(some 91), .mv (.t 3), none, []⟩,
 ⟨(some 92), .mv (.t 0), none, []⟩,
 ⟨(some 93), .nck (.t 92), none, [6]⟩,
 ⟨(some 94), .fad 15 (.t 93), none, [7, 6]⟩,
 ⟨(some 95), .fad 1 (.t 94), none, [8, 7, 6]⟩,
 ⟨(some 96), .ld1 (.t 95), none, [9, 8, 7, 6]⟩,
 ⟨(some 97), .ixa 5 (.t 90) (.t 91), none, [4, 3, 2, 1, 0, 5, 6, 7, 8, 9, 10]⟩,
 ⟨(some 98), .fad 4 (.t 97), none, [11, 4, 3, 2, 1, 0, 5, 6, 7, 8, 9, 10]⟩,
 ⟨none, .st 1 (.t 98) (.t 96), none, [12, 11, 4, 3, 2, 1, 0, 5, 6, 7, 8, 9, 10]⟩])
 .skip))))
 (.reg [⟨(some 99), .bin .add (.t 74) (.c (.val (.int .i64 1))), none, []⟩,
 ⟨(some 74), .mv (.t 99), none, []⟩])))))))
 (.seq (.reg [⟨(some 2), .mv (.c (.val (.int .i64 0))), none, []⟩])
 .ret)))))),
[(.t 2)])
theorem irOk79 : convFn Tryd.prog Tryd.f79 = some ir79 := by kernel_rfl
/-- book.work.shrink -/
def ir90 : Nat × C × List RV := (92,
(.seq (.reg [⟨(some 2), .mv (.c (.val (.int .i64 0))), none, []⟩])
 (.seq (.block 0 (.seq (.regD [⟨(some 4), .mv (.t 0), none, []⟩,
 ⟨(some 5), .nck (.t 4), none, [0]⟩,
 ⟨(some 6), .fad 15 (.t 5), none, [1, 0]⟩,
 ⟨(some 7), .fad 2 (.t 6), none, [2, 1, 0]⟩,
 ⟨(some 8), .ld1 (.t 7), none, [3, 2, 1, 0]⟩,
 ⟨(some 9), .mv (.t 0), none, []⟩,
 ⟨(some 10), .nck (.t 9), none, [5]⟩,
 ⟨(some 11), .fad 9 (.t 10), none, [6, 5]⟩,
 ⟨(some 12), .fad 0 (.t 11), none, [7, 6, 5]⟩,
 ⟨(some 13), .ld1 (.t 12), none, [8, 7, 6, 5]⟩,
 ⟨(some 14), .len (.t 13), none, [9, 8, 7, 6, 5]⟩,
 ⟨(some 15), .bin .geq (.t 8) (.t 14), none, [4, 3, 2, 1, 0, 10, 9, 8, 7, 6, 5]⟩,
 ⟨(some 3), .mv (.t 15), none, [11, 4, 3, 2, 1, 0, 10, 9, 8, 7, 6, 5]⟩])
 (.cond (.t 3) (.seq (.reg [⟨(some 2), .mv (.c (.val (.int .i64 4))), none, []⟩])
 .ret)
 (.seq (.reg [⟨(some 17), .mv (.t 0), none, []⟩,
 ⟨(some 18), .nck (.t 17), none, []⟩,
 ⟨(some 19), .fad 22 (.t 18), none, []⟩,
 ⟨(some 20), .ld1 (.t 19), none, []⟩,
 ⟨(some 21), .nck (.t 20), none, []⟩,
 ⟨(some 22), .fad 6 (.t 21), none, []⟩,
 ⟨(some 23), .ld1 (.t 22), none, []⟩,
 ⟨(some 24), .bin .neq (.t 23) (.c (.val (.int .i64 2))), none, []⟩,
 ⟨(some 16), .mv (.t 24), none, []⟩])
 (.cond (.t 16) (.seq (.reg [⟨(some 2), .mv (.c (.val (.int .i64 5))), none, []⟩])
 .ret)
 (.seq (.regD [⟨(some 26), .mv (.t 0), none, []⟩,
 ⟨(some 27), .nck (.t 26), none, [0]⟩,
 ⟨(some 28), .fad 9 (.t 27), none, [1, 0]⟩,
 ⟨(some 29), .fad 0 (.t 28), none, [2, 1, 0]⟩,
 ⟨(some 30), .ld1 (.t 29), none, [3, 2, 1, 0]⟩,
 ⟨(some 31), .mv (.t 0), none, []⟩,
 ⟨(some 32), .nck (.t 31), none, [5]⟩,
 ⟨(some 33), .fad 15 (.t 32), none, [6, 5]⟩,
 ⟨(some 34), .fad 2 (.t 33), none, [7, 6, 5]⟩,
 ⟨(some 35), .ld1 (.t 34), none, [8, 7, 6, 5]⟩,
 ⟨(some 36), .ixa 5 (.t 30) (.t 35), none, [4, 3, 2, 1, 0, 9, 8, 7, 6, 5]⟩,
 ⟨(some 37), .fad 4 (.t 36), none, [10, 4, 3, 2, 1, 0, 9, 8, 7, 6, 5]⟩,
 ⟨(some 38), .ld1 (.t 37), none, [11, 10, 4, 3, 2, 1, 0, 9, 8, 7, 6, 5]⟩,
 ⟨(some 39), .mv (.t 0), none, []⟩,
 ⟨(some 40), .nck (.t 39), none, [13]⟩,
 ⟨(some 41), .fad 15 (.t 40), none, [14, 13]⟩,
 ⟨(some 42), .fad 1 (.t 41), none, [15, 14, 13]⟩,
 ⟨(some 43), .ld1 (.t 42), none, [16, 15, 14, 13]⟩,
 ⟨(some 44), .bin .neq (.t 38) (.t 43), none, [12, 11, 10, 4, 3, 2, 1, 0, 9, 8, 7, 6, 5, 17, 16, 15, 14, 13]⟩,
 ⟨(some 45), .mv (.t 44), none, [18, 12, 11, 10, 4, 3, 2, 1, 0, 9, 8, 7, 6, 5, 17, 16, 15, 14, 13]⟩,
 ⟨(some 46), .mv (.t 0), (some (45, false)), [19, 18, 12, 11, 10, 4, 3, 2, 1, 0, 9, 8, 7, 6, 5, 17, 16, 15, 14, 13]⟩,
 ⟨(some 47), .nck (.t 46), (some (45, false)), [20, 19, 18, 12, 11, 10, 4, 3, 2, 1, 0, 9, 8, 7, 6, 5, 17, 16, 15, 14, 13]⟩,
 ⟨(some 48), .fad 22 (.t 47), (some (45, false)), [21, 20, 19, 18, 12, 11, 10, 4, 3, 2, 1, 0, 9, 8, 7, 6, 5, 17, 16, 15, 14, 13]⟩,
 ⟨(some 49), .ld1 (.t 48), (some (45, false)), [22, 21, 20, 19, 18, 12, 11, 10, 4, 3, 2, 1, 0, 9, 8, 7, 6, 5, 17, 16, 15, 14, 13]⟩,
 ⟨(some 50), .nck (.t 49), (some (45, false)), [23, 22, 21, 20, 19, 18, 12, 11, 10, 4, 3, 2, 1, 0, 9, 8, 7, 6, 5, 17, 16, 15, 14, 13]⟩,
 ⟨(some 51), .fad 8 (.t 50), (some (45, false)), [24, 23, 22, 21, 20, 19, 18, 12, 11, 10, 4, 3, 2, 1, 0, 9, 8, 7, 6, 5, 17, 16, 15, 14, 13]⟩,
 ⟨(some 52), .ld1 (.t 51), (some (45, false)), [25, 24, 23, 22, 21, 20, 19, 18, 12, 11, 10, 4, 3, 2, 1, 0, 9, 8, 7, 6, 5, 17, 16, 15, 14, 13]⟩,
 ⟨(some 53), .cvt .u64 (.t 52), (some (45, false)), [26, 25, 24, 23, 22, 21, 20, 19, 18, 12, 11, 10, 4, 3, 2, 1, 0, 9, 8, 7, 6, 5, 17, 16, 15, 14, 13]⟩,
 ⟨(some 54), .call (.f 102) [(.t 53)], (some (45, false)), [27, 26, 25, 24, 23, 22, 21, 20, 19, 18, 12, 11, 10, 4, 3, 2, 1, 0, 9, 8, 7, 6, 5, 17, 16, 15, 14, 13]⟩,
 ⟨(some 55), .mv (.t 0), (some (45, false)), [19, 18, 12, 11, 10, 4, 3, 2, 1, 0, 9, 8, 7, 6, 5, 17, 16, 15, 14, 13]⟩,
 ⟨(some 56), .nck (.t 55), (some (45, false)), [29, 19, 18, 12, 11, 10, 4, 3, 2, 1, 0, 9, 8, 7, 6, 5, 17, 16, 15, 14, 13]⟩,
 ⟨(some 57), .fad 22 (.t 56), (some (45, false)), [30, 29, 19, 18, 12, 11, 10, 4, 3, 2, 1, 0, 9, 8, 7, 6, 5, 17, 16, 15, 14, 13]⟩,
 ⟨(some 58), .ld1 (.t 57), (some (45, false)), [31, 30, 29, 19, 18, 12, 11, 10, 4, 3, 2, 1, 0, 9, 8, 7, 6, 5, 17, 16, 15, 14, 13]⟩,
 ⟨(some 59), .nck (.t 58), (some (45, false)), [32, 31, 30, 29, 19, 18, 12, 11, 10, 4, 3, 2, 1, 0, 9, 8, 7, 6, 5, 17, 16, 15, 14, 13]⟩,
 ⟨(some 60), .fad 2 (.t 59), (some (45, false)), [33, 32, 31, 30, 29, 19, 18, 12, 11, 10, 4, 3, 2, 1, 0, 9, 8, 7, 6, 5, 17, 16, 15, 14, 13]⟩,
 ⟨(some 61), .ld1 (.t 60), (some (45, false)), [34, 33, 32, 31, 30, 29, 19, 18, 12, 11, 10, 4, 3, 2, 1, 0, 9, 8, 7, 6, 5, 17, 16, 15, 14, 13]⟩,
 ⟨(some 62), .bin .leq (.t 54) (.t 61), (some (45, false)), [28, 27, 26, 25, 24, 23, 22, 21, 20, 19, 18, 12, 11, 10, 4, 3, 2, 1, 0, 9, 8, 7, 6, 5, 17, 16, 15, 14, 13, 35, 34, 33, 32, 31, 30, 29]⟩,
 ⟨(some 63), .pick (.t 45) (.c (.val (.bool true))) (.t 62), none, [19, 18, 12, 11, 10, 4, 3, 2, 1, 0, 9, 8, 7, 6, 5, 17, 16, 15, 14, 13, 36, 28, 27, 26, 25, 24, 23, 22, 21, 20, 35, 34, 33, 32, 31, 30, 29]⟩,
 ⟨(some 25), .mv (.t 63), none, [37, 19, 18, 12, 11, 10, 4, 3, 2, 1, 0, 9, 8, 7, 6, 5, 17, 16, 15, 14, 13, 36, 28, 27, 26, 25, 24, 23, 22, 21, 20, 35, 34, 33, 32, 31, 30, 29]⟩])
 (.cond (.t 25) (.seq (.reg [⟨(some 2), .mv (.c (.val (.int .i64 8))), none, []⟩])
 .ret)
 .skip)))))))
 (.seq (.regD [⟨(some 64), .mv (.t 0), none, []⟩,
 ⟨(some 65), .nck (.t 64), none, [0]⟩,
 ⟨(some 66), .fad 22 (.t 65), none, [1, 0]⟩,
 ⟨(some 67), .ld1 (.t 66), none, [2, 1, 0]⟩,
 ⟨(some 68), .nck (.t 67), none, [3, 2, 1, 0]⟩,
 ⟨(some 69), .fad 8 (.t 68), none, [4, 3, 2, 1, 0]⟩,
 ⟨(some 70), .ld1 (.t 69), none, [5, 4, 3, 2, 1, 0]⟩,
 ⟨(some 71), .mv (.t 0), none, []⟩,
 ⟨(some 72), .nck (.t 71), none, [7]⟩,
 ⟨(some 73), .fad 15 (.t 72), none, [8, 7]⟩,
 ⟨(some 74), .fad 2 (.t 73), none, [9, 8, 7]⟩,
 ⟨(some 75), .ld1 (.t 74), none, [10, 9, 8, 7]⟩,
 ⟨(some 76), .bin .shl (.c (.val (.int .i64 1))) (.t 75), none, [11, 10, 9, 8, 7]⟩,
 ⟨(some 77), .bin .andNot (.t 70) (.t 76), none, [6, 5, 4, 3, 2, 1, 0, 12, 11, 10, 9, 8, 7]⟩,
 ⟨(some 78), .nck (.t 67), none, [3, 2, 1, 0, 4, 5, 6, 7, 8, 9, 10, 11, 12, 13]⟩,
 ⟨(some 79), .fad 8 (.t 78), none, [14, 3, 2, 1, 0, 4, 5, 6, 7, 8, 9, 10, 11, 12, 13]⟩,
 ⟨none, .st 1 (.t 79) (.t 77), none, [15, 14, 3, 2, 1, 0, 4, 5, 6, 7, 8, 9, 10, 11, 12, 13]⟩])
 (.seq (.regD [⟨(some 80), .mv (.t 0), none, []⟩,
 ⟨(some 81), .nck (.t 80), none, [0]⟩,
 ⟨(some 82), .fad 9 (.t 81), none, [1, 0]⟩,
 ⟨(some 83), .fad 0 (.t 82), none, [2, 1, 0]⟩,
 ⟨(some 84), .ld1 (.t 83), none, [3, 2, 1, 0]⟩,
 ⟨(some 85), .mv (.t 0), none, []⟩,
 ⟨(some 86), .nck (.t 85), none, [5]⟩,
 ⟨(some 87), .fad 15 (.t 86), none, [6, 5]⟩,
 ⟨(some 88), .fad 2 (.t 87), none, [7, 6, 5]⟩,
 ⟨(some 89), .ld1 (.t 88), none, [8, 7, 6, 5]⟩,
 ⟨(some 90), .ixa 5 (.t 84) (.t 89), none, [4, 3, 2, 1, 0, 9, 8, 7, 6, 5]⟩,
 ⟨(some 91), .fad 4 (.t 90), none, [10, 4, 3, 2, 1, 0, 9, 8, 7, 6, 5]⟩,
 ⟨none, .st 1 (.t 91) (.c (.val (.int .i64 0))), none, [11, 10, 4, 3, 2, 1, 0, 9, 8, 7, 6, 5]⟩])
 (.seq (.reg [⟨(some 2), .mv (.c (.val (.int .i64 0))), none, []⟩])
 .ret))))),
[(.t 2)])
theorem irOk90 : convFn Tryd.prog Tryd.f90 = some ir90 := by kernel_rfl


def holdS (c : ConfD) (s : StateD) (o : OpD) (k0 : Nat) (j' : JobD) (k : Nat) : St := ⟨[(0, .ptr 0 0), (73, .int s.nodes.length), (74, .int k)],
  [some (.box 73 [.int c.nodes, .int c.queues, .int c.quota, .int c.wave, .int c.lease, .int c.retry, .int c.deadline, .int c.room, .int c.disk,
    .sl 1 s.nodes.length 5 0 s.nodes.length, .sl 2 s.jobs.length 12 0 s.jobs.length, .int s.goal, .int s.prior, .int s.mode, .int s.term,
    .int o.kind, .int o.a, .int o.b, .int o.c, .int o.d, .int o.e, .int o.f, .rp 2 s.jobs.length 12 k0 0, noP]),
   some (.dat 48 5 ((updTo (takesA o.b o.a) s.nodes k).map nodeR)), some (.dat 52 12 ((s.jobs.set k0 j').map jobR))]⟩
theorem hold_tri (c : ConfD) (s : StateD) (o : OpD) (k : Nat) (hk : k < s.jobs.length) (ha : o.a = k + 1) (hn : s.nodes.length ≤ 6) (hj : s.jobs.length ≤ 1000) (hinc : 0 ≤ (jobA s o.a).inc) :
    Tri Tryd.prog G 79 [.ptr 0 0] (workO c s o (.rp 2 s.jobs.length 12 k 0) noP) (.int (holdD s o).2) (workO c (holdD s o).1 o (.rp 2 s.jobs.length 12 k 0) noP) := by
  refine tri_WP Tryd.func79 (by decide) irOk79 (Nat.le_of_ble_eq_true rfl) rfl rfl rfl ?_
  simp only [ir79, go_sem, ↓reduceIte, zA, zB, zC, zD, zE, zF, reduceCtorEq, zG, zH, zI, zJ, zK, zL, zM, zN, zO, zP]
  have hg := get_mapD (f := jobR) zeroJob hk
  have ha2 : (o.a - 1).toNat = k := by omega
  have hJ : jobA s o.a = s.jobs.getD k zeroJob := by unfold jobA; rw [ha2]
  generalize s.jobs.getD k zeroJob = j at *
  rw [hJ] at hinc
  simp only [hg, go_sem, ↓reduceIte, zA, zB, zC, zD, zE, zF, reduceCtorEq, zG, zH, zI, zJ, zK, zL, zM, zN, zO, zP]
  refine WC_split (fun h => ?_) (fun h => ?_) <;> simp only [h, go_sem, ↓reduceIte, zA, zB, zC, zD, zE, zF, reduceCtorEq, zG, zH, zI, zJ, zK, zL, zM, zN, zO, zP] <;> (try simp only [beq_iff_eq, beq_eq_false_iff_ne, bne_iff_ne, ne_eq, decide_eq_true_eq, decide_eq_false_iff_not, Bool.not_true, Bool.not_false, Bool.not_eq_true, Bool.not_eq_false, bne_eq_false_iff_eq, Decidable.not_not] at h)
  · simp only [holdD, h, setJ, hJ, ha2, List.map_set, List.length_set, List.set_set, go_sem, ↓reduceIte, zA, zB, zC, zD, zE, zF, reduceCtorEq, zG, zH, zI, zJ, zK, zL, zM, zN, zO, zP, Bool.true_eq_false, Bool.false_eq_true, ne_eq, not_true, not_false_eq_true, or_self]
  · simp only [hg, go_sem, ↓reduceIte, zA, zB, zC, zD, zE, zF, reduceCtorEq, zG, zH, zI, zJ, zK, zL, zM, zN, zO, zP]
    refine WD_callz [1, 2] (fits0_tri s j o.b 30 freeB hn free_tri) rfl (by simp [argRs, argR, rowsAt, objL, List.take_of_length_le, go_sem, ↓reduceIte, zA, zB, zC, zD, zE, zF, reduceCtorEq, zG, zH, zI, zJ, zK, zL, zM, zN, zO, zP]) (by simp [objL]) rfl rfl ?_; simp only [go_sem, ↓reduceIte, zA, zB, zC, zD, zE, zF, reduceCtorEq, zG, zH, zI, zJ, zK, zL, zM, zN, zO, zP]
    have fin : (fitsB s.nodes j o.b freeB = false ∨ 1000000 ≤ j.inc) → holdD s o = (s, 8) := fun h' => by
      simp only [holdD, hJ, h, h', ne_eq, not_true, if_false, if_true]
    cases hf : fitsB s.nodes j o.b freeB with
    | false =>
      simp only [go_sem, ↓reduceIte, zA, zB, zC, zD, zE, zF, reduceCtorEq, zG, zH, zI, zJ, zK, zL, zM, zN, zO, zP, fin (.inl hf)]
    | true =>
      simp only [hg, go_sem, ↓reduceIte, zA, zB, zC, zD, zE, zF, reduceCtorEq, zG, zH, zI, zJ, zK, zL, zM, zN, zO, zP]
      refine WC_split (fun hi => ?_) (fun hi => ?_) <;> simp only [hi, go_sem, ↓reduceIte, zA, zB, zC, zD, zE, zF, reduceCtorEq, zG, zH, zI, zJ, zK, zL, zM, zN, zO, zP] <;> (try simp only [beq_iff_eq, beq_eq_false_iff_ne, bne_iff_ne, ne_eq, decide_eq_true_eq, decide_eq_false_iff_not, Bool.not_true, Bool.not_false, Bool.not_eq_true, Bool.not_eq_false, bne_eq_false_iff_eq, Decidable.not_not] at hi)
      · simp only [go_sem, ↓reduceIte, zA, zB, zC, zD, zE, zF, reduceCtorEq, zG, zH, zI, zJ, zK, zL, zM, zN, zO, zP, fin (.inr hi)]
      · have hw : IntKind.i64.wrap (j.inc + 1) = j.inc + 1 := wrap_in (by omega) (by omega)
        have fin2 : holdD s o = ({ setJ s o.a { j with phase := 1, inc := j.inc + 1, nodes := o.b } with nodes := s.nodes.mapIdx (takesA o.b o.a) }, 0) := by
          unfold holdD
          rw [hJ, if_neg (by simpa using h), if_neg (by simp [hf]; omega)]
        simp only [hg, hk, List.getElem?_set_self, List.length_map, List.length_set, List.set_set, go_sem, ↓reduceIte, zA, zB, zC, zD, zE, zF, reduceCtorEq, zG, zH, zI, zJ, zK, zL, zM, zN, zO, zP]
        refine W_opsD_end rfl ?_
        simp only [hg, hk, hw, List.getElem?_set_self, List.length_map, List.length_set, List.set_set, go_sem, ↓reduceIte, zA, zB, zC, zD, zE, zF, reduceCtorEq, zG, zH, zI, zJ, zK, zL, zM, zN, zO, zP]
        refine W_loopI [0, 73, 74] [] (fun q : Nat => q ≤ s.nodes.length) (fun q => s.nodes.length - q) (holdS c s o k { j with phase := 1, inc := j.inc + 1, nodes := o.b }) 0 ?_ (Nat.zero_le _) (fun q hq => ?_)
        · simp only [holdS, updTo_zero, Int.natCast_zero, setJ, ha2, List.map_set, go_sem, ↓reduceIte, zA, zB, zC, zD, zE, zF, reduceCtorEq, zG, zH, zI, zJ, zK, zL, zM, zN, zO, zP]
        simp only [holdS, setJ, List.length_set, go_sem, ↓reduceIte, zA, zB, zC, zD, zE, zF, reduceCtorEq, zG, zH, zI, zJ, zK, zL, zM, zN, zO, zP]
        refine WC_split (fun h => ?_) (fun h => ?_)
        · have h := lt_of_dec h
          have hg2 : ((updTo (takesA o.b o.a) s.nodes q).map nodeR)[q]? = some (nodeR s.nodes[q]) := by rw [List.getElem?_map, updTo_at _ _ h]; rfl
          simp only [bit_eq o.b q (by omega), go_sem, ↓reduceIte, zA, zB, zC, zD, zE, zF, reduceCtorEq, zG, zH, zI, zJ, zK, zL, zM, zN, zO, zP]
          cases hb : hasB o.b q with
          | true =>
            have hs : ((updTo (takesA o.b o.a) s.nodes q).map nodeR).set q (nodeR { s.nodes[q] with job := o.a }) = (updTo (takesA o.b o.a) s.nodes (q + 1)).map nodeR := by
              rw [← List.map_set, updTo_set _ _ h (by simp only [takesA, hb, if_true])]
            simp only [nodeR] at hs
            simp only [h, hg2, updTo_length, go_sem, ↓reduceIte, zA, zB, zC, zD, zE, zF, reduceCtorEq, zG, zH, zI, zJ, zK, zL, zM, zN, zO, zP]
            refine W_opsD_end rfl ?_
            simp only [go_sem, ↓reduceIte, zA, zB, zC, zD, zE, zF, reduceCtorEq, zG, zH, zI, zJ, zK, zL, zM, zN, zO, zP]
            refine W_lpI (q + 1) ?_ ?_ (by omega) (by omega)
            · simp only [go_sem, ↓reduceIte, zA, zB, zC, zD, zE, zF, reduceCtorEq, zG, zH, zI, zJ, zK, zL, zM, zN, zO, zP]
            · simp only [holdS, setJ, List.length_set, go_sem, ↓reduceIte, zA, zB, zC, zD, zE, zF, reduceCtorEq, zG, zH, zI, zJ, zK, zL, zM, zN, zO, zP, wrap_succ (show q < 9223372036854775807 by omega), hs]
          | false =>
            have hs := updTo_same (takesA o.b o.a) s.nodes h (by simp only [takesA, hb, Bool.false_eq_true, if_false])
            simp only [go_sem, ↓reduceIte, zA, zB, zC, zD, zE, zF, reduceCtorEq, zG, zH, zI, zJ, zK, zL, zM, zN, zO, zP]
            refine W_lpI (q + 1) ?_ ?_ (by omega) (by omega)
            · simp only [go_sem, ↓reduceIte, zA, zB, zC, zD, zE, zF, reduceCtorEq, zG, zH, zI, zJ, zK, zL, zM, zN, zO, zP]
            · simp only [holdS, setJ, List.length_set, go_sem, ↓reduceIte, zA, zB, zC, zD, zE, zF, reduceCtorEq, zG, zH, zI, zJ, zK, zL, zM, zN, zO, zP, wrap_succ (show q < 9223372036854775807 by omega), hs]
        · obtain rfl := eq_of_dec h hq
          simp only [updTo_full, fin2, setJ, ha2, List.length_mapIdx, List.length_set, go_sem, ↓reduceIte, zA, zB, zC, zD, zE, zF, reduceCtorEq, zG, zH, zI, zJ, zK, zL, zM, zN, zO, zP]

theorem less_eq (m b : Nat) (hm : m < 64) (hb : b < 6) : andNotI .i64 (m : Int) (2 ^ b) = lessD m b := by
  have : ∀ m : Nat, m < 64 → ∀ b : Nat, b < 6 → andNotI .i64 (m : Int) (2 ^ b) = lessD m b := by decide +kernel
  exact this m hm b hb
theorem shrink_tri (c : ConfD) (s : StateD) (o : OpD) (k : Nat) (hk : k < s.jobs.length) (ha : o.a = k + 1) (hn : s.nodes.length ≤ 6) (hj : s.jobs.length ≤ 1000) (hb0 : 0 ≤ o.b) (hm : 0 ≤ (jobA s o.a).nodes ∧ (jobA s o.a).nodes < 64) :
    Tri Tryd.prog G 90 [.ptr 0 0] (workO c s o (.rp 2 s.jobs.length 12 k 0) noP) (.int (shrinkD s o).2) (workO c (shrinkD s o).1 o (.rp 2 s.jobs.length 12 k 0) noP) := by
  refine tri_WP Tryd.func90 (by decide) irOk90 (Nat.le_of_ble_eq_true rfl) rfl rfl rfl ?_
  simp only [ir90, go_sem, ↓reduceIte, zA, zB, zC, zD, zE, zF, reduceCtorEq, zG, zH, zI, zJ, zK, zL, zM, zN, zO, zP]
  have hg := get_mapD (f := jobR) zeroJob hk
  have ha2 : (o.a - 1).toNat = k := by omega
  have hJ : jobA s o.a = s.jobs.getD k zeroJob := by unfold jobA; rw [ha2]
  generalize s.jobs.getD k zeroJob = j at *
  rw [hJ] at hm
  obtain ⟨m, hm1⟩ := Int.eq_ofNat_of_zero_le hm.1
  have hmu : IntKind.u64.wrap (m : Int) = m := by simp [IntKind.wrap, IntKind.bits, IntKind.signed]; omega
  obtain ⟨b, hb⟩ := Int.eq_ofNat_of_zero_le hb0
  rw [hb]
  refine WC_split (fun h1 => ?_) (fun h1 => ?_) <;> simp only [h1, go_sem, ↓reduceIte, zA, zB, zC, zD, zE, zF, reduceCtorEq, zG, zH, zI, zJ, zK, zL, zM, zN, zO, zP] <;> (try simp only [beq_iff_eq, beq_eq_false_iff_ne, bne_iff_ne, ne_eq, decide_eq_true_eq, decide_eq_false_iff_not, Bool.not_true, Bool.not_false, Bool.not_eq_true, Bool.not_eq_false, bne_eq_false_iff_eq, Decidable.not_not] at h1)
  · simp only [shrinkD, hb, h1, ge_iff_le, setJ, hJ, ha2, List.map_set, List.length_set, List.set_set, go_sem, ↓reduceIte, zA, zB, zC, zD, zE, zF, reduceCtorEq, zG, zH, zI, zJ, zK, zL, zM, zN, zO, zP, Bool.true_eq_false, Bool.false_eq_true, ne_eq, not_true, not_false_eq_true, or_self]
  · have hbl : b < s.nodes.length := by omega
    simp only [hg, go_sem, ↓reduceIte, zA, zB, zC, zD, zE, zF, reduceCtorEq, zG, zH, zI, zJ, zK, zL, zM, zN, zO, zP]
    refine WC_split (fun h2 => ?_) (fun h2 => ?_) <;> simp only [h2, go_sem, ↓reduceIte, zA, zB, zC, zD, zE, zF, reduceCtorEq, zG, zH, zI, zJ, zK, zL, zM, zN, zO, zP] <;> (try simp only [beq_iff_eq, beq_eq_false_iff_ne, bne_iff_ne, ne_eq, decide_eq_true_eq, decide_eq_false_iff_not, Bool.not_true, Bool.not_false, Bool.not_eq_true, Bool.not_eq_false, bne_eq_false_iff_eq, Decidable.not_not] at h2)
    · simp only [shrinkD, hb, h1, h2, ge_iff_le, setJ, hJ, ha2, List.map_set, List.length_set, List.set_set, go_sem, ↓reduceIte, zA, zB, zC, zD, zE, zF, reduceCtorEq, zG, zH, zI, zJ, zK, zL, zM, zN, zO, zP, Bool.true_eq_false, Bool.false_eq_true, ne_eq, not_true, not_false_eq_true, or_self]
    · have hgn := get_mapD (f := nodeR) zeroNode hbl
      have hN : nodeA s o.b = s.nodes.getD b zeroNode := by unfold nodeA; rw [hb]; rfl
      have hN' : nodeA s (b : Int) = s.nodes.getD b zeroNode := rfl
      generalize s.nodes.getD b zeroNode = n at *
      have h1' : ¬ ((s.nodes.length : Int) ≤ b) := by omega
      have fin : (n.job ≠ o.a ∨ many j.nodes ≤ j.min) → shrinkD s o = (s, 8) := fun h' => by
        unfold shrinkD
        rw [hb, if_neg h1', hJ, if_neg (by simpa using h2), hN', if_pos h']
      simp only [hgn, hbl, go_sem, ↓reduceIte, zA, zB, zC, zD, zE, zF, reduceCtorEq, zG, zH, zI, zJ, zK, zL, zM, zN, zO, zP]
      refine WGD_split (fun h3 => ?_) (fun h3 => ?_) <;> simp only [h3, go_sem, ↓reduceIte, zA, zB, zC, zD, zE, zF, reduceCtorEq, zG, zH, zI, zJ, zK, zL, zM, zN, zO, zP] <;> (try simp only [beq_iff_eq, beq_eq_false_iff_ne, bne_iff_ne, ne_eq, decide_eq_true_eq, decide_eq_false_iff_not, Bool.not_true, Bool.not_false, Bool.not_eq_true, Bool.not_eq_false, bne_eq_false_iff_eq, Decidable.not_not] at h3)
      · have h3' : n.job = o.a := h3
        simp only [hg, hm1, hmu, go_sem, ↓reduceIte, zA, zB, zC, zD, zE, zF, reduceCtorEq, zG, zH, zI, zJ, zK, zL, zM, zN, zO, zP]
        refine WD_calld (ones_tri m (by omega)) rfl rfl rfl rfl ?_; simp only [go_sem, ↓reduceIte, zA, zB, zC, zD, zE, zF, reduceCtorEq, zG, zH, zI, zJ, zK, zL, zM, zN, zO, zP]
        simp only [hg, go_sem, ↓reduceIte, zA, zB, zC, zD, zE, zF, reduceCtorEq, zG, zH, zI, zJ, zK, zL, zM, zN, zO, zP]
        refine WC_split (fun h4 => ?_) (fun h4 => ?_) <;> simp only [h4, go_sem, ↓reduceIte, zA, zB, zC, zD, zE, zF, reduceCtorEq, zG, zH, zI, zJ, zK, zL, zM, zN, zO, zP] <;> (try simp only [beq_iff_eq, beq_eq_false_iff_ne, bne_iff_ne, ne_eq, decide_eq_true_eq, decide_eq_false_iff_not, Bool.not_true, Bool.not_false, Bool.not_eq_true, Bool.not_eq_false, bne_eq_false_iff_eq, Decidable.not_not] at h4)
        · simp only [go_sem, ↓reduceIte, zA, zB, zC, zD, zE, zF, reduceCtorEq, zG, zH, zI, zJ, zK, zL, zM, zN, zO, zP, fin (.inr (by rw [hm1]; exact h4)), hb]
        · have fin2 : shrinkD s o = (setN (setJ s o.a { j with nodes := lessD j.nodes o.b }) o.b { n with job := 0 }, 0) := by
            unfold shrinkD
            rw [hb, if_neg h1', hJ, if_neg (by simpa using h2), hN', if_neg (by rw [hm1]; simp [h3']; omega)]
          have hle : andNotI .i64 (m : Int) (shlI .i64 1 b) = lessD m b := by rw [shl_one b (by omega), less_eq m b (by omega) (by omega)]
          simp only [hg, hm1, hle, go_sem, ↓reduceIte, zA, zB, zC, zD, zE, zF, reduceCtorEq, zG, zH, zI, zJ, zK, zL, zM, zN, zO, zP]
          refine W_opsD_end rfl ?_
          simp only [hgn, hbl, go_sem, ↓reduceIte, zA, zB, zC, zD, zE, zF, reduceCtorEq, zG, zH, zI, zJ, zK, zL, zM, zN, zO, zP]
          refine W_opsD_end rfl ?_
          simp only [fin2, setN, setJ, hm1, hb, ha2, List.map_set, List.length_set, go_sem, ↓reduceIte, zA, zB, zC, zD, zE, zF, reduceCtorEq, zG, zH, zI, zJ, zK, zL, zM, zN, zO, zP]
      · simp only [go_sem, ↓reduceIte, zA, zB, zC, zD, zE, zF, reduceCtorEq, zG, zH, zI, zJ, zK, zL, zM, zN, zO, zP, fin (.inl h3), hb]
end Dv
