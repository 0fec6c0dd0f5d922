/- The document's answers about reports. -/
import Derived.Test.YtclgmpflmeopmaaG2
import Derived.Test.YtclgmpflmeopmaaP9
set_option linter.unusedVariables false
set_option linter.unusedSimpArgs false
namespace Dv
open Go Go.Proofs
open Nat renaming reduceEqDiff → zA, reduceAdd → zB, reduceSub → zC, reduceMul → zD, reduceLT → zE, reduceLeDiff → zF
open Int renaming reduceLE → zG, reduceLT → zH, reduceToNat → zI, reduceBEq → zJ, reduceBNe → zK, reduceEq → zL, reduceAdd → zM, reduceSub → zN, reduceMul → zO, reduceNeg → zP
attribute [local go_sem] argEnv W_nil W_seq W_skip W_ret W_exit W_scope W_block W_blk W_reg W_regD W_cond WC_t WC_f WC_any Wx_c Wx_ops Wx_lp Wx_blk W_ops_nil W_opsD_q W_guard W_guardD WG_tt WG_ff WG_tf WG_ft WG_u WGD_tt WGD_ff WGD_tf WGD_ft WGD_u WE_some WED_some W_mv W_pick W_new W_box W_build W_bsl W_ld1 W_ldn W_st W_nck W_bin W_eqb W_not W_cvt W_fad W_fld1 W_fldn W_ixa W_ixr W_ix1 W_ixs W_len W_lens W_mkf W_ext W_app W_min W_isnp W_isns W_eqs W_neg W_ixn W_sli W_sls WD_mv WD_pick WD_new WD_box WD_build WD_bsl WD_ld1 WD_ldn WD_st WD_nck WD_bin WD_eqb WD_not WD_cvt WD_fad WD_fld1 WD_fldn WD_ixa WD_ixr WD_ix1 WD_ixs WD_len WD_lens WD_mkf WD_ext WD_app WD_min WD_isnp WD_isns WD_eqs WD_neg WD_ixn WD_sli WD_sls effF Opd.ev getE putE binV LV.int LV.bool LV.undef Go.undef LV.cells LV.toD LV.toDs splice fillL rowsOf srcRows updL objL Eff.owned nwp St.get St.obj St.put Value.oneCell' Ends adopt Ad.ap isNil St.keep St.okKeep okObj idl idlL idlO RVs.of RV.of oneOr Ends0 EndsO_iff frzs rn rnL rnO piOf eqCells eqV boundV Option.map_some Option.map_none List.append_nil List.nil_append List.cons_append List.map_nil List.map_cons List.length_nil List.length_cons List.set_cons_zero List.set_cons_succ List.take_succ_cons List.take_zero List.take_nil List.drop_succ_cons List.drop_zero List.drop_nil List.getElem?_cons_zero List.getElem?_cons_succ List.getElem?_nil List.isEmpty_nil List.isEmpty_cons List.all_cons List.all_nil List.isEmpty_nil cond_true cond_false Bool.true_and Bool.false_and Bool.and_true Bool.and_false Bool.not_true Bool.not_false Bool.or_true Bool.true_or Bool.or_false Bool.false_or true_and and_true true_or or_true Option.some.injEq LV.d.injEq DV.val.injEq Value.bool.injEq Value.int.injEq decide_true decide_false and_self Nat.zero_add Nat.add_zero if_true if_false Int.toNat_zero beq_self_eq_true Nat.zero_lt_succ Int.toNat_natCast Int.natCast_nonneg List.length_map i64 bl List.zip_cons_cons List.zip_nil_left List.zip_nil_right nwp confV stateV nodeV jobV nodesV jobsV opV msgV nodeR jobR opR msgR zeroOp zeroMsg msgsV
variable {G : Nat → Option (List DV)}

/-- dunnageref09.Has -/
def ir63 : Nat × C × List RV := (11,
(.seq (.reg [⟨(some 4), .mv (.c (.val (.bool false))), none, []⟩])
 (.seq (.reg [⟨(some 5), .mv (.t 0), none, []⟩,
 ⟨(some 6), .mv (.t 1), none, []⟩,
 ⟨(some 7), .cvt .u64 (.t 6), none, []⟩,
 ⟨(some 8), .bin .shr (.t 5) (.t 7), none, []⟩,
 ⟨(some 9), .bin .and (.t 8) (.c (.val (.int .i64 1))), none, []⟩,
 ⟨(some 10), .bin .eql (.t 9) (.c (.val (.int .i64 1))), none, []⟩,
 ⟨(some 4), .mv (.t 10), none, []⟩])
 .ret)),
[(.t 4)])
theorem irOk63 : convFn Try.prog Try.f63 = some ir63 := by kernel_rfl
/-- dunnageref09.Meant -/
def ir38 : Nat × C × List RV := (10,
(.seq (.reg [⟨(some 1), .box 33 (.t 0), none, []⟩,
 ⟨(some 2), .mv (.c (.val (.int .i64 0))), none, []⟩])
 (.seq (.seq (.reg [⟨(some 3), .fad 4 (.t 1), none, []⟩,
 ⟨(some 4), .ld1 (.t 3), none, []⟩,
 ⟨(some 5), .bin .eql (.t 4) (.c (.val (.int .i64 2))), none, []⟩])
 (.cond (.t 5) (.seq (.reg [⟨(some 6), .fad 3 (.t 1), none, []⟩,
 ⟨(some 7), .ld1 (.t 6), none, []⟩,
 ⟨(some 2), .mv (.t 7), none, []⟩])
 .ret)
 .skip))
 (.seq (.reg [⟨(some 8), .fad 2 (.t 1), none, []⟩,
 ⟨(some 9), .ld1 (.t 8), none, []⟩,
 ⟨(some 2), .mv (.t 9), none, []⟩])
 .ret))),
[(.t 2)])
theorem irOk38 : convFn Try.prog Try.f38 = some ir38 := by kernel_rfl
/-- dunnageref20.Says -/
def ir64 : Nat × C × List RV := (69,
(.seq (.reg [⟨(some 5), .box 33 (.t 0), none, []⟩,
 ⟨(some 10), .mv (.c (.val (.bool false))), none, []⟩])
 (.seq (.seq (.reg [⟨(some 11), .mv (.t 2), none, []⟩,
 ⟨(some 12), .bin .lss (.t 11) (.c (.val (.int .i64 0))), none, []⟩,
 ⟨(some 13), .mv (.t 12), none, []⟩,
 ⟨(some 14), .mv (.t 2), (some (13, false)), []⟩,
 ⟨(some 15), .mv (.t 1), (some (13, false)), []⟩,
 ⟨(some 16), .len (.t 15), (some (13, false)), []⟩,
 ⟨(some 17), .bin .geq (.t 14) (.t 16), (some (13, false)), []⟩,
 ⟨(some 18), .pick (.t 13) (.c (.val (.bool true))) (.t 17), none, []⟩,
 ⟨(some 19), .mv (.t 18), none, []⟩,
 ⟨(some 20), .mv (.t 4), (some (19, false)), []⟩,
 ⟨(some 21), .bin .lss (.t 20) (.c (.val (.int .i64 1))), (some (19, false)), []⟩,
 ⟨(some 22), .pick (.t 19) (.c (.val (.bool true))) (.t 21), none, []⟩,
 ⟨(some 23), .mv (.t 22), none, []⟩,
 ⟨(some 24), .mv (.t 4), (some (23, false)), []⟩,
 ⟨(some 25), .fad 1 (.t 5), (some (23, false)), []⟩,
 ⟨(some 26), .ld1 (.t 25), (some (23, false)), []⟩,
 ⟨(some 27), .len (.t 26), (some (23, false)), []⟩,
 ⟨(some 28), .bin .gtr (.t 24) (.t 27), (some (23, false)), []⟩,
 ⟨(some 29), .pick (.t 23) (.c (.val (.bool true))) (.t 28), none, []⟩])
 (.cond (.t 29) (.seq (.reg [⟨(some 10), .mv (.c (.val (.bool false))), none, []⟩])
 .ret)
 .skip))
 (.seq (.regD [⟨(some 30), .mv (.t 1), none, []⟩,
 ⟨(some 31), .mv (.t 2), none, []⟩,
 ⟨(some 32), .ixa 11 (.t 30) (.t 31), none, [0, 1]⟩,
 ⟨(some 33), .fad 1 (.t 32), none, [2, 0, 1]⟩,
 ⟨(some 34), .ld1 (.t 33), none, [3, 2, 0, 1]⟩,
 ⟨(some 35), .bin .eql (.t 34) (.c (.val (.int .i64 6))), none, [4, 3, 2, 0, 1]⟩,
 ⟨(some 36), .mv (.t 35), none, [5, 4, 3, 2, 0, 1]⟩,
 ⟨(some 37), .mv (.t 1), (some (36, true)), [6, 5, 4, 3, 2, 0, 1]⟩,
 ⟨(some 38), .mv (.t 2), (some (36, true)), [6, 5, 4, 3, 2, 0, 1]⟩,
 ⟨(some 39), .ixa 11 (.t 37) (.t 38), (some (36, true)), [7, 6, 5, 4, 3, 2, 0, 1, 8]⟩,
 ⟨(some 40), .fad 9 (.t 39), (some (36, true)), [9, 7, 6, 5, 4, 3, 2, 0, 1, 8]⟩,
 ⟨(some 41), .ld1 (.t 40), (some (36, true)), [10, 9, 7, 6, 5, 4, 3, 2, 0, 1, 8]⟩,
 ⟨(some 42), .mv (.t 3), (some (36, true)), [6, 5, 4, 3, 2, 0, 1]⟩,
 ⟨(some 43), .bin .eql (.t 41) (.t 42), (some (36, true)), [11, 10, 9, 7, 6, 5, 4, 3, 2, 0, 1, 8, 12]⟩,
 ⟨(some 44), .pick (.t 36) (.t 43) (.c (.val (.bool false))), none, [6, 5, 4, 3, 2, 0, 1, 13, 11, 10, 9, 7, 8, 12]⟩,
 ⟨(some 45), .mv (.t 44), none, [14, 6, 5, 4, 3, 2, 0, 1, 13, 11, 10, 9, 7, 8, 12]⟩,
 ⟨(some 46), .mv (.t 1), (some (45, true)), [15, 14, 6, 5, 4, 3, 2, 0, 1, 13, 11, 10, 9, 7, 8, 12]⟩,
 ⟨(some 47), .mv (.t 2), (some (45, true)), [15, 14, 6, 5, 4, 3, 2, 0, 1, 13, 11, 10, 9, 7, 8, 12]⟩,
 ⟨(some 48), .ixa 11 (.t 46) (.t 47), (some (45, true)), [16, 15, 14, 6, 5, 4, 3, 2, 0, 1, 13, 11, 10, 9, 7, 8, 12, 17]⟩,
 ⟨(some 49), .fad 4 (.t 48), (some (45, true)), [18, 16, 15, 14, 6, 5, 4, 3, 2, 0, 1, 13, 11, 10, 9, 7, 8, 12, 17]⟩,
 ⟨(some 50), .ld1 (.t 49), (some (45, true)), [19, 18, 16, 15, 14, 6, 5, 4, 3, 2, 0, 1, 13, 11, 10, 9, 7, 8, 12, 17]⟩,
 ⟨(some 51), .mv (.t 4), (some (45, true)), [15, 14, 6, 5, 4, 3, 2, 0, 1, 13, 11, 10, 9, 7, 8, 12]⟩,
 ⟨(some 52), .bin .eql (.t 50) (.t 51), (some (45, true)), [20, 19, 18, 16, 15, 14, 6, 5, 4, 3, 2, 0, 1, 13, 11, 10, 9, 7, 8, 12, 17, 21]⟩,
 ⟨(some 53), .pick (.t 45) (.t 52) (.c (.val (.bool false))), none, [15, 14, 6, 5, 4, 3, 2, 0, 1, 13, 11, 10, 9, 7, 8, 12, 22, 20, 19, 18, 16, 17, 21]⟩,
 ⟨(some 54), .mv (.t 53), none, [23, 15, 14, 6, 5, 4, 3, 2, 0, 1, 13, 11, 10, 9, 7, 8, 12, 22, 20, 19, 18, 16, 17, 21]⟩,
 ⟨(some 55), .mv (.t 1), (some (54, true)), [24, 23, 15, 14, 6, 5, 4, 3, 2, 0, 1, 13, 11, 10, 9, 7, 8, 12, 22, 20, 19, 18, 16, 17, 21]⟩,
 ⟨(some 56), .mv (.t 2), (some (54, true)), [24, 23, 15, 14, 6, 5, 4, 3, 2, 0, 1, 13, 11, 10, 9, 7, 8, 12, 22, 20, 19, 18, 16, 17, 21]⟩,
 ⟨(some 57), .ixa 11 (.t 55) (.t 56), (some (54, true)), [25, 24, 23, 15, 14, 6, 5, 4, 3, 2, 0, 1, 13, 11, 10, 9, 7, 8, 12, 22, 20, 19, 18, 16, 17, 21, 26]⟩,
 ⟨(some 58), .fad 5 (.t 57), (some (54, true)), [27, 25, 24, 23, 15, 14, 6, 5, 4, 3, 2, 0, 1, 13, 11, 10, 9, 7, 8, 12, 22, 20, 19, 18, 16, 17, 21, 26]⟩,
 ⟨(some 59), .ld1 (.t 58), (some (54, true)), [28, 27, 25, 24, 23, 15, 14, 6, 5, 4, 3, 2, 0, 1, 13, 11, 10, 9, 7, 8, 12, 22, 20, 19, 18, 16, 17, 21, 26]⟩,
 ⟨(some 60), .fad 1 (.t 5), (some (54, true)), [24, 23, 15, 14, 6, 5, 4, 3, 2, 0, 1, 13, 11, 10, 9, 7, 8, 12, 22, 20, 19, 18, 16, 17, 21]⟩,
 ⟨(some 61), .ld1 (.t 60), (some (54, true)), [30, 24, 23, 15, 14, 6, 5, 4, 3, 2, 0, 1, 13, 11, 10, 9, 7, 8, 12, 22, 20, 19, 18, 16, 17, 21]⟩,
 ⟨(some 62), .mv (.t 4), (some (54, true)), [24, 23, 15, 14, 6, 5, 4, 3, 2, 0, 1, 13, 11, 10, 9, 7, 8, 12, 22, 20, 19, 18, 16, 17, 21]⟩,
 ⟨(some 63), .bin .sub (.t 62) (.c (.val (.int .i64 1))), (some (54, true)), [32, 24, 23, 15, 14, 6, 5, 4, 3, 2, 0, 1, 13, 11, 10, 9, 7, 8, 12, 22, 20, 19, 18, 16, 17, 21]⟩,
 ⟨(some 64), .ixa 12 (.t 61) (.t 63), (some (54, true)), [31, 30, 24, 23, 15, 14, 6, 5, 4, 3, 2, 0, 1, 13, 11, 10, 9, 7, 8, 12, 22, 20, 19, 18, 16, 17, 21, 33, 32]⟩,
 ⟨(some 65), .fad 7 (.t 64), (some (54, true)), [34, 31, 30, 24, 23, 15, 14, 6, 5, 4, 3, 2, 0, 1, 13, 11, 10, 9, 7, 8, 12, 22, 20, 19, 18, 16, 17, 21, 33, 32]⟩,
 ⟨(some 66), .ld1 (.t 65), (some (54, true)), [35, 34, 31, 30, 24, 23, 15, 14, 6, 5, 4, 3, 2, 0, 1, 13, 11, 10, 9, 7, 8, 12, 22, 20, 19, 18, 16, 17, 21, 33, 32]⟩,
 ⟨(some 67), .bin .eql (.t 59) (.t 66), (some (54, true)), [29, 28, 27, 25, 24, 23, 15, 14, 6, 5, 4, 3, 2, 0, 1, 13, 11, 10, 9, 7, 8, 12, 22, 20, 19, 18, 16, 17, 21, 26, 36, 35, 34, 31, 30, 33, 32]⟩,
 ⟨(some 68), .pick (.t 54) (.t 67) (.c (.val (.bool false))), none, [24, 23, 15, 14, 6, 5, 4, 3, 2, 0, 1, 13, 11, 10, 9, 7, 8, 12, 22, 20, 19, 18, 16, 17, 21, 37, 29, 28, 27, 25, 26, 36, 35, 34, 31, 30, 33, 32]⟩,
 ⟨(some 10), .mv (.t 68), none, [38, 24, 23, 15, 14, 6, 5, 4, 3, 2, 0, 1, 13, 11, 10, 9, 7, 8, 12, 22, 20, 19, 18, 16, 17, 21, 37, 29, 28, 27, 25, 26, 36, 35, 34, 31, 30, 33, 32]⟩])
 .ret))),
[(.t 10)])
theorem irOk64 : convFn Try.prog Try.f64 = some ir64 := by kernel_rfl
/-- dunnageref20.Gang -/
def ir48 : Nat × C × List RV := (114,
(.seq (.reg [⟨(some 4), .box 33 (.t 0), none, []⟩,
 ⟨(some 8), .new 42 [(.val (.int .i64 0)), (.val (.int .i64 0)), (.val (.int .i64 0)), (.val (.int .i64 0)), (.val (.int .i64 0)), (.val (.int .i64 0)), (.val (.int .i64 0))], none, []⟩,
 ⟨(some 9), .mv (.c (.val (.bool false))), none, []⟩])
 (.seq (.seq (.reg [⟨(some 16), .mv (.t 2), none, []⟩,
 ⟨(some 17), .bin .lss (.t 16) (.c (.val (.int .i64 1))), none, []⟩,
 ⟨(some 18), .mv (.t 17), none, []⟩,
 ⟨(some 19), .mv (.t 2), (some (18, false)), []⟩,
 ⟨(some 20), .fad 1 (.t 4), (some (18, false)), []⟩,
 ⟨(some 21), .ld1 (.t 20), (some (18, false)), []⟩,
 ⟨(some 22), .len (.t 21), (some (18, false)), []⟩,
 ⟨(some 23), .bin .gtr (.t 19) (.t 22), (some (18, false)), []⟩,
 ⟨(some 24), .pick (.t 18) (.c (.val (.bool true))) (.t 23), none, []⟩])
 (.cond (.t 24) (.seq (.reg [⟨(some 25), .build [(.val (.int .i64 0)), (.val (.int .i64 0)), (.val (.int .i64 0)), (.val (.int .i64 0)), (.val (.int .i64 0)), (.val (.int .i64 0)), (.val (.int .i64 0))] [], none, []⟩,
 ⟨none, .st 7 (.t 8) (.t 25), none, []⟩,
 ⟨(some 9), .mv (.c (.val (.bool false))), none, []⟩])
 .ret)
 .skip))
 (.seq (.reg [⟨(some 26), .fad 1 (.t 4), none, []⟩,
 ⟨(some 27), .ld1 (.t 26), none, []⟩,
 ⟨(some 28), .mv (.t 2), none, []⟩,
 ⟨(some 29), .bin .sub (.t 28) (.c (.val (.int .i64 1))), none, []⟩,
 ⟨(some 30), .ixa 12 (.t 27) (.t 29), none, []⟩,
 ⟨(some 31), .ldn 12 (.t 30), none, []⟩,
 ⟨(some 10), .new 47 [(.val (.int .i64 0)), (.val (.int .i64 0)), (.val (.int .i64 0)), (.val (.int .i64 0)), (.val (.int .i64 0)), (.val (.int .i64 0)), (.val (.int .i64 0)), (.val (.int .i64 0)), (.val (.int .i64 0)), (.val (.int .i64 0)), (.val (.int .i64 0)), (.val (.int .i64 0))], none, []⟩,
 ⟨none, .st 12 (.t 10) (.t 31), none, []⟩])
 (.seq (.reg [⟨(some 11), .mv (.c (.val (.bool true))), none, []⟩,
 ⟨(some 12), .mv (.c (.val (.bool true))), none, []⟩,
 ⟨(some 13), .mv (.c (.val (.bool true))), none, []⟩])
 (.seq (.seq (.reg [⟨(some 14), .mv (.c (.val (.int .i64 0))), none, []⟩])
 (.block 0 (.loop (.seq (.seq (.reg [⟨(some 32), .mv (.t 14), none, []⟩,
 ⟨(some 33), .bin .lss (.t 32) (.c (.val (.int .i64 6))), none, []⟩])
 (.cond (.t 33) .skip
 (.exit 0)))
 (.seq (.block 1 (.seq (.seq (.reg [⟨(some 36), .fad 8 (.t 10), none, []⟩,
 ⟨(some 37), .ld1 (.t 36), none, []⟩,
 ⟨(some 38), .mv (.t 14), none, []⟩,
 ⟨(some 39), .call (.f 63) [(.t 37), (.t 38)], none, []⟩,
 ⟨(some 40), .not (.t 39), none, []⟩])
 (.cond (.t 40) (.exit 1)
 .skip))
 (.seq (.reg [⟨(some 41), .ldn 6 (.t 4), none, []⟩,
 ⟨(some 42), .mv (.t 1), none, []⟩,
 ⟨(some 43), .mv (.t 14), none, []⟩,
 ⟨(some 44), .mv (.t 2), none, []⟩,
 ⟨(some 45), .call (.f 64) [(.t 41), (.t 42), (.t 43), (.c (.val (.int .i64 2))), (.t 44)], none, []⟩,
 ⟨(some 15), .mv (.t 45), none, []⟩])
 (.seq (.reg [⟨(some 46), .mv (.t 11), none, []⟩,
 ⟨(some 47), .mv (.t 46), none, []⟩,
 ⟨(some 48), .mv (.t 15), (some (47, true)), []⟩,
 ⟨(some 49), .mv (.t 48), (some (47, true)), []⟩,
 ⟨(some 50), .ldn 6 (.t 4), (some (49, false)), []⟩,
 ⟨(some 51), .mv (.t 1), (some (49, false)), []⟩,
 ⟨(some 52), .mv (.t 14), (some (49, false)), []⟩,
 ⟨(some 53), .mv (.t 2), (some (49, false)), []⟩,
 ⟨(some 54), .call (.f 64) [(.t 50), (.t 51), (.t 52), (.c (.val (.int .i64 1))), (.t 53)], (some (49, false)), []⟩,
 ⟨(some 55), .pick (.t 49) (.c (.val (.bool true))) (.t 54), (some (47, true)), []⟩,
 ⟨(some 56), .pick (.t 47) (.t 55) (.c (.val (.bool false))), none, []⟩,
 ⟨(some 11), .mv (.t 56), none, []⟩])
 (.seq (.regD [⟨(some 57), .mv (.t 12), none, []⟩,
 ⟨(some 58), .mv (.t 57), none, [0]⟩,
 ⟨(some 59), .mv (.t 15), (some (58, true)), [1, 0]⟩,
 ⟨(some 60), .pick (.t 58) (.t 59) (.c (.val (.bool false))), none, [1, 0, 2]⟩,
 ⟨(some 61), .mv (.t 60), none, [3, 1, 0, 2]⟩,
 ⟨(some 62), .mv (.t 1), (some (61, true)), [4, 3, 1, 0, 2]⟩,
 ⟨(some 63), .mv (.t 14), (some (61, true)), [4, 3, 1, 0, 2]⟩,
 ⟨(some 64), .ixa 11 (.t 62) (.t 63), (some (61, true)), [5, 4, 3, 1, 0, 2, 6]⟩,
 ⟨(some 65), .fad 10 (.t 64), (some (61, true)), [7, 5, 4, 3, 1, 0, 2, 6]⟩,
 ⟨(some 66), .ld1 (.t 65), (some (61, true)), [8, 7, 5, 4, 3, 1, 0, 2, 6]⟩,
 ⟨(some 67), .fad 4 (.t 10), (some (61, true)), [4, 3, 1, 0, 2]⟩,
 ⟨(some 68), .ld1 (.t 67), (some (61, true)), [10, 4, 3, 1, 0, 2]⟩,
 ⟨(some 69), .bin .geq (.t 66) (.t 68), (some (61, true)), [9, 8, 7, 5, 4, 3, 1, 0, 2, 6, 11, 10]⟩,
 ⟨(some 70), .pick (.t 61) (.t 69) (.c (.val (.bool false))), none, [4, 3, 1, 0, 2, 12, 9, 8, 7, 5, 6, 11, 10]⟩,
 ⟨(some 12), .mv (.t 70), none, [13, 4, 3, 1, 0, 2, 12, 9, 8, 7, 5, 6, 11, 10]⟩])
 (.reg [⟨(some 71), .mv (.t 13), none, []⟩,
 ⟨(some 72), .mv (.t 71), none, []⟩,
 ⟨(some 73), .ldn 6 (.t 4), (some (72, true)), []⟩,
 ⟨(some 74), .mv (.t 1), (some (72, true)), []⟩,
 ⟨(some 75), .mv (.t 14), (some (72, true)), []⟩,
 ⟨(some 76), .mv (.t 2), (some (72, true)), []⟩,
 ⟨(some 77), .call (.f 64) [(.t 73), (.t 74), (.t 75), (.c (.val (.int .i64 3))), (.t 76)], (some (72, true)), []⟩,
 ⟨(some 78), .pick (.t 72) (.t 77) (.c (.val (.bool false))), none, []⟩,
 ⟨(some 13), .mv (.t 78), none, []⟩]))))))
 (.reg [⟨(some 34), .mv (.t 14), none, []⟩,
 ⟨(some 35), .bin .add (.t 34) (.c (.val (.int .i64 1))), none, []⟩,
 ⟨(some 14), .mv (.t 35), none, []⟩]))))))
 (.seq (.seq (.reg [⟨(some 79), .fad 6 (.t 10), none, []⟩,
 ⟨(some 80), .ld1 (.t 79), none, []⟩,
 ⟨(some 81), .bin .eql (.t 80) (.c (.val (.int .i64 1))), none, []⟩,
 ⟨(some 82), .mv (.t 81), none, []⟩,
 ⟨(some 83), .mv (.t 11), (some (82, true)), []⟩,
 ⟨(some 84), .pick (.t 82) (.t 83) (.c (.val (.bool false))), none, []⟩])
 (.cond (.t 84) (.seq (.reg [⟨(some 85), .mv (.t 2), none, []⟩,
 ⟨(some 86), .mv (.t 3), none, []⟩,
 ⟨(some 87), .build [(.val (.int .i64 0)), (.val (.int .i64 0)), (.val (.int .i64 0)), (.val (.int .i64 0)), (.val (.int .i64 0)), (.val (.int .i64 0)), (.val (.int .i64 0))] [(0, 1, (.c (.val (.int .i64 10)))), (1, 1, (.t 85)), (2, 1, (.t 86))], none, []⟩,
 ⟨none, .st 7 (.t 8) (.t 87), none, []⟩,
 ⟨(some 9), .mv (.c (.val (.bool true))), none, []⟩])
 .ret)
 .skip))
 (.seq (.seq (.reg [⟨(some 88), .fad 6 (.t 10), none, []⟩,
 ⟨(some 89), .ld1 (.t 88), none, []⟩,
 ⟨(some 90), .bin .eql (.t 89) (.c (.val (.int .i64 2))), none, []⟩,
 ⟨(some 91), .mv (.t 90), none, []⟩,
 ⟨(some 92), .mv (.t 12), (some (91, true)), []⟩,
 ⟨(some 93), .pick (.t 91) (.t 92) (.c (.val (.bool false))), none, []⟩])
 (.cond (.t 93) (.seq (.reg [⟨(some 94), .mv (.t 2), none, []⟩,
 ⟨(some 95), .build [(.val (.int .i64 0)), (.val (.int .i64 0)), (.val (.int .i64 0)), (.val (.int .i64 0)), (.val (.int .i64 0)), (.val (.int .i64 0)), (.val (.int .i64 0))] [(0, 1, (.c (.val (.int .i64 15)))), (1, 1, (.t 94))], none, []⟩,
 ⟨none, .st 7 (.t 8) (.t 95), none, []⟩,
 ⟨(some 9), .mv (.c (.val (.bool true))), none, []⟩])
 .ret)
 .skip))
 (.seq (.seq (.reg [⟨(some 96), .fad 6 (.t 10), none, []⟩,
 ⟨(some 97), .ld1 (.t 96), none, []⟩,
 ⟨(some 98), .bin .eql (.t 97) (.c (.val (.int .i64 3))), none, []⟩,
 ⟨(some 99), .mv (.t 98), none, []⟩,
 ⟨(some 100), .mv (.t 13), (some (99, true)), []⟩,
 ⟨(some 101), .pick (.t 99) (.t 100) (.c (.val (.bool false))), none, []⟩])
 (.cond (.t 101) (.seq (.seq (.reg [⟨(some 102), .fad 7 (.t 10), none, []⟩,
 ⟨(some 103), .ld1 (.t 102), none, []⟩,
 ⟨(some 104), .fad 11 (.t 10), none, []⟩,
 ⟨(some 105), .ld1 (.t 104), none, []⟩,
 ⟨(some 106), .bin .gtr (.t 103) (.t 105), none, []⟩])
 (.cond (.t 106) (.seq (.reg [⟨(some 107), .mv (.t 2), none, []⟩,
 ⟨(some 108), .fad 7 (.t 10), none, []⟩,
 ⟨(some 109), .ld1 (.t 108), none, []⟩,
 ⟨(some 110), .build [(.val (.int .i64 0)), (.val (.int .i64 0)), (.val (.int .i64 0)), (.val (.int .i64 0)), (.val (.int .i64 0)), (.val (.int .i64 0)), (.val (.int .i64 0))] [(0, 1, (.c (.val (.int .i64 13)))), (1, 1, (.t 107)), (2, 1, (.t 109))], none, []⟩,
 ⟨none, .st 7 (.t 8) (.t 110), none, []⟩,
 ⟨(some 9), .mv (.c (.val (.bool true))), none, []⟩])
 .ret)
 .skip))
 (.seq (.reg [⟨(some 111), .mv (.t 2), none, []⟩,
 ⟨(some 112), .build [(.val (.int .i64 0)), (.val (.int .i64 0)), (.val (.int .i64 0)), (.val (.int .i64 0)), (.val (.int .i64 0)), (.val (.int .i64 0)), (.val (.int .i64 0))] [(0, 1, (.c (.val (.int .i64 14)))), (1, 1, (.t 111))], none, []⟩,
 ⟨none, .st 7 (.t 8) (.t 112), none, []⟩,
 ⟨(some 9), .mv (.c (.val (.bool true))), none, []⟩])
 .ret))
 .skip))
 (.seq (.reg [⟨(some 113), .build [(.val (.int .i64 0)), (.val (.int .i64 0)), (.val (.int .i64 0)), (.val (.int .i64 0)), (.val (.int .i64 0)), (.val (.int .i64 0)), (.val (.int .i64 0))] [], none, []⟩,
 ⟨none, .st 7 (.t 8) (.t 113), none, []⟩,
 ⟨(some 9), .mv (.c (.val (.bool false))), none, []⟩])
 .ret))))))))),
[(.cn 8 7), (.t 9)])
theorem irOk48 : convFn Try.prog Try.f48 = some ir48 := by kernel_rfl
/-- dunnageref20.Next -/
def ir30 : Nat × C × List RV := (142,
(.seq (.reg [⟨(some 3), .box 33 (.t 0), none, []⟩,
 ⟨(some 6), .new 42 [(.val (.int .i64 0)), (.val (.int .i64 0)), (.val (.int .i64 0)), (.val (.int .i64 0)), (.val (.int .i64 0)), (.val (.int .i64 0)), (.val (.int .i64 0))], none, []⟩,
 ⟨(some 7), .mv (.c (.val (.bool false))), none, []⟩])
 (.seq (.seq (.reg [⟨(some 8), .mv (.c (.val (.int .i64 0))), none, []⟩])
 (.block 0 (.loop (.seq (.seq (.reg [⟨(some 13), .mv (.t 8), none, []⟩,
 ⟨(some 14), .fad 0 (.t 3), none, []⟩,
 ⟨(some 15), .ld1 (.t 14), none, []⟩,
 ⟨(some 16), .len (.t 15), none, []⟩,
 ⟨(some 17), .bin .lss (.t 13) (.t 16), none, []⟩,
 ⟨(some 18), .mv (.t 17), none, []⟩,
 ⟨(some 19), .mv (.t 8), (some (18, true)), []⟩,
 ⟨(some 20), .mv (.t 1), (some (18, true)), []⟩,
 ⟨(some 21), .len (.t 20), (some (18, true)), []⟩,
 ⟨(some 22), .bin .lss (.t 19) (.t 21), (some (18, true)), []⟩,
 ⟨(some 23), .pick (.t 18) (.t 22) (.c (.val (.bool false))), none, []⟩])
 (.cond (.t 23) .skip
 (.exit 0)))
 (.seq (.block 1 (.seq (.reg [⟨(some 26), .mv (.t 1), none, []⟩,
 ⟨(some 27), .mv (.t 8), none, []⟩,
 ⟨(some 28), .ixa 11 (.t 26) (.t 27), none, []⟩,
 ⟨(some 29), .fad 1 (.t 28), none, []⟩,
 ⟨(some 30), .ld1 (.t 29), none, []⟩,
 ⟨(some 31), .bin .eql (.t 30) (.c (.val (.int .i64 6))), none, []⟩,
 ⟨(some 32), .mv (.t 31), none, []⟩,
 ⟨(some 33), .mv (.t 1), (some (32, true)), []⟩,
 ⟨(some 34), .mv (.t 8), (some (32, true)), []⟩,
 ⟨(some 35), .ixa 11 (.t 33) (.t 34), (some (32, true)), []⟩,
 ⟨(some 36), .fad 9 (.t 35), (some (32, true)), []⟩,
 ⟨(some 37), .ld1 (.t 36), (some (32, true)), []⟩,
 ⟨(some 38), .bin .eql (.t 37) (.c (.val (.int .i64 0))), (some (32, true)), []⟩,
 ⟨(some 39), .pick (.t 32) (.t 38) (.c (.val (.bool false))), none, []⟩,
 ⟨(some 40), .mv (.t 39), none, []⟩,
 ⟨(some 41), .fad 0 (.t 3), (some (40, true)), []⟩,
 ⟨(some 42), .ld1 (.t 41), (some (40, true)), []⟩,
 ⟨(some 43), .mv (.t 8), (some (40, true)), []⟩,
 ⟨(some 44), .ixa 5 (.t 42) (.t 43), (some (40, true)), []⟩,
 ⟨(some 45), .fad 0 (.t 44), (some (40, true)), []⟩,
 ⟨(some 46), .ld1 (.t 45), (some (40, true)), []⟩,
 ⟨(some 47), .not (.t 46), (some (40, true)), []⟩,
 ⟨(some 48), .pick (.t 40) (.t 47) (.c (.val (.bool false))), none, []⟩,
 ⟨(some 49), .mv (.t 48), none, []⟩,
 ⟨(some 50), .mv (.t 1), (some (49, true)), []⟩,
 ⟨(some 51), .mv (.t 8), (some (49, true)), []⟩,
 ⟨(some 52), .ixa 11 (.t 50) (.t 51), (some (49, true)), []⟩,
 ⟨(some 53), .fad 6 (.t 52), (some (49, true)), []⟩,
 ⟨(some 54), .ld1 (.t 53), (some (49, true)), []⟩,
 ⟨(some 55), .bin .gtr (.t 54) (.c (.val (.int .i64 0))), (some (49, true)), []⟩,
 ⟨(some 56), .pick (.t 49) (.t 55) (.c (.val (.bool false))), none, []⟩,
 ⟨(some 57), .mv (.t 56), none, []⟩,
 ⟨(some 58), .mv (.t 1), (some (57, true)), []⟩,
 ⟨(some 59), .mv (.t 8), (some (57, true)), []⟩,
 ⟨(some 60), .ixa 11 (.t 58) (.t 59), (some (57, true)), []⟩,
 ⟨(some 61), .fad 6 (.t 60), (some (57, true)), []⟩,
 ⟨(some 62), .ld1 (.t 61), (some (57, true)), []⟩,
 ⟨(some 63), .bin .lss (.t 62) (.c (.val (.int .i64 10))), (some (57, true)), []⟩,
 ⟨(some 64), .pick (.t 57) (.t 63) (.c (.val (.bool false))), none, []⟩])
 (.cond (.t 64) (.seq (.reg [⟨(some 65), .mv (.t 8), none, []⟩,
 ⟨(some 66), .mv (.t 1), none, []⟩,
 ⟨(some 67), .mv (.t 8), none, []⟩,
 ⟨(some 68), .ixa 11 (.t 66) (.t 67), none, []⟩,
 ⟨(some 69), .fad 6 (.t 68), none, []⟩,
 ⟨(some 70), .ld1 (.t 69), none, []⟩,
 ⟨(some 71), .build [(.val (.int .i64 0)), (.val (.int .i64 0)), (.val (.int .i64 0)), (.val (.int .i64 0)), (.val (.int .i64 0)), (.val (.int .i64 0)), (.val (.int .i64 0))] [(0, 1, (.c (.val (.int .i64 8)))), (1, 1, (.t 65)), (2, 1, (.t 70))], none, []⟩,
 ⟨none, .st 7 (.t 6) (.t 71), none, []⟩,
 ⟨(some 7), .mv (.c (.val (.bool true))), none, []⟩])
 .ret)
 .skip)))
 (.reg [⟨(some 24), .mv (.t 8), none, []⟩,
 ⟨(some 25), .bin .add (.t 24) (.c (.val (.int .i64 1))), none, []⟩,
 ⟨(some 8), .mv (.t 25), none, []⟩]))))))
 (.seq (.seq (.reg [⟨(some 9), .mv (.c (.val (.int .i64 0))), none, []⟩])
 (.block 2 (.loop (.seq (.seq (.reg [⟨(some 72), .mv (.t 9), none, []⟩,
 ⟨(some 73), .fad 0 (.t 3), none, []⟩,
 ⟨(some 74), .ld1 (.t 73), none, []⟩,
 ⟨(some 75), .len (.t 74), none, []⟩,
 ⟨(some 76), .bin .lss (.t 72) (.t 75), none, []⟩,
 ⟨(some 77), .mv (.t 76), none, []⟩,
 ⟨(some 78), .mv (.t 9), (some (77, true)), []⟩,
 ⟨(some 79), .mv (.t 1), (some (77, true)), []⟩,
 ⟨(some 80), .len (.t 79), (some (77, true)), []⟩,
 ⟨(some 81), .bin .lss (.t 78) (.t 80), (some (77, true)), []⟩,
 ⟨(some 82), .pick (.t 77) (.t 81) (.c (.val (.bool false))), none, []⟩])
 (.cond (.t 82) .skip
 (.exit 2)))
 (.seq (.block 3 (.seq (.regD [⟨(some 85), .mv (.t 1), none, []⟩,
 ⟨(some 86), .mv (.t 9), none, []⟩,
 ⟨(some 87), .ixa 11 (.t 85) (.t 86), none, [0, 1]⟩,
 ⟨(some 88), .fad 1 (.t 87), none, [2, 0, 1]⟩,
 ⟨(some 89), .ld1 (.t 88), none, [3, 2, 0, 1]⟩,
 ⟨(some 90), .bin .eql (.t 89) (.c (.val (.int .i64 6))), none, [4, 3, 2, 0, 1]⟩,
 ⟨(some 91), .mv (.t 90), none, [5, 4, 3, 2, 0, 1]⟩,
 ⟨(some 92), .mv (.t 1), (some (91, true)), [6, 5, 4, 3, 2, 0, 1]⟩,
 ⟨(some 93), .mv (.t 9), (some (91, true)), [6, 5, 4, 3, 2, 0, 1]⟩,
 ⟨(some 94), .ixa 11 (.t 92) (.t 93), (some (91, true)), [7, 6, 5, 4, 3, 2, 0, 1, 8]⟩,
 ⟨(some 95), .fad 9 (.t 94), (some (91, true)), [9, 7, 6, 5, 4, 3, 2, 0, 1, 8]⟩,
 ⟨(some 96), .ld1 (.t 95), (some (91, true)), [10, 9, 7, 6, 5, 4, 3, 2, 0, 1, 8]⟩,
 ⟨(some 97), .bin .eql (.t 96) (.c (.val (.int .i64 0))), (some (91, true)), [11, 10, 9, 7, 6, 5, 4, 3, 2, 0, 1, 8]⟩,
 ⟨(some 98), .pick (.t 91) (.t 97) (.c (.val (.bool false))), none, [6, 5, 4, 3, 2, 0, 1, 12, 11, 10, 9, 7, 8]⟩,
 ⟨(some 99), .mv (.t 98), none, [13, 6, 5, 4, 3, 2, 0, 1, 12, 11, 10, 9, 7, 8]⟩,
 ⟨(some 100), .fad 0 (.t 3), (some (99, true)), [14, 13, 6, 5, 4, 3, 2, 0, 1, 12, 11, 10, 9, 7, 8]⟩,
 ⟨(some 101), .ld1 (.t 100), (some (99, true)), [15, 14, 13, 6, 5, 4, 3, 2, 0, 1, 12, 11, 10, 9, 7, 8]⟩,
 ⟨(some 102), .mv (.t 9), (some (99, true)), [14, 13, 6, 5, 4, 3, 2, 0, 1, 12, 11, 10, 9, 7, 8]⟩,
 ⟨(some 103), .ixa 5 (.t 101) (.t 102), (some (99, true)), [16, 15, 14, 13, 6, 5, 4, 3, 2, 0, 1, 12, 11, 10, 9, 7, 8, 17]⟩,
 ⟨(some 104), .fad 2 (.t 103), (some (99, true)), [18, 16, 15, 14, 13, 6, 5, 4, 3, 2, 0, 1, 12, 11, 10, 9, 7, 8, 17]⟩,
 ⟨(some 105), .ld1 (.t 104), (some (99, true)), [19, 18, 16, 15, 14, 13, 6, 5, 4, 3, 2, 0, 1, 12, 11, 10, 9, 7, 8, 17]⟩,
 ⟨(some 106), .pick (.t 99) (.t 105) (.c (.val (.bool false))), none, [14, 13, 6, 5, 4, 3, 2, 0, 1, 12, 11, 10, 9, 7, 8, 20, 19, 18, 16, 15, 17]⟩,
 ⟨(some 107), .mv (.t 106), none, [21, 14, 13, 6, 5, 4, 3, 2, 0, 1, 12, 11, 10, 9, 7, 8, 20, 19, 18, 16, 15, 17]⟩,
 ⟨(some 108), .mv (.t 1), (some (107, true)), [22, 21, 14, 13, 6, 5, 4, 3, 2, 0, 1, 12, 11, 10, 9, 7, 8, 20, 19, 18, 16, 15, 17]⟩,
 ⟨(some 109), .mv (.t 9), (some (107, true)), [22, 21, 14, 13, 6, 5, 4, 3, 2, 0, 1, 12, 11, 10, 9, 7, 8, 20, 19, 18, 16, 15, 17]⟩,
 ⟨(some 110), .ixa 11 (.t 108) (.t 109), (some (107, true)), [23, 22, 21, 14, 13, 6, 5, 4, 3, 2, 0, 1, 12, 11, 10, 9, 7, 8, 20, 19, 18, 16, 15, 17, 24]⟩,
 ⟨(some 111), .fad 6 (.t 110), (some (107, true)), [25, 23, 22, 21, 14, 13, 6, 5, 4, 3, 2, 0, 1, 12, 11, 10, 9, 7, 8, 20, 19, 18, 16, 15, 17, 24]⟩,
 ⟨(some 112), .ld1 (.t 111), (some (107, true)), [26, 25, 23, 22, 21, 14, 13, 6, 5, 4, 3, 2, 0, 1, 12, 11, 10, 9, 7, 8, 20, 19, 18, 16, 15, 17, 24]⟩,
 ⟨(some 113), .ldn 6 (.t 3), (some (107, true)), [22, 21, 14, 13, 6, 5, 4, 3, 2, 0, 1, 12, 11, 10, 9, 7, 8, 20, 19, 18, 16, 15, 17]⟩,
 ⟨(some 114), .call (.f 38) [(.t 113)], (some (107, true)), [28, 22, 21, 14, 13, 6, 5, 4, 3, 2, 0, 1, 12, 11, 10, 9, 7, 8, 20, 19, 18, 16, 15, 17]⟩,
 ⟨(some 115), .bin .eql (.t 112) (.t 114), (some (107, true)), [27, 26, 25, 23, 22, 21, 14, 13, 6, 5, 4, 3, 2, 0, 1, 12, 11, 10, 9, 7, 8, 20, 19, 18, 16, 15, 17, 24, 29, 28]⟩,
 ⟨(some 116), .pick (.t 107) (.t 115) (.c (.val (.bool false))), none, [22, 21, 14, 13, 6, 5, 4, 3, 2, 0, 1, 12, 11, 10, 9, 7, 8, 20, 19, 18, 16, 15, 17, 30, 27, 26, 25, 23, 24, 29, 28]⟩])
 (.cond (.t 116) (.seq (.reg [⟨(some 117), .mv (.t 9), none, []⟩,
 ⟨(some 118), .mv (.t 1), none, []⟩,
 ⟨(some 119), .mv (.t 9), none, []⟩,
 ⟨(some 120), .ixa 11 (.t 118) (.t 119), none, []⟩,
 ⟨(some 121), .fad 6 (.t 120), none, []⟩,
 ⟨(some 122), .ld1 (.t 121), none, []⟩,
 ⟨(some 123), .build [(.val (.int .i64 0)), (.val (.int .i64 0)), (.val (.int .i64 0)), (.val (.int .i64 0)), (.val (.int .i64 0)), (.val (.int .i64 0)), (.val (.int .i64 0))] [(0, 1, (.c (.val (.int .i64 19)))), (1, 1, (.t 117)), (2, 1, (.t 122))], none, []⟩,
 ⟨none, .st 7 (.t 6) (.t 123), none, []⟩,
 ⟨(some 7), .mv (.c (.val (.bool true))), none, []⟩])
 .ret)
 .skip)))
 (.reg [⟨(some 83), .mv (.t 9), none, []⟩,
 ⟨(some 84), .bin .add (.t 83) (.c (.val (.int .i64 1))), none, []⟩,
 ⟨(some 9), .mv (.t 84), none, []⟩]))))))
 (.seq (.seq (.reg [⟨(some 10), .mv (.c (.val (.int .i64 1))), none, []⟩])
 (.block 4 (.loop (.seq (.seq (.reg [⟨(some 124), .mv (.t 10), none, []⟩,
 ⟨(some 125), .fad 1 (.t 3), none, []⟩,
 ⟨(some 126), .ld1 (.t 125), none, []⟩,
 ⟨(some 127), .len (.t 126), none, []⟩,
 ⟨(some 128), .bin .leq (.t 124) (.t 127), none, []⟩])
 (.cond (.t 128) .skip
 (.exit 4)))
 (.seq (.block 5 (.seq (.reg [⟨(some 132), .ldn 6 (.t 3), none, []⟩,
 ⟨(some 133), .mv (.t 1), none, []⟩,
 ⟨(some 134), .mv (.t 10), none, []⟩,
 ⟨(some 135), .mv (.t 2), none, []⟩,
 ⟨(some 136), .call (.f 48) [(.t 132), (.t 133), (.t 134), (.t 135)], none, []⟩,
 ⟨(some 131), .mv (.t 136), none, []⟩,
 ⟨(some 137), .ext (.t 131) 0, none, []⟩,
 ⟨(some 138), .ext (.t 131) 1, none, []⟩,
 ⟨(some 11), .new 42 [(.val (.int .i64 0)), (.val (.int .i64 0)), (.val (.int .i64 0)), (.val (.int .i64 0)), (.val (.int .i64 0)), (.val (.int .i64 0)), (.val (.int .i64 0))], none, []⟩,
 ⟨none, .st 7 (.t 11) (.t 137), none, []⟩,
 ⟨(some 12), .mv (.t 138), none, []⟩])
 (.seq (.reg [⟨(some 139), .mv (.t 12), none, []⟩])
 (.cond (.t 139) (.seq (.reg [⟨(some 140), .ldn 7 (.t 11), none, []⟩,
 ⟨none, .st 7 (.t 6) (.t 140), none, []⟩,
 ⟨(some 7), .mv (.c (.val (.bool true))), none, []⟩])
 .ret)
 .skip))))
 (.reg [⟨(some 129), .mv (.t 10), none, []⟩,
 ⟨(some 130), .bin .add (.t 129) (.c (.val (.int .i64 1))), none, []⟩,
 ⟨(some 10), .mv (.t 130), none, []⟩]))))))
 (.seq (.reg [⟨(some 141), .build [(.val (.int .i64 0)), (.val (.int .i64 0)), (.val (.int .i64 0)), (.val (.int .i64 0)), (.val (.int .i64 0)), (.val (.int .i64 0)), (.val (.int .i64 0))] [], none, []⟩,
 ⟨none, .st 7 (.t 6) (.t 141), none, []⟩,
 ⟨(some 7), .mv (.c (.val (.bool false))), none, []⟩])
 .ret))))),
[(.cn 6 7), (.t 7)])
theorem irOk30 : convFn Try.prog Try.f30 = some ir30 := by kernel_rfl
/-- dunnageref20.Silent -/
def ir12 : Nat × C × List RV := (37,
(.seq (.reg [⟨(some 8), .mv (.c (.val (.int .i64 0))), none, []⟩])
 (.seq (.seq (.reg [⟨(some 9), .mv (.c (.val (.int .i64 0))), none, []⟩])
 (.block 0 (.loop (.seq (.seq (.reg [⟨(some 10), .mv (.t 9), none, []⟩,
 ⟨(some 11), .mv (.t 0), none, []⟩,
 ⟨(some 12), .len (.t 11), none, []⟩,
 ⟨(some 13), .bin .lss (.t 10) (.t 12), none, []⟩,
 ⟨(some 14), .mv (.t 13), none, []⟩,
 ⟨(some 15), .mv (.t 9), (some (14, true)), []⟩,
 ⟨(some 16), .mv (.t 1), (some (14, true)), []⟩,
 ⟨(some 17), .len (.t 16), (some (14, true)), []⟩,
 ⟨(some 18), .bin .lss (.t 15) (.t 17), (some (14, true)), []⟩,
 ⟨(some 19), .pick (.t 14) (.t 18) (.c (.val (.bool false))), none, []⟩])
 (.cond (.t 19) .skip
 (.exit 0)))
 (.seq (.block 1 (.seq (.reg [⟨(some 22), .mv (.t 0), none, []⟩,
 ⟨(some 23), .mv (.t 9), none, []⟩,
 ⟨(some 24), .ixa 1 (.t 22) (.t 23), none, []⟩,
 ⟨(some 25), .ld1 (.t 24), none, []⟩,
 ⟨(some 26), .mv (.t 25), none, []⟩,
 ⟨(some 27), .mv (.t 1), (some (26, true)), []⟩,
 ⟨(some 28), .mv (.t 9), (some (26, true)), []⟩,
 ⟨(some 29), .ixa 1 (.t 27) (.t 28), (some (26, true)), []⟩,
 ⟨(some 30), .ld1 (.t 29), (some (26, true)), []⟩,
 ⟨(some 31), .mv (.t 2), (some (26, true)), []⟩,
 ⟨(some 32), .bin .add (.t 30) (.t 31), (some (26, true)), []⟩,
 ⟨(some 33), .mv (.t 3), (some (26, true)), []⟩,
 ⟨(some 34), .bin .leq (.t 32) (.t 33), (some (26, true)), []⟩,
 ⟨(some 35), .pick (.t 26) (.t 34) (.c (.val (.bool false))), none, []⟩])
 (.cond (.t 35) (.seq (.reg [⟨(some 36), .mv (.t 9), none, []⟩,
 ⟨(some 8), .mv (.t 36), none, []⟩])
 .ret)
 .skip)))
 (.reg [⟨(some 20), .mv (.t 9), none, []⟩,
 ⟨(some 21), .bin .add (.t 20) (.c (.val (.int .i64 1))), none, []⟩,
 ⟨(some 9), .mv (.t 21), none, []⟩]))))))
 (.seq (.reg [⟨(some 8), .mv (.c (.val (.int .i64 (-1)))), none, []⟩])
 .ret))),
[(.t 8)])
theorem irOk12 : convFn Try.prog Try.f12 = some ir12 := by kernel_rfl


theorem has9_tri (n : Int) (i : Nat) (hi : i < 64) : Tri Try.prog G 63 [.int n, .int i] [] (.bool (hasB n i)) [] := by
  refine tri_W0 Try.func63 (by decide) irOk63 (Nat.le_of_ble_eq_true rfl) rfl ?_
  simp only [ir63, go_sem, ↓reduceIte, zA, zB, zC, zD, zE, zF, reduceCtorEq, zG, zH, zI, zJ, zK, zL, zM, zN, zO, zP]
  have hw : IntKind.u64.wrap (i : Int) = i := by simp [IntKind.wrap, IntKind.bits, IntKind.signed]; omega
  simp only [hw, bit_eq n i hi, go_sem, ↓reduceIte, zA, zB, zC, zD, zE, zF, reduceCtorEq, zG, zH, zI, zJ, zK, zL, zM, zN, zO, zP]
theorem meant9_tri (s : StateD) : Tri Try.prog G 38 [stateV s] [] (.int (meant s)) [] := by
  refine tri_W0 Try.func38 (by decide) irOk38 (Nat.le_of_ble_eq_true rfl) rfl ?_
  simp only [ir38, go_sem, ↓reduceIte, zA, zB, zC, zD, zE, zF, reduceCtorEq, zG, zH, zI, zJ, zK, zL, zM, zN, zO, zP]
  unfold meant
  refine WC_split (fun h => ?_) (fun h => ?_) <;> simp only [h, go_sem, ↓reduceIte, zA, zB, zC, zD, zE, zF, reduceCtorEq, zG, zH, zI, zJ, zK, zL, zM, zN, zO, zP] <;> (try simp only [beq_iff_eq, beq_eq_false_iff_ne, bne_iff_ne, ne_eq, decide_eq_true_eq, decide_eq_false_iff_not, Bool.not_true, Bool.not_false, Bool.not_eq_true, Bool.not_eq_false, bne_eq_false_iff_eq, Decidable.not_not] at h)
  · rw [if_pos h]
  · rw [if_neg h]

theorem says9_tri (s : StateD) (r : List MsgD) (node mode job : Int) (hl : s.jobs.length ≤ 1000) : Tri Try.prog G 64 [stateV s, msgsV r, .int node, .int mode, .int job] [] (.bool (saysB s r node mode job)) [] := by
  rw [says_ref]
  have hg : (job - 1).toNat < s.jobs.length → (s.jobs.map jobR)[(job - 1).toNat]? = some (jobR (s.jobs.getD (job - 1).toNat zeroJob)) := fun h => get_mapD (f := jobR) zeroJob h
  have hg2 : node.toNat < r.length → (r.map msgR)[node.toNat]? = some (msgR (r.getD node.toNat zeroMsg)) := fun h => get_mapD (f := msgR) zeroMsg h
  generalize s.jobs.getD (job - 1).toNat zeroJob = j at *
  generalize r.getD node.toNat zeroMsg = m at *
  refine tri_W0 Try.func64 (by decide) irOk64 (Nat.le_of_ble_eq_true rfl) rfl ?_
  simp only [ir64, go_sem, ↓reduceIte, zA, zB, zC, zD, zE, zF, reduceCtorEq, zG, zH, zI, zJ, zK, zL, zM, zN, zO, zP]
  cases h1 : decide (node < 0) with
  | true =>
    rw [if_pos (.inl (of_decide_eq_true h1))]
    simp only [go_sem, ↓reduceIte, zA, zB, zC, zD, zE, zF, reduceCtorEq, zG, zH, zI, zJ, zK, zL, zM, zN, zO, zP]
  | false =>
  have h1' := of_decide_eq_false h1
  simp only [go_sem, ↓reduceIte, zA, zB, zC, zD, zE, zF, reduceCtorEq, zG, zH, zI, zJ, zK, zL, zM, zN, zO, zP]
  cases h2 : decide (node ≥ (r.length : Int)) with
  | true =>
    rw [if_pos (.inr (.inl (of_decide_eq_true h2)))]
    simp only [go_sem, ↓reduceIte, zA, zB, zC, zD, zE, zF, reduceCtorEq, zG, zH, zI, zJ, zK, zL, zM, zN, zO, zP]
  | false =>
  have h2' : ¬ (r.length : Int) ≤ node := of_decide_eq_false h2
  simp only [go_sem, ↓reduceIte, zA, zB, zC, zD, zE, zF, reduceCtorEq, zG, zH, zI, zJ, zK, zL, zM, zN, zO, zP]
  cases h3 : decide (job < 1) with
  | true =>
    rw [if_pos (.inr (.inr (.inl (of_decide_eq_true h3))))]
    simp only [go_sem, ↓reduceIte, zA, zB, zC, zD, zE, zF, reduceCtorEq, zG, zH, zI, zJ, zK, zL, zM, zN, zO, zP]
  | false =>
  have h3' := of_decide_eq_false h3
  simp only [go_sem, ↓reduceIte, zA, zB, zC, zD, zE, zF, reduceCtorEq, zG, zH, zI, zJ, zK, zL, zM, zN, zO, zP]
  cases h4 : decide (job > (s.jobs.length : Int)) with
  | true =>
    rw [if_pos (.inr (.inr (.inr (of_decide_eq_true h4))))]
    simp only [go_sem, ↓reduceIte, zA, zB, zC, zD, zE, zF, reduceCtorEq, zG, zH, zI, zJ, zK, zL, zM, zN, zO, zP]
  | false =>
  have h4' : ¬ (s.jobs.length : Int) < job := of_decide_eq_false h4
  rw [if_neg (by omega)]
  have h0 : 0 ≤ node := by omega
  have h0' : 0 ≤ job - 1 := by omega
  have hg := hg (by omega)
  have hg2 := hg2 (by omega)
  have hw : IntKind.i64.wrap (job - 1) = job - 1 := wrap_in (by omega) (by omega)
  simp only [hg2, h0, go_sem, ↓reduceIte, zA, zB, zC, zD, zE, zF, reduceCtorEq, zG, zH, zI, zJ, zK, zL, zM, zN, zO, zP]
  cases h5 : (m.kind == 6) <;> simp only [h5, hg2, h0, Bool.false_and, Bool.true_and, go_sem, ↓reduceIte, zA, zB, zC, zD, zE, zF, reduceCtorEq, zG, zH, zI, zJ, zK, zL, zM, zN, zO, zP]
  cases h6 : (m.mode == mode) <;> simp only [h6, hg2, h0, Bool.false_and, Bool.true_and, go_sem, ↓reduceIte, zA, zB, zC, zD, zE, zF, reduceCtorEq, zG, zH, zI, zJ, zK, zL, zM, zN, zO, zP]
  cases h7 : (m.job == job) <;> simp only [h7, hg2, h0, Bool.false_and, Bool.true_and, go_sem, ↓reduceIte, zA, zB, zC, zD, zE, zF, reduceCtorEq, zG, zH, zI, zJ, zK, zL, zM, zN, zO, zP]
  simp only [hw, hg, h0', go_sem, ↓reduceIte, zA, zB, zC, zD, zE, zF, reduceCtorEq, zG, zH, zI, zJ, zK, zL, zM, zN, zO, zP]
def everyTo (m : Int) (tk : Nat → Bool) (k : Nat) : Bool := (List.range k).all fun i => !hasB m i || tk i
theorem everyTo_succ (m : Int) (tk : Nat → Bool) (k : Nat) : everyTo m tk (k + 1) = (everyTo m tk k && (!hasB m k || tk k)) := by
  unfold everyTo
  rw [List.range_succ, List.all_append]
  simp only [List.all_cons, List.all_nil, Bool.and_true]
def tkH (s : StateD) (r : List MsgD) (job : Int) (i : Nat) : Bool := saysB s r i 1 job || saysB s r i 2 job
def tkW (s : StateD) (r : List MsgD) (job : Int) (j : JobD) (i : Nat) : Bool := saysB s r i 2 job && decide (j.work ≤ (reportM r i).work)
def tkK (s : StateD) (r : List MsgD) (job : Int) (i : Nat) : Bool := saysB s r i 3 job
def gangS (s : StateD) (r : List MsgD) (job now : Int) (j : JobD) (k : Nat) : St := ⟨[(1, msgsV r), (2, .int job), (3, .int now), (4, .ptr 0 0), (8, .ptr 1 0), (9, .bool false), (10, .ptr 2 0), (11, .bool (everyTo j.nodes (tkH s r job) k)), (12, .bool (everyTo j.nodes (tkW s r job j) k)), (13, .bool (everyTo j.nodes (tkK s r job) k)), (14, .int k)],
  [some (.box 33 [nodesV s.nodes, jobsV s.jobs, .int s.goal, .int s.prior, .int s.mode, .int s.term]), some (.box 42 [.int 0, .int 0, .int 0, .int 0, .int 0, .int 0, .int 0]),
   some (.box 47 [.int j.queue, .int j.prio, .int j.min, .int j.max, .int j.work, .int j.pin, .int j.phase, .int j.inc, .int j.nodes, .int j.since, .int j.til, .int j.epoch])]⟩
set_option maxHeartbeats 1000000 in
theorem gang9_tri (s : StateD) (r : List MsgD) (job now : Int) (hl : s.jobs.length ≤ 1000) : Tri Try.prog G 48 [stateV s, msgsV r, .int job, .int now] [] (optM (gangO s r job now)) [] := by
  unfold gangO
  have hg : (job - 1).toNat < s.jobs.length → (s.jobs.map jobR)[(job - 1).toNat]? = some (jobR (s.jobs.getD (job - 1).toNat zeroJob)) := fun h => get_mapD (f := jobR) zeroJob h
  generalize s.jobs.getD (job - 1).toNat zeroJob = j at *
  refine tri_W0 Try.func48 (by decide) irOk48 (Nat.le_of_ble_eq_true rfl) rfl ?_
  simp only [ir48, go_sem, ↓reduceIte, zA, zB, zC, zD, zE, zF, reduceCtorEq, zG, zH, zI, zJ, zK, zL, zM, zN, zO, zP]
  cases h1 : decide (job < 1) with
  | true =>
    have h1' : job < 1 := of_decide_eq_true h1
    rw [if_pos (.inl h1')]
    simp only [go_sem, ↓reduceIte, zA, zB, zC, zD, zE, zF, reduceCtorEq, zG, zH, zI, zJ, zK, zL, zM, zN, zO, zP, optM, Option.getD_none, Option.isSome_none]
  | false =>
  have h1' : ¬ job < 1 := of_decide_eq_false h1
  simp only [go_sem, ↓reduceIte, zA, zB, zC, zD, zE, zF, reduceCtorEq, zG, zH, zI, zJ, zK, zL, zM, zN, zO, zP]
  cases h2 : decide (job > (s.jobs.length : Int)) with
  | true =>
    have h2' : (s.jobs.length : Int) < job := of_decide_eq_true h2
    rw [if_pos (.inr h2')]
    simp only [go_sem, ↓reduceIte, zA, zB, zC, zD, zE, zF, reduceCtorEq, zG, zH, zI, zJ, zK, zL, zM, zN, zO, zP, optM, Option.getD_none, Option.isSome_none]
  | false =>
  have h2' : ¬ (s.jobs.length : Int) < job := of_decide_eq_false h2
  rw [if_neg (by omega)]
  have h0' : 0 ≤ job - 1 := by omega
  have hg := hg (by omega)
  have hw : IntKind.i64.wrap (job - 1) = job - 1 := wrap_in (by omega) (by omega)
  simp only [hw, hg, h0', go_sem, ↓reduceIte, zA, zB, zC, zD, zE, zF, reduceCtorEq, zG, zH, zI, zJ, zK, zL, zM, zN, zO, zP]
  refine W_loopI [1, 2, 3, 4, 8, 9, 10, 11, 12, 13, 14] [] (fun k : Nat => k ≤ 6) (fun k => 6 - k) (gangS s r job now j) 0 ?_ (by omega) (fun k hk => ?_)
  · simp only [gangS, go_sem, ↓reduceIte, zA, zB, zC, zD, zE, zF, reduceCtorEq, zG, zH, zI, zJ, zK, zL, zM, zN, zO, zP, Int.natCast_zero, show ∀ tk, everyTo j.nodes tk 0 = true from fun _ => rfl]
  have hH := everyTo_succ j.nodes (tkH s r job) k
  have hW := everyTo_succ j.nodes (tkW s r job j) k
  have hK := everyTo_succ j.nodes (tkK s r job) k
  have eH : ∀ i, tkH s r job i = (saysB s r i 1 job || saysB s r i 2 job) := fun i => rfl
  have eW : ∀ i, tkW s r job j i = (saysB s r i 2 job && decide (j.work ≤ (reportM r i).work)) := fun i => rfl
  have eK : ∀ i, tkK s r job i = saysB s r i 3 job := fun i => rfl
  simp only [gangS, go_sem, ↓reduceIte, zA, zB, zC, zD, zE, zF, reduceCtorEq, zG, zH, zI, zJ, zK, zL, zM, zN, zO, zP]
  refine WC_split (fun h => ?_) (fun h => ?_) <;> simp only [h, go_sem, ↓reduceIte, zA, zB, zC, zD, zE, zF, reduceCtorEq, zG, zH, zI, zJ, zK, zL, zM, zN, zO, zP] <;> (try simp only [beq_iff_eq, beq_eq_false_iff_ne, bne_iff_ne, ne_eq, decide_eq_true_eq, decide_eq_false_iff_not, Bool.not_true, Bool.not_false, Bool.not_eq_true, Bool.not_eq_false, bne_eq_false_iff_eq, Decidable.not_not] at h)
  · have hk6 : k < 6 := by omega
    refine W_calld (has9_tri j.nodes k (by omega)) rfl rfl rfl rfl ?_; simp only [go_sem, ↓reduceIte, zA, zB, zC, zD, zE, zF, reduceCtorEq, zG, zH, zI, zJ, zK, zL, zM, zN, zO, zP]
    cases hh : hasB j.nodes k with
    | false =>
      rw [hh, Bool.not_false, Bool.true_or, Bool.and_true] at hH hW hK
      simp only [go_sem, ↓reduceIte, zA, zB, zC, zD, zE, zF, reduceCtorEq, zG, zH, zI, zJ, zK, zL, zM, zN, zO, zP]
      refine W_lpI (k + 1) ?_ ?_ (by omega) (by omega)
      · simp only [go_sem, ↓reduceIte, zA, zB, zC, zD, zE, zF, reduceCtorEq, zG, zH, zI, zJ, zK, zL, zM, zN, zO, zP]
      · simp only [gangS, go_sem, ↓reduceIte, zA, zB, zC, zD, zE, zF, reduceCtorEq, zG, zH, zI, zJ, zK, zL, zM, zN, zO, zP, wrap_succ (show k < 9223372036854775807 by omega), hH, hW, hK]
    | true =>
    rw [hh, Bool.not_true, Bool.false_or] at hH hW hK
    rw [eH] at hH
    rw [eW] at hW
    rw [eK] at hK
    simp only [go_sem, ↓reduceIte, zA, zB, zC, zD, zE, zF, reduceCtorEq, zG, zH, zI, zJ, zK, zL, zM, zN, zO, zP]
    refine W_calld (says9_tri s r k 2 job hl) rfl rfl rfl rfl ?_; simp only [go_sem, ↓reduceIte, zA, zB, zC, zD, zE, zF, reduceCtorEq, zG, zH, zI, zJ, zK, zL, zM, zN, zO, zP]
    have hx2 : saysB s r k 2 job = true → (r.map msgR)[k]? = some (msgR (reportM r k)) := fun hx => by
      have h3 := says_is hx
      have h4 := h3.1
      unfold saysB at hx
      simp only [Bool.and_eq_true, beq_iff_eq] at hx
      have h5 := report_rng hx.1.1.1.1.1
      rw [h5.2.2]
      exact get_mapD (f := msgR) zeroMsg (by omega)
    generalize saysB s r k 2 job = x2 at *
    cases x2 with
    | true =>
      have hg2 := hx2 rfl
      generalize reportM r k = m at *
      cases hHk : everyTo j.nodes (tkH s r job) k <;> cases hWk : everyTo j.nodes (tkW s r job j) k <;> cases hKk : everyTo j.nodes (tkK s r job) k <;> simp only [hHk, hWk, hKk, Bool.true_and, Bool.false_and, Bool.or_true] at hH hW hK <;> simp only [hg2, go_sem, ↓reduceIte, zA, zB, zC, zD, zE, zF, reduceCtorEq, zG, zH, zI, zJ, zK, zL, zM, zN, zO, zP]
      all_goals (try (refine W_opsD_end (by decide) ?_; simp only [go_sem, ↓reduceIte, zA, zB, zC, zD, zE, zF, reduceCtorEq, zG, zH, zI, zJ, zK, zL, zM, zN, zO, zP]))
      all_goals (try (refine W_calld (says9_tri s r k 3 job hl) rfl rfl rfl rfl ?_; simp only [go_sem, ↓reduceIte, zA, zB, zC, zD, zE, zF, reduceCtorEq, zG, zH, zI, zJ, zK, zL, zM, zN, zO, zP]))
      all_goals
        refine W_lpI (k + 1) ?_ ?_ (by omega) (by omega)
        · simp only [go_sem, ↓reduceIte, zA, zB, zC, zD, zE, zF, reduceCtorEq, zG, zH, zI, zJ, zK, zL, zM, zN, zO, zP]
        · simp only [gangS, go_sem, ↓reduceIte, zA, zB, zC, zD, zE, zF, reduceCtorEq, zG, zH, zI, zJ, zK, zL, zM, zN, zO, zP, wrap_succ (show k < 9223372036854775807 by omega), hH, hW, hK, ge_iff_le]
    | false =>
      cases hHk : everyTo j.nodes (tkH s r job) k <;> cases hWk : everyTo j.nodes (tkW s r job j) k <;> cases hKk : everyTo j.nodes (tkK s r job) k <;> simp only [hHk, hWk, hKk, Bool.true_and, Bool.false_and, Bool.or_false] at hH hW hK <;> simp only [go_sem, ↓reduceIte, zA, zB, zC, zD, zE, zF, reduceCtorEq, zG, zH, zI, zJ, zK, zL, zM, zN, zO, zP]
      all_goals (try (refine W_calld (says9_tri s r k 1 job hl) rfl rfl rfl rfl ?_; simp only [go_sem, ↓reduceIte, zA, zB, zC, zD, zE, zF, reduceCtorEq, zG, zH, zI, zJ, zK, zL, zM, zN, zO, zP]))
      all_goals (try (refine W_opsD_end (by decide) ?_; simp only [go_sem, ↓reduceIte, zA, zB, zC, zD, zE, zF, reduceCtorEq, zG, zH, zI, zJ, zK, zL, zM, zN, zO, zP]))
      all_goals (try (refine W_calld (says9_tri s r k 3 job hl) rfl rfl rfl rfl ?_; simp only [go_sem, ↓reduceIte, zA, zB, zC, zD, zE, zF, reduceCtorEq, zG, zH, zI, zJ, zK, zL, zM, zN, zO, zP]))
      all_goals
        refine W_lpI (k + 1) ?_ ?_ (by omega) (by omega)
        · simp only [go_sem, ↓reduceIte, zA, zB, zC, zD, zE, zF, reduceCtorEq, zG, zH, zI, zJ, zK, zL, zM, zN, zO, zP]
        · simp only [gangS, go_sem, ↓reduceIte, zA, zB, zC, zD, zE, zF, reduceCtorEq, zG, zH, zI, zJ, zK, zL, zM, zN, zO, zP, wrap_succ (show k < 9223372036854775807 by omega), hH, hW, hK]
  · obtain rfl : k = 6 := by omega
    rw [show everyTo j.nodes (tkH s r job) 6 = everyB j.nodes (fun i => saysB s r i 1 job || saysB s r i 2 job) from rfl, show everyTo j.nodes (tkW s r job j) 6 = everyB j.nodes (fun i => saysB s r i 2 job && decide (j.work ≤ (reportM r i).work)) from rfl, show everyTo j.nodes (tkK s r job) 6 = everyB j.nodes (fun i => saysB s r i 3 job) from rfl]
    unfold gangT
    generalize everyB j.nodes (fun i => saysB s r i 1 job || saysB s r i 2 job) = e1 at *
    generalize everyB j.nodes (fun i => saysB s r i 2 job && decide (j.work ≤ (reportM r i).work)) = e2 at *
    generalize everyB j.nodes (fun i => saysB s r i 3 job) = e3 at *
    cases hp1 : (j.phase == 1) with
    | true =>
      have hp1' : j.phase = 1 := by simpa using hp1
      simp only [hp1', Int.reduceEq, if_true, if_false, go_sem, ↓reduceIte, zA, zB, zC, zD, zE, zF, reduceCtorEq, zG, zH, zI, zJ, zK, zL, zM, zN, zO, zP]
      cases e1 <;> simp only [someP, Bool.false_eq_true, optM, Option.getD_some, Option.isSome_some, Option.getD_none, Option.isSome_none, go_sem, ↓reduceIte, zA, zB, zC, zD, zE, zF, reduceCtorEq, zG, zH, zI, zJ, zK, zL, zM, zN, zO, zP]
    | false =>
    have hp1' : ¬ j.phase = 1 := by simpa using hp1
    simp only [hp1, if_neg hp1', go_sem, ↓reduceIte, zA, zB, zC, zD, zE, zF, reduceCtorEq, zG, zH, zI, zJ, zK, zL, zM, zN, zO, zP]
    cases hp2 : (j.phase == 2) with
    | true =>
      have hp2' : j.phase = 2 := by simpa using hp2
      simp only [hp2', Int.reduceEq, if_true, if_false, go_sem, ↓reduceIte, zA, zB, zC, zD, zE, zF, reduceCtorEq, zG, zH, zI, zJ, zK, zL, zM, zN, zO, zP]
      cases e2 <;> simp only [someP, Bool.false_eq_true, optM, Option.getD_some, Option.isSome_some, Option.getD_none, Option.isSome_none, go_sem, ↓reduceIte, zA, zB, zC, zD, zE, zF, reduceCtorEq, zG, zH, zI, zJ, zK, zL, zM, zN, zO, zP]
    | false =>
    have hp2' : ¬ j.phase = 2 := by simpa using hp2
    simp only [hp2, if_neg hp2', go_sem, ↓reduceIte, zA, zB, zC, zD, zE, zF, reduceCtorEq, zG, zH, zI, zJ, zK, zL, zM, zN, zO, zP]
    cases hp3 : (j.phase == 3) with
    | true =>
      have hp3' : j.phase = 3 := by simpa using hp3
      simp only [hp3', Int.reduceEq, if_true, if_false, go_sem, ↓reduceIte, zA, zB, zC, zD, zE, zF, reduceCtorEq, zG, zH, zI, zJ, zK, zL, zM, zN, zO, zP]
      cases e3 with
      | false => simp only [someP, Bool.false_eq_true, optM, Option.getD_some, Option.isSome_some, Option.getD_none, Option.isSome_none, go_sem, ↓reduceIte, zA, zB, zC, zD, zE, zF, reduceCtorEq, zG, zH, zI, zJ, zK, zL, zM, zN, zO, zP]
      | true =>
        simp only [someP, Bool.false_eq_true, optM, Option.getD_some, Option.isSome_some, Option.getD_none, Option.isSome_none, go_sem, ↓reduceIte, zA, zB, zC, zD, zE, zF, reduceCtorEq, zG, zH, zI, zJ, zK, zL, zM, zN, zO, zP]
        cases he : decide (j.inc > j.epoch) with
        | true =>
          have he' : j.epoch < j.inc := of_decide_eq_true he
          simp only [if_pos he', go_sem, ↓reduceIte, zA, zB, zC, zD, zE, zF, reduceCtorEq, zG, zH, zI, zJ, zK, zL, zM, zN, zO, zP]
        | false =>
          have he' : ¬ j.epoch < j.inc := of_decide_eq_false he
          simp only [if_neg he', go_sem, ↓reduceIte, zA, zB, zC, zD, zE, zF, reduceCtorEq, zG, zH, zI, zJ, zK, zL, zM, zN, zO, zP]
    | false =>
    have hp3' : ¬ j.phase = 3 := by simpa using hp3
    simp only [hp3, if_neg hp3', someP, Bool.false_eq_true, optM, Option.getD_some, Option.isSome_some, Option.getD_none, Option.isSome_none, go_sem, ↓reduceIte, zA, zB, zC, zD, zE, zF, reduceCtorEq, zG, zH, zI, zJ, zK, zL, zM, zN, zO, zP]
end Dv
