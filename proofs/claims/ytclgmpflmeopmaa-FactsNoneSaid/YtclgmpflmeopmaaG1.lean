/- The facts' contracts: what a report is, who says what. -/
import Derived.Test.YtclgmpflmeopmaaD2
import Derived.Test.YtclgmpflmeopmaaP8
import Derived.Test.YtclgmpflmeopmaaR2
set_option linter.unusedVariables false
set_option linter.unusedSimpArgs false
namespace Dv
open Go Go.Proofs
open Nat renaming reduceEqDiff → zA, reduceAdd → zB, reduceSub → zC, reduceMul → zD, reduceLT → zE, reduceLeDiff → zF
open Int renaming reduceLE → zG, reduceLT → zH, reduceToNat → zI, reduceBEq → zJ, reduceBNe → zK, reduceEq → zL, reduceAdd → zM, reduceSub → zN, reduceMul → zO, reduceNeg → zP
attribute [local go_sem] argEnv W_nil W_seq W_skip W_ret W_exit W_scope W_block W_blk W_reg W_regD W_cond WC_t WC_f WC_any Wx_c Wx_ops Wx_lp Wx_blk W_ops_nil W_opsD_q W_guard W_guardD WG_tt WG_ff WG_tf WG_ft WG_u WGD_tt WGD_ff WGD_tf WGD_ft WGD_u WE_some WED_some W_mv W_pick W_new W_box W_build W_bsl W_ld1 W_ldn W_st W_nck W_bin W_eqb W_not W_cvt W_fad W_fld1 W_fldn W_ixa W_ixr W_ix1 W_ixs W_len W_lens W_mkf W_ext W_app W_min W_isnp W_isns W_eqs W_neg W_ixn W_sli W_sls WD_mv WD_pick WD_new WD_box WD_build WD_bsl WD_ld1 WD_ldn WD_st WD_nck WD_bin WD_eqb WD_not WD_cvt WD_fad WD_fld1 WD_fldn WD_ixa WD_ixr WD_ix1 WD_ixs WD_len WD_lens WD_mkf WD_ext WD_app WD_min WD_isnp WD_isns WD_eqs WD_neg WD_ixn WD_sli WD_sls effF Opd.ev getE putE binV LV.int LV.bool LV.undef Go.undef LV.cells LV.toD LV.toDs splice fillL rowsOf srcRows updL objL Eff.owned nwp St.get St.obj St.put Value.oneCell' Ends adopt Ad.ap isNil St.keep St.okKeep okObj idl idlL idlO RVs.of RV.of oneOr Ends0 EndsO_iff frzs rn rnL rnO piOf eqCells eqV boundV Option.map_some Option.map_none List.append_nil List.nil_append List.cons_append List.map_nil List.map_cons List.length_nil List.length_cons List.set_cons_zero List.set_cons_succ List.take_succ_cons List.take_zero List.take_nil List.drop_succ_cons List.drop_zero List.drop_nil List.getElem?_cons_zero List.getElem?_cons_succ List.getElem?_nil List.isEmpty_nil List.isEmpty_cons List.all_cons List.all_nil List.isEmpty_nil cond_true cond_false Bool.true_and Bool.false_and Bool.and_true Bool.and_false Bool.not_true Bool.not_false Bool.or_true Bool.true_or Bool.or_false Bool.false_or true_and and_true true_or or_true Option.some.injEq LV.d.injEq DV.val.injEq Value.bool.injEq Value.int.injEq decide_true decide_false and_self Nat.zero_add Nat.add_zero if_true if_false Int.toNat_zero beq_self_eq_true Nat.zero_lt_succ Int.toNat_natCast Int.natCast_nonneg List.length_map i64 bl List.zip_cons_cons List.zip_nil_left List.zip_nil_right nwp confV stateV nodeV jobV nodesV jobsV opV msgV nodeR jobR opR msgR zeroOp zeroMsg msgsV
variable {G : Nat → Option (List DV)}

/-- facts.report -/
def ir49 : Nat × C × List RV := (26,
(.seq (.reg [⟨(some 4), .new 53 [(.val (.int .i64 0)), (.val (.int .i64 0)), (.val (.int .i64 0)), (.val (.int .i64 0)), (.val (.int .i64 0)), (.val (.int .i64 0)), (.val (.int .i64 0)), (.val (.int .i64 0)), (.val (.int .i64 0)), (.val (.int .i64 0)), (.val (.int .i64 0))], none, []⟩])
 (.seq (.seq (.reg [⟨(some 5), .mv (.t 1), none, []⟩,
 ⟨(some 6), .bin .lss (.t 5) (.c (.val (.int .i64 0))), none, []⟩,
 ⟨(some 7), .mv (.t 6), none, []⟩,
 ⟨(some 8), .mv (.t 1), (some (7, false)), []⟩,
 ⟨(some 9), .mv (.t 0), (some (7, false)), []⟩,
 ⟨(some 10), .len (.t 9), (some (7, false)), []⟩,
 ⟨(some 11), .bin .geq (.t 8) (.t 10), (some (7, false)), []⟩,
 ⟨(some 12), .pick (.t 7) (.c (.val (.bool true))) (.t 11), none, []⟩,
 ⟨(some 13), .mv (.t 12), none, []⟩,
 ⟨(some 14), .mv (.t 0), (some (13, false)), []⟩,
 ⟨(some 15), .mv (.t 1), (some (13, false)), []⟩,
 ⟨(some 16), .ixa 11 (.t 14) (.t 15), (some (13, false)), []⟩,
 ⟨(some 17), .fad 1 (.t 16), (some (13, false)), []⟩,
 ⟨(some 18), .ld1 (.t 17), (some (13, false)), []⟩,
 ⟨(some 19), .bin .neq (.t 18) (.c (.val (.int .i64 6))), (some (13, false)), []⟩,
 ⟨(some 20), .pick (.t 13) (.c (.val (.bool true))) (.t 19), none, []⟩])
 (.cond (.t 20) (.seq (.reg [⟨(some 21), .build [(.val (.int .i64 0)), (.val (.int .i64 0)), (.val (.int .i64 0)), (.val (.int .i64 0)), (.val (.int .i64 0)), (.val (.int .i64 0)), (.val (.int .i64 0)), (.val (.int .i64 0)), (.val (.int .i64 0)), (.val (.int .i64 0)), (.val (.int .i64 0))] [], none, []⟩,
 ⟨none, .st 11 (.t 4) (.t 21), none, []⟩])
 .ret)
 .skip))
 (.seq (.reg [⟨(some 22), .mv (.t 0), none, []⟩,
 ⟨(some 23), .mv (.t 1), none, []⟩,
 ⟨(some 24), .ixa 11 (.t 22) (.t 23), none, []⟩,
 ⟨(some 25), .ldn 11 (.t 24), none, []⟩,
 ⟨none, .st 11 (.t 4) (.t 25), none, []⟩])
 .ret))),
[(.cn 4 11)])
theorem irOk49 : convFn Try.prog Try.f49 = some ir49 := by kernel_rfl
/-- facts.idle -/
def ir57 : Nat × C × List RV := (11,
(.seq (.reg [⟨(some 1), .box 53 (.t 0), none, []⟩,
 ⟨(some 2), .mv (.c (.val (.bool false))), none, []⟩])
 (.seq (.reg [⟨(some 3), .fad 1 (.t 1), none, []⟩,
 ⟨(some 4), .ld1 (.t 3), none, []⟩,
 ⟨(some 5), .bin .eql (.t 4) (.c (.val (.int .i64 6))), none, []⟩,
 ⟨(some 6), .mv (.t 5), none, []⟩,
 ⟨(some 7), .fad 9 (.t 1), (some (6, true)), []⟩,
 ⟨(some 8), .ld1 (.t 7), (some (6, true)), []⟩,
 ⟨(some 9), .bin .eql (.t 8) (.c (.val (.int .i64 0))), (some (6, true)), []⟩,
 ⟨(some 10), .pick (.t 6) (.t 9) (.c (.val (.bool false))), none, []⟩,
 ⟨(some 2), .mv (.t 10), none, []⟩])
 .ret)),
[(.t 2)])
theorem irOk57 : convFn Try.prog Try.f57 = some ir57 := by kernel_rfl
/-- facts.Says -/
def ir32 : Nat × C × List RV := (53,
(.seq (.reg [⟨(some 5), .box 33 (.t 0), none, []⟩,
 ⟨(some 10), .mv (.c (.val (.bool false))), none, []⟩])
 (.seq (.reg [⟨(some 12), .mv (.t 1), none, []⟩,
 ⟨(some 13), .mv (.t 2), none, []⟩,
 ⟨(some 14), .call (.f 49) [(.t 12), (.t 13)], none, []⟩,
 ⟨(some 11), .new 53 [(.val (.int .i64 0)), (.val (.int .i64 0)), (.val (.int .i64 0)), (.val (.int .i64 0)), (.val (.int .i64 0)), (.val (.int .i64 0)), (.val (.int .i64 0)), (.val (.int .i64 0)), (.val (.int .i64 0)), (.val (.int .i64 0)), (.val (.int .i64 0))], none, []⟩,
 ⟨none, .st 11 (.t 11) (.t 14), none, []⟩])
 (.seq (.regD [⟨(some 15), .fad 1 (.t 11), none, []⟩,
 ⟨(some 16), .ld1 (.t 15), none, [0]⟩,
 ⟨(some 17), .bin .eql (.t 16) (.c (.val (.int .i64 6))), none, [1, 0]⟩,
 ⟨(some 18), .mv (.t 17), none, [2, 1, 0]⟩,
 ⟨(some 19), .mv (.t 4), (some (18, true)), [3, 2, 1, 0]⟩,
 ⟨(some 20), .bin .geq (.t 19) (.c (.val (.int .i64 1))), (some (18, true)), [4, 3, 2, 1, 0]⟩,
 ⟨(some 21), .pick (.t 18) (.t 20) (.c (.val (.bool false))), none, [3, 2, 1, 0, 5, 4]⟩,
 ⟨(some 22), .mv (.t 21), none, [6, 3, 2, 1, 0, 5, 4]⟩,
 ⟨(some 23), .mv (.t 4), (some (22, true)), [7, 6, 3, 2, 1, 0, 5, 4]⟩,
 ⟨(some 24), .fad 1 (.t 5), (some (22, true)), [7, 6, 3, 2, 1, 0, 5, 4]⟩,
 ⟨(some 25), .ld1 (.t 24), (some (22, true)), [9, 7, 6, 3, 2, 1, 0, 5, 4]⟩,
 ⟨(some 26), .len (.t 25), (some (22, true)), [10, 9, 7, 6, 3, 2, 1, 0, 5, 4]⟩,
 ⟨(some 27), .bin .leq (.t 23) (.t 26), (some (22, true)), [8, 7, 6, 3, 2, 1, 0, 5, 4, 11, 10, 9]⟩,
 ⟨(some 28), .pick (.t 22) (.t 27) (.c (.val (.bool false))), none, [7, 6, 3, 2, 1, 0, 5, 4, 12, 8, 11, 10, 9]⟩,
 ⟨(some 29), .mv (.t 28), none, [13, 7, 6, 3, 2, 1, 0, 5, 4, 12, 8, 11, 10, 9]⟩,
 ⟨(some 30), .fad 9 (.t 11), (some (29, true)), [14, 13, 7, 6, 3, 2, 1, 0, 5, 4, 12, 8, 11, 10, 9]⟩,
 ⟨(some 31), .ld1 (.t 30), (some (29, true)), [15, 14, 13, 7, 6, 3, 2, 1, 0, 5, 4, 12, 8, 11, 10, 9]⟩,
 ⟨(some 32), .mv (.t 3), (some (29, true)), [14, 13, 7, 6, 3, 2, 1, 0, 5, 4, 12, 8, 11, 10, 9]⟩,
 ⟨(some 33), .bin .eql (.t 31) (.t 32), (some (29, true)), [16, 15, 14, 13, 7, 6, 3, 2, 1, 0, 5, 4, 12, 8, 11, 10, 9, 17]⟩,
 ⟨(some 34), .pick (.t 29) (.t 33) (.c (.val (.bool false))), none, [14, 13, 7, 6, 3, 2, 1, 0, 5, 4, 12, 8, 11, 10, 9, 18, 16, 15, 17]⟩,
 ⟨(some 35), .mv (.t 34), none, [19, 14, 13, 7, 6, 3, 2, 1, 0, 5, 4, 12, 8, 11, 10, 9, 18, 16, 15, 17]⟩,
 ⟨(some 36), .fad 4 (.t 11), (some (35, true)), [20, 19, 14, 13, 7, 6, 3, 2, 1, 0, 5, 4, 12, 8, 11, 10, 9, 18, 16, 15, 17]⟩,
 ⟨(some 37), .ld1 (.t 36), (some (35, true)), [21, 20, 19, 14, 13, 7, 6, 3, 2, 1, 0, 5, 4, 12, 8, 11, 10, 9, 18, 16, 15, 17]⟩,
 ⟨(some 38), .mv (.t 4), (some (35, true)), [20, 19, 14, 13, 7, 6, 3, 2, 1, 0, 5, 4, 12, 8, 11, 10, 9, 18, 16, 15, 17]⟩,
 ⟨(some 39), .bin .eql (.t 37) (.t 38), (some (35, true)), [22, 21, 20, 19, 14, 13, 7, 6, 3, 2, 1, 0, 5, 4, 12, 8, 11, 10, 9, 18, 16, 15, 17, 23]⟩,
 ⟨(some 40), .pick (.t 35) (.t 39) (.c (.val (.bool false))), none, [20, 19, 14, 13, 7, 6, 3, 2, 1, 0, 5, 4, 12, 8, 11, 10, 9, 18, 16, 15, 17, 24, 22, 21, 23]⟩,
 ⟨(some 41), .mv (.t 40), none, [25, 20, 19, 14, 13, 7, 6, 3, 2, 1, 0, 5, 4, 12, 8, 11, 10, 9, 18, 16, 15, 17, 24, 22, 21, 23]⟩,
 ⟨(some 42), .fad 5 (.t 11), (some (41, true)), [26, 25, 20, 19, 14, 13, 7, 6, 3, 2, 1, 0, 5, 4, 12, 8, 11, 10, 9, 18, 16, 15, 17, 24, 22, 21, 23]⟩,
 ⟨(some 43), .ld1 (.t 42), (some (41, true)), [27, 26, 25, 20, 19, 14, 13, 7, 6, 3, 2, 1, 0, 5, 4, 12, 8, 11, 10, 9, 18, 16, 15, 17, 24, 22, 21, 23]⟩,
 ⟨(some 44), .fad 1 (.t 5), (some (41, true)), [26, 25, 20, 19, 14, 13, 7, 6, 3, 2, 1, 0, 5, 4, 12, 8, 11, 10, 9, 18, 16, 15, 17, 24, 22, 21, 23]⟩,
 ⟨(some 45), .ld1 (.t 44), (some (41, true)), [29, 26, 25, 20, 19, 14, 13, 7, 6, 3, 2, 1, 0, 5, 4, 12, 8, 11, 10, 9, 18, 16, 15, 17, 24, 22, 21, 23]⟩,
 ⟨(some 46), .mv (.t 4), (some (41, true)), [26, 25, 20, 19, 14, 13, 7, 6, 3, 2, 1, 0, 5, 4, 12, 8, 11, 10, 9, 18, 16, 15, 17, 24, 22, 21, 23]⟩,
 ⟨(some 47), .bin .sub (.t 46) (.c (.val (.int .i64 1))), (some (41, true)), [31, 26, 25, 20, 19, 14, 13, 7, 6, 3, 2, 1, 0, 5, 4, 12, 8, 11, 10, 9, 18, 16, 15, 17, 24, 22, 21, 23]⟩,
 ⟨(some 48), .ixa 12 (.t 45) (.t 47), (some (41, true)), [30, 29, 26, 25, 20, 19, 14, 13, 7, 6, 3, 2, 1, 0, 5, 4, 12, 8, 11, 10, 9, 18, 16, 15, 17, 24, 22, 21, 23, 32, 31]⟩,
 ⟨(some 49), .fad 7 (.t 48), (some (41, true)), [33, 30, 29, 26, 25, 20, 19, 14, 13, 7, 6, 3, 2, 1, 0, 5, 4, 12, 8, 11, 10, 9, 18, 16, 15, 17, 24, 22, 21, 23, 32, 31]⟩,
 ⟨(some 50), .ld1 (.t 49), (some (41, true)), [34, 33, 30, 29, 26, 25, 20, 19, 14, 13, 7, 6, 3, 2, 1, 0, 5, 4, 12, 8, 11, 10, 9, 18, 16, 15, 17, 24, 22, 21, 23, 32, 31]⟩,
 ⟨(some 51), .bin .eql (.t 43) (.t 50), (some (41, true)), [28, 27, 26, 25, 20, 19, 14, 13, 7, 6, 3, 2, 1, 0, 5, 4, 12, 8, 11, 10, 9, 18, 16, 15, 17, 24, 22, 21, 23, 35, 34, 33, 30, 29, 32, 31]⟩,
 ⟨(some 52), .pick (.t 41) (.t 51) (.c (.val (.bool false))), none, [26, 25, 20, 19, 14, 13, 7, 6, 3, 2, 1, 0, 5, 4, 12, 8, 11, 10, 9, 18, 16, 15, 17, 24, 22, 21, 23, 36, 28, 27, 35, 34, 33, 30, 29, 32, 31]⟩,
 ⟨(some 10), .mv (.t 52), none, [37, 26, 25, 20, 19, 14, 13, 7, 6, 3, 2, 1, 0, 5, 4, 12, 8, 11, 10, 9, 18, 16, 15, 17, 24, 22, 21, 23, 36, 28, 27, 35, 34, 33, 30, 29, 32, 31]⟩])
 .ret))),
[(.t 10)])
theorem irOk32 : convFn Try.prog Try.f32 = some ir32 := by kernel_rfl
/-- facts.gang$1 -/
def ir58 : Nat × C × List RV := (7,
(.seq (.reg [⟨(some 4), .box 3 (.t 0), none, []⟩,
 ⟨(some 5), .mv (.c (.val .nilFunc)), none, []⟩])
 (.seq (.reg [⟨(some 6), .mkf (.func 59) [] [(.t 1), (.t 2), (.t 4), (.t 3)], none, []⟩,
 ⟨(some 5), .mv (.t 6), none, []⟩])
 .ret)),
[(.t 5)])
theorem irOk58 : convFn Try.prog Try.f58 = some ir58 := by kernel_rfl
/-- facts.gang$1$1 -/
def ir59 : Nat × C × List RV := (13,
(.seq (.reg [⟨(some 6), .mv (.c (.val (.bool false))), none, []⟩])
 (.seq (.reg [⟨(some 7), .ldn 6 (.t 1), none, []⟩,
 ⟨(some 8), .ld1 (.t 2), none, []⟩,
 ⟨(some 9), .mv (.t 0), none, []⟩,
 ⟨(some 10), .ld1 (.t 3), none, []⟩,
 ⟨(some 11), .ld1 (.t 4), none, []⟩,
 ⟨(some 12), .call (.f 32) [(.t 7), (.t 8), (.t 9), (.t 10), (.t 11)], none, []⟩,
 ⟨(some 6), .mv (.t 12), none, []⟩])
 .ret)),
[(.t 6)])
theorem irOk59 : convFn Try.prog Try.f59 = some ir59 := by kernel_rfl
/-- facts.gang$2 -/
def ir61 : Nat × C × List RV := (14,
(.seq (.reg [⟨(some 3), .mv (.c (.val (.bool false))), none, []⟩])
 (.seq (.reg [⟨(some 4), .ld1 (.t 1), none, []⟩,
 ⟨(some 5), .call (.t 4) [(.c (.val (.int .i64 1)))], none, []⟩,
 ⟨(some 6), .mv (.t 0), none, []⟩,
 ⟨(some 7), .call (.t 5) [(.t 6)], none, []⟩,
 ⟨(some 8), .mv (.t 7), none, []⟩,
 ⟨(some 9), .ld1 (.t 1), (some (8, false)), []⟩,
 ⟨(some 10), .call (.t 9) [(.c (.val (.int .i64 2)))], (some (8, false)), []⟩,
 ⟨(some 11), .mv (.t 0), (some (8, false)), []⟩,
 ⟨(some 12), .call (.t 10) [(.t 11)], (some (8, false)), []⟩,
 ⟨(some 13), .pick (.t 8) (.c (.val (.bool true))) (.t 12), none, []⟩,
 ⟨(some 3), .mv (.t 13), none, []⟩])
 .ret)),
[(.t 3)])
theorem irOk61 : convFn Try.prog Try.f61 = some ir61 := by kernel_rfl
/-- facts.gang$3 -/
def ir62 : Nat × C × List RV := (19,
(.seq (.reg [⟨(some 5), .mv (.c (.val (.bool false))), none, []⟩])
 (.seq (.regD [⟨(some 6), .ld1 (.t 1), none, []⟩,
 ⟨(some 7), .call (.t 6) [(.c (.val (.int .i64 2)))], none, [0]⟩,
 ⟨(some 8), .mv (.t 0), none, []⟩,
 ⟨(some 9), .call (.t 7) [(.t 8)], none, [1, 0, 2]⟩,
 ⟨(some 10), .mv (.t 9), none, [3, 1, 0, 2]⟩,
 ⟨(some 11), .ld1 (.t 2), (some (10, true)), [4, 3, 1, 0, 2]⟩,
 ⟨(some 12), .mv (.t 0), (some (10, true)), [4, 3, 1, 0, 2]⟩,
 ⟨(some 13), .call (.f 49) [(.t 11), (.t 12)], (some (10, true)), [5, 4, 3, 1, 0, 2, 6]⟩,
 ⟨(some 14), .fld1 10 (.t 13), (some (10, true)), [7, 5, 4, 3, 1, 0, 2, 6]⟩,
 ⟨(some 15), .fad 4 (.t 3), (some (10, true)), [4, 3, 1, 0, 2]⟩,
 ⟨(some 16), .ld1 (.t 15), (some (10, true)), [9, 4, 3, 1, 0, 2]⟩,
 ⟨(some 17), .bin .geq (.t 14) (.t 16), (some (10, true)), [8, 7, 5, 4, 3, 1, 0, 2, 6, 10, 9]⟩,
 ⟨(some 18), .pick (.t 10) (.t 17) (.c (.val (.bool false))), none, [4, 3, 1, 0, 2, 11, 8, 7, 5, 6, 10, 9]⟩,
 ⟨(some 5), .mv (.t 18), none, [12, 4, 3, 1, 0, 2, 11, 8, 7, 5, 6, 10, 9]⟩])
 .ret)),
[(.t 5)])
theorem irOk62 : convFn Try.prog Try.f62 = some ir62 := by kernel_rfl


theorem report_tri (r : List MsgD) (i : Int) : Tri Try.prog G 49 [msgsV r, .int i] [] (msgV (reportM r i)) [] := by
  have hg : i.toNat < r.length → (r.map msgR)[i.toNat]? = some (msgR (r.getD i.toNat zeroMsg)) := fun h => get_mapD (f := msgR) zeroMsg h
  unfold reportM
  generalize r.getD i.toNat zeroMsg = m at *
  refine tri_W0 Try.func49 (by decide) irOk49 (Nat.le_of_ble_eq_true rfl) rfl ?_
  simp only [ir49, go_sem, ↓reduceIte, zA, zB, zC, zD, zE, zF, reduceCtorEq, zG, zH, zI, zJ, zK, zL, zM, zN, zO, zP]
  cases h1 : decide (i < 0) with
  | true =>
    have h1' : i < 0 := of_decide_eq_true h1
    simp only [h1', true_or, if_true, go_sem, ↓reduceIte, zA, zB, zC, zD, zE, zF, reduceCtorEq, zG, zH, zI, zJ, zK, zL, zM, zN, zO, zP]
  | false =>
  have h1' : ¬ i < 0 := of_decide_eq_false h1
  simp only [h1', false_or, go_sem, ↓reduceIte, zA, zB, zC, zD, zE, zF, reduceCtorEq, zG, zH, zI, zJ, zK, zL, zM, zN, zO, zP]
  cases h2 : decide (i ≥ (r.length : Int)) with
  | true =>
    have h2' : (r.length : Int) ≤ i := of_decide_eq_true h2
    simp only [h2', if_true, go_sem, ↓reduceIte, zA, zB, zC, zD, zE, zF, reduceCtorEq, zG, zH, zI, zJ, zK, zL, zM, zN, zO, zP]
  | false =>
  have h2' : ¬ (r.length : Int) ≤ i := of_decide_eq_false h2
  have h0 : 0 ≤ i := by omega
  have hg := hg (by omega)
  rw [if_neg h2']
  simp only [h0, h2', hg, go_sem, ↓reduceIte, zA, zB, zC, zD, zE, zF, reduceCtorEq, zG, zH, zI, zJ, zK, zL, zM, zN, zO, zP]
  cases h3 : (m.kind != 6) with
  | true =>
    have h3' : ¬ m.kind = 6 := by simpa using h3
    rw [if_neg h3']
    simp only [go_sem, ↓reduceIte, zA, zB, zC, zD, zE, zF, reduceCtorEq, zG, zH, zI, zJ, zK, zL, zM, zN, zO, zP]
  | false =>
    have h3' : m.kind = 6 := by simpa using h3
    rw [if_pos h3']
    simp only [h0, h2', hg, go_sem, ↓reduceIte, zA, zB, zC, zD, zE, zF, reduceCtorEq, zG, zH, zI, zJ, zK, zL, zM, zN, zO, zP]

theorem idle_tri (m : MsgD) : Tri Try.prog G 57 [msgV m] [] (.bool (idleB m)) [] := by
  refine tri_W0 Try.func57 (by decide) irOk57 (Nat.le_of_ble_eq_true rfl) rfl ?_
  simp only [ir57, go_sem, ↓reduceIte, zA, zB, zC, zD, zE, zF, reduceCtorEq, zG, zH, zI, zJ, zK, zL, zM, zN, zO, zP]
  unfold idleB
  repeat' (first | ((first | with_reducible refine WG_splitn (fun h => ?_) (fun h => ?_) | refine WG_split (fun h => ?_) (fun h => ?_)) <;> simp only [h, go_sem, ↓reduceIte, zA, zB, zC, zD, zE, zF, reduceCtorEq, zG, zH, zI, zJ, zK, zL, zM, zN, zO, zP]) | ((first | with_reducible refine WGD_splitn (fun h => ?_) (fun h => ?_) | refine WGD_split (fun h => ?_) (fun h => ?_)) <;> simp only [h, go_sem, ↓reduceIte, zA, zB, zC, zD, zE, zF, reduceCtorEq, zG, zH, zI, zJ, zK, zL, zM, zN, zO, zP]))

theorem says_tri (s : StateD) (r : List MsgD) (node mode job : Int) (hl : s.jobs.length ≤ 1000) : Tri Try.prog G 32 [stateV s, msgsV r, .int node, .int mode, .int job] [] (.bool (saysB s r node mode job)) [] := by
  unfold saysB
  have hg : (job - 1).toNat < s.jobs.length → (s.jobs.map jobR)[(job - 1).toNat]? = some (jobR (s.jobs.getD (job - 1).toNat zeroJob)) := fun h => get_mapD (f := jobR) zeroJob h
  generalize s.jobs.getD (job - 1).toNat zeroJob = j at *
  refine tri_W0 Try.func32 (by decide) irOk32 (Nat.le_of_ble_eq_true rfl) rfl ?_
  simp only [ir32, go_sem, ↓reduceIte, zA, zB, zC, zD, zE, zF, reduceCtorEq, zG, zH, zI, zJ, zK, zL, zM, zN, zO, zP]
  refine W_calld (report_tri r node) rfl rfl rfl rfl ?_; simp only [go_sem, ↓reduceIte, zA, zB, zC, zD, zE, zF, reduceCtorEq, zG, zH, zI, zJ, zK, zL, zM, zN, zO, zP]
  generalize reportM r node = m at *
  cases h1 : (m.kind == 6) <;> simp only [h1, Bool.false_and, Bool.true_and, go_sem, ↓reduceIte, zA, zB, zC, zD, zE, zF, reduceCtorEq, zG, zH, zI, zJ, zK, zL, zM, zN, zO, zP]
  cases h2 : decide (job ≥ 1) with
  | false => simp only [h2, show decide (1 ≤ job) = false from h2, Bool.false_and, Bool.true_and, go_sem, ↓reduceIte, zA, zB, zC, zD, zE, zF, reduceCtorEq, zG, zH, zI, zJ, zK, zL, zM, zN, zO, zP]
  | true =>
  simp only [h2, show decide (1 ≤ job) = true from h2, Bool.false_and, Bool.true_and, go_sem, ↓reduceIte, zA, zB, zC, zD, zE, zF, reduceCtorEq, zG, zH, zI, zJ, zK, zL, zM, zN, zO, zP]
  cases h3 : decide (job ≤ (s.jobs.length : Int)) <;> simp only [h3, Bool.false_and, Bool.true_and, go_sem, ↓reduceIte, zA, zB, zC, zD, zE, zF, reduceCtorEq, zG, zH, zI, zJ, zK, zL, zM, zN, zO, zP]
  cases h4 : (m.mode == mode) <;> simp only [h4, Bool.false_and, Bool.true_and, go_sem, ↓reduceIte, zA, zB, zC, zD, zE, zF, reduceCtorEq, zG, zH, zI, zJ, zK, zL, zM, zN, zO, zP]
  cases h5 : (m.job == job) <;> simp only [h5, Bool.false_and, Bool.true_and, go_sem, ↓reduceIte, zA, zB, zC, zD, zE, zF, reduceCtorEq, zG, zH, zI, zJ, zK, zL, zM, zN, zO, zP]
  have h2' : 1 ≤ job := of_decide_eq_true h2
  have h3' : job ≤ s.jobs.length := of_decide_eq_true h3
  have h4' : 0 ≤ job - 1 := by omega
  have hw : IntKind.i64.wrap (job - 1) = job - 1 := wrap_in (by omega) (by omega)
  have hg := hg (by omega)
  simp only [hw, hg, h4', go_sem, ↓reduceIte, zA, zB, zC, zD, zE, zF, reduceCtorEq, zG, zH, zI, zJ, zK, zL, zM, zN, zO, zP]

/-! the closures -/
def stateB (s : StateD) : LObj := .box 33 [nodesV s.nodes, jobsV s.jobs, .int s.goal, .int s.prior, .int s.mode, .int s.term]
def rB (r : List MsgD) : LObj := .box 48 [msgsV r]
def intB (x : Int) : LObj := .box 3 [.int x]
def saysX : LObj := .box 80 [.fn (.func 58) [] [.ptr 0 0, .ptr 1 0, .ptr 2 0]]
def jobB (j : JobD) : LObj := .box 47 [.int j.queue, .int j.prio, .int j.min, .int j.max, .int j.work, .int j.pin, .int j.phase, .int j.inc, .int j.nodes, .int j.since, .int j.til, .int j.epoch]
attribute [local go_sem] stateB rB intB saysX jobB

theorem says11_tri (s : StateD) (r : List MsgD) (node mode job : Int) (hl : s.jobs.length ≤ 1000) :
    Tri Try.prog G 59 [.int node, .ptr 0 0, .ptr 1 0, .ptr 3 0, .ptr 2 0] [stateB s, rB r, intB job, intB mode] (.bool (saysB s r node mode job)) [stateB s, rB r, intB job, intB mode] := by
  refine tri_WO Try.func59 (by decide) irOk59 (Nat.le_of_ble_eq_true rfl) rfl rfl rfl ?_
  simp only [ir59, go_sem, ↓reduceIte, zA, zB, zC, zD, zE, zF, reduceCtorEq, zG, zH, zI, zJ, zK, zL, zM, zN, zO, zP]
  refine W_calld (says_tri s r node mode job hl) rfl rfl rfl rfl ?_; simp only [go_sem, ↓reduceIte, zA, zB, zC, zD, zE, zF, reduceCtorEq, zG, zH, zI, zJ, zK, zL, zM, zN, zO, zP]

theorem says1_tri (s : StateD) (r : List MsgD) (mode job : Int) :
    Tri Try.prog G 58 [.int mode, .ptr 0 0, .ptr 1 0, .ptr 2 0] [stateB s, rB r, intB job] (.fn (.func 59) [] [.ptr 0 0, .ptr 1 0, .ptr 3 0, .ptr 2 0]) [stateB s, rB r, intB job, intB mode] := by
  refine tri_W Try.func58 (by decide) irOk58 (Nat.le_of_ble_eq_true rfl) ?_
  simp only [ir58, go_sem, ↓reduceIte, zA, zB, zC, zD, zE, zF, reduceCtorEq, zG, zH, zI, zJ, zK, zL, zM, zN, zO, zP]
  refine BackR [] [0, 1, 2, 3] [] rfl rfl (by decide) (by simp) (by simp) rfl rfl ?_
  show argR _ _ _ (.fn (.func 59) [] [.ptr 0 0, .ptr 1 0, .ptr 3 0, .ptr 2 0]) _
  simp [argR, argRs]

theorem fHold_tri (s : StateD) (r : List MsgD) (node job : Int) (hl : s.jobs.length ≤ 1000) :
    Tri Try.prog G 61 [.int node, .ptr 3 0] [stateB s, rB r, intB job, saysX] (.bool (saysB s r node 1 job || saysB s r node 2 job)) [stateB s, rB r, intB job, saysX] := by
  refine tri_WP Try.func61 (by decide) irOk61 (Nat.le_of_ble_eq_true rfl) rfl rfl rfl ?_
  simp only [ir61, go_sem, ↓reduceIte, zA, zB, zC, zD, zE, zF, reduceCtorEq, zG, zH, zI, zJ, zK, zL, zM, zN, zO, zP]
  refine W_callo [0, 1, 2] (says1_tri s r 1 job) rfl (by simp only [argRs, argR, List.map_cons, List.map_nil, go_sem, ↓reduceIte, zA, zB, zC, zD, zE, zF, reduceCtorEq, zG, zH, zI, zJ, zK, zL, zM, zN, zO, zP]) (by decide) (by simp only [go_sem, ↓reduceIte, zA, zB, zC, zD, zE, zF, reduceCtorEq, zG, zH, zI, zJ, zK, zL, zM, zN, zO, zP]) (by simp only [go_sem, ↓reduceIte, zA, zB, zC, zD, zE, zF, reduceCtorEq, zG, zH, zI, zJ, zK, zL, zM, zN, zO, zP, List.all_cons, List.all_nil]) (by simp) ?_; simp only [go_sem, ↓reduceIte, zA, zB, zC, zD, zE, zF, reduceCtorEq, zG, zH, zI, zJ, zK, zL, zM, zN, zO, zP]
  refine W_callo [0, 1, 2, 4] (says11_tri s r node 1 job hl) rfl (by simp only [argRs, argR, List.map_cons, List.map_nil, go_sem, ↓reduceIte, zA, zB, zC, zD, zE, zF, reduceCtorEq, zG, zH, zI, zJ, zK, zL, zM, zN, zO, zP]) (by decide) (by simp only [go_sem, ↓reduceIte, zA, zB, zC, zD, zE, zF, reduceCtorEq, zG, zH, zI, zJ, zK, zL, zM, zN, zO, zP]) (by simp only [go_sem, ↓reduceIte, zA, zB, zC, zD, zE, zF, reduceCtorEq, zG, zH, zI, zJ, zK, zL, zM, zN, zO, zP, List.all_cons, List.all_nil]) (by simp) ?_; simp only [go_sem, ↓reduceIte, zA, zB, zC, zD, zE, zF, reduceCtorEq, zG, zH, zI, zJ, zK, zL, zM, zN, zO, zP]
  cases h1 : saysB s r node 1 job with
  | true => simp only [Bool.true_or, go_sem, ↓reduceIte, zA, zB, zC, zD, zE, zF, reduceCtorEq, zG, zH, zI, zJ, zK, zL, zM, zN, zO, zP]
  | false =>
  simp only [Bool.false_or, go_sem, ↓reduceIte, zA, zB, zC, zD, zE, zF, reduceCtorEq, zG, zH, zI, zJ, zK, zL, zM, zN, zO, zP]
  refine W_callo [0, 1, 2] (says1_tri s r 2 job) rfl (by simp only [argRs, argR, List.map_cons, List.map_nil, go_sem, ↓reduceIte, zA, zB, zC, zD, zE, zF, reduceCtorEq, zG, zH, zI, zJ, zK, zL, zM, zN, zO, zP]) (by decide) (by simp only [go_sem, ↓reduceIte, zA, zB, zC, zD, zE, zF, reduceCtorEq, zG, zH, zI, zJ, zK, zL, zM, zN, zO, zP]) (by simp only [go_sem, ↓reduceIte, zA, zB, zC, zD, zE, zF, reduceCtorEq, zG, zH, zI, zJ, zK, zL, zM, zN, zO, zP, List.all_cons, List.all_nil]) (by simp) ?_; simp only [go_sem, ↓reduceIte, zA, zB, zC, zD, zE, zF, reduceCtorEq, zG, zH, zI, zJ, zK, zL, zM, zN, zO, zP]
  refine W_callo [0, 1, 2, 5] (says11_tri s r node 2 job hl) rfl (by simp only [argRs, argR, List.map_cons, List.map_nil, go_sem, ↓reduceIte, zA, zB, zC, zD, zE, zF, reduceCtorEq, zG, zH, zI, zJ, zK, zL, zM, zN, zO, zP]) (by decide) (by simp only [go_sem, ↓reduceIte, zA, zB, zC, zD, zE, zF, reduceCtorEq, zG, zH, zI, zJ, zK, zL, zM, zN, zO, zP]) (by simp only [go_sem, ↓reduceIte, zA, zB, zC, zD, zE, zF, reduceCtorEq, zG, zH, zI, zJ, zK, zL, zM, zN, zO, zP, List.all_cons, List.all_nil]) (by simp) ?_; simp only [go_sem, ↓reduceIte, zA, zB, zC, zD, zE, zF, reduceCtorEq, zG, zH, zI, zJ, zK, zL, zM, zN, zO, zP]

theorem fWork_tri (s : StateD) (r : List MsgD) (node job : Int) (j : JobD) (hl : s.jobs.length ≤ 1000) :
    Tri Try.prog G 62 [.int node, .ptr 3 0, .ptr 1 0, .ptr 4 0] [stateB s, rB r, intB job, saysX, jobB j] (.bool (saysB s r node 2 job && decide (j.work ≤ (reportM r node).work))) [stateB s, rB r, intB job, saysX, jobB j] := by
  refine tri_WP Try.func62 (by decide) irOk62 (Nat.le_of_ble_eq_true rfl) rfl rfl rfl ?_
  simp only [ir62, go_sem, ↓reduceIte, zA, zB, zC, zD, zE, zF, reduceCtorEq, zG, zH, zI, zJ, zK, zL, zM, zN, zO, zP]
  refine WD_callo [0, 1, 2] (says1_tri s r 2 job) rfl (by simp only [argRs, argR, List.map_cons, List.map_nil, go_sem, ↓reduceIte, zA, zB, zC, zD, zE, zF, reduceCtorEq, zG, zH, zI, zJ, zK, zL, zM, zN, zO, zP]) (by decide) (by simp only [go_sem, ↓reduceIte, zA, zB, zC, zD, zE, zF, reduceCtorEq, zG, zH, zI, zJ, zK, zL, zM, zN, zO, zP]) (by simp only [go_sem, ↓reduceIte, zA, zB, zC, zD, zE, zF, reduceCtorEq, zG, zH, zI, zJ, zK, zL, zM, zN, zO, zP, List.all_cons, List.all_nil]) (by simp) ?_; simp only [go_sem, ↓reduceIte, zA, zB, zC, zD, zE, zF, reduceCtorEq, zG, zH, zI, zJ, zK, zL, zM, zN, zO, zP]
  refine WD_callo [0, 1, 2, 5] (says11_tri s r node 2 job hl) rfl (by simp only [argRs, argR, List.map_cons, List.map_nil, go_sem, ↓reduceIte, zA, zB, zC, zD, zE, zF, reduceCtorEq, zG, zH, zI, zJ, zK, zL, zM, zN, zO, zP]) (by decide) (by simp only [go_sem, ↓reduceIte, zA, zB, zC, zD, zE, zF, reduceCtorEq, zG, zH, zI, zJ, zK, zL, zM, zN, zO, zP]) (by simp only [go_sem, ↓reduceIte, zA, zB, zC, zD, zE, zF, reduceCtorEq, zG, zH, zI, zJ, zK, zL, zM, zN, zO, zP, List.all_cons, List.all_nil]) (by simp) ?_; simp only [go_sem, ↓reduceIte, zA, zB, zC, zD, zE, zF, reduceCtorEq, zG, zH, zI, zJ, zK, zL, zM, zN, zO, zP]
  cases h1 : saysB s r node 2 job with
  | false =>
    simp only [Bool.false_and, go_sem, ↓reduceIte, zA, zB, zC, zD, zE, zF, reduceCtorEq, zG, zH, zI, zJ, zK, zL, zM, zN, zO, zP]
    refine W_opsD_end (by decide) ?_
    simp only [go_sem, ↓reduceIte, zA, zB, zC, zD, zE, zF, reduceCtorEq, zG, zH, zI, zJ, zK, zL, zM, zN, zO, zP]
  | true =>
  simp only [Bool.true_and, go_sem, ↓reduceIte, zA, zB, zC, zD, zE, zF, reduceCtorEq, zG, zH, zI, zJ, zK, zL, zM, zN, zO, zP]
  refine WD_calld (report_tri r node) rfl rfl rfl rfl ?_; simp only [go_sem, ↓reduceIte, zA, zB, zC, zD, zE, zF, reduceCtorEq, zG, zH, zI, zJ, zK, zL, zM, zN, zO, zP]
  refine W_opsD_end (by decide) ?_
  simp only [go_sem, ↓reduceIte, zA, zB, zC, zD, zE, zF, reduceCtorEq, zG, zH, zI, zJ, zK, zL, zM, zN, zO, zP]

end Dv
