/- The book's work: the ops of nodes and jobs. -/
import Derived.Test.YtjmceebhnjiikaaDoorD9
set_option linter.unusedVariables false
set_option linter.unusedSimpArgs false
namespace Dv
open Go Go.Proofs
open Nat renaming reduceEqDiff → zA, reduceAdd → zB, reduceSub → zC, reduceMul → zD, reduceLT → zE, reduceLeDiff → zF
open Int renaming reduceLE → zG, reduceLT → zH, reduceToNat → zI, reduceBEq → zJ, reduceBNe → zK, reduceEq → zL, reduceAdd → zM, reduceSub → zN, reduceMul → zO, reduceNeg → zP
attribute [local go_sem] argEnv W_nil W_seq W_skip W_ret W_exit W_scope W_block W_blk W_reg W_regD W_cond WC_t WC_f WC_any Wx_c Wx_ops Wx_lp Wx_blk W_ops_nil W_opsD_q W_guard W_guardD WG_tt WG_ff WG_tf WG_ft WG_u WGD_tt WGD_ff WGD_tf WGD_ft WGD_u WE_some WED_some W_mv W_pick W_new W_box W_build W_bsl W_ld1 W_ldn W_st W_nck W_bin W_eqb W_not W_cvt W_fad W_fld1 W_fldn W_ixa W_ixr W_ix1 W_ixs W_len W_lens W_mkf W_ext W_app W_min W_isnp W_isns W_eqs W_neg W_ixn W_sli W_sls WD_mv WD_pick WD_new WD_box WD_build WD_bsl WD_ld1 WD_ldn WD_st WD_nck WD_bin WD_eqb WD_not WD_cvt WD_fad WD_fld1 WD_fldn WD_ixa WD_ixr WD_ix1 WD_ixs WD_len WD_lens WD_mkf WD_ext WD_app WD_min WD_isnp WD_isns WD_eqs WD_neg WD_ixn WD_sli WD_sls effF Opd.ev getE putE binV LV.int LV.bool LV.undef Go.undef LV.cells LV.toD LV.toDs splice fillL rowsOf srcRows updL objL Eff.owned nwp St.get St.obj St.put Value.oneCell' Ends adopt Ad.ap isNil St.keep St.okKeep okObj idl idlL idlO RVs.of RV.of oneOr Ends0 EndsO_iff frzs rn rnL rnO piOf eqCells eqV boundV Option.map_some Option.map_none List.append_nil List.nil_append List.cons_append List.map_nil List.map_cons List.length_nil List.length_cons List.set_cons_zero List.set_cons_succ List.take_succ_cons List.take_zero List.take_nil List.drop_succ_cons List.drop_zero List.drop_nil List.getElem?_cons_zero List.getElem?_cons_succ List.getElem?_nil List.isEmpty_nil List.isEmpty_cons List.all_cons List.all_nil List.isEmpty_nil cond_true cond_false Bool.true_and Bool.false_and Bool.and_true Bool.and_false Bool.not_true Bool.not_false Bool.or_true Bool.true_or Bool.or_false Bool.false_or true_and and_true true_or or_true Option.some.injEq LV.d.injEq DV.val.injEq Value.bool.injEq Value.int.injEq decide_true decide_false and_self Nat.zero_add Nat.add_zero if_true if_false Int.toNat_zero beq_self_eq_true Nat.zero_lt_succ Int.toNat_natCast Int.natCast_nonneg List.length_map i64 bl List.zip_cons_cons List.zip_nil_left List.zip_nil_right nwp confV stateV nodeV jobV nodesV jobsV opV msgV nodeR jobR opR msgR zeroOp zeroMsg msgsV
variable {G : Nat → Option (List DV)}

/-- book.Free -/
def ir30 : Nat × C × List RV := (20,
(.seq (.reg [⟨(some 1), .box 48 (.t 0), none, []⟩,
 ⟨(some 2), .mv (.c (.val (.bool false))), none, []⟩])
 (.seq (.reg [⟨(some 3), .fad 0 (.t 1), none, []⟩,
 ⟨(some 4), .ld1 (.t 3), none, []⟩,
 ⟨(some 5), .mv (.t 4), none, []⟩,
 ⟨(some 6), .fad 1 (.t 1), (some (5, true)), []⟩,
 ⟨(some 7), .ld1 (.t 6), (some (5, true)), []⟩,
 ⟨(some 8), .not (.t 7), (some (5, true)), []⟩,
 ⟨(some 9), .pick (.t 5) (.t 8) (.c (.val (.bool false))), none, []⟩,
 ⟨(some 10), .mv (.t 9), none, []⟩,
 ⟨(some 11), .fad 2 (.t 1), (some (10, true)), []⟩,
 ⟨(some 12), .ld1 (.t 11), (some (10, true)), []⟩,
 ⟨(some 13), .not (.t 12), (some (10, true)), []⟩,
 ⟨(some 14), .pick (.t 10) (.t 13) (.c (.val (.bool false))), none, []⟩,
 ⟨(some 15), .mv (.t 14), none, []⟩,
 ⟨(some 16), .fad 4 (.t 1), (some (15, true)), []⟩,
 ⟨(some 17), .ld1 (.t 16), (some (15, true)), []⟩,
 ⟨(some 18), .bin .eql (.t 17) (.c (.val (.int .i64 0))), (some (15, true)), []⟩,
 ⟨(some 19), .pick (.t 15) (.t 18) (.c (.val (.bool false))), none, []⟩,
 ⟨(some 2), .mv (.t 19), none, []⟩])
 .ret)),
[(.t 2)])
theorem irOk30 : convFn Tryd.prog Tryd.f30 = some ir30 := by kernel_rfl
/-- book.work.cordon -/
def ir86 : Nat × C × List RV := (26,
(.seq (.reg [⟨(some 2), .mv (.c (.val (.int .i64 0))), none, []⟩])
 (.seq (.seq (.reg [⟨(some 3), .mv (.t 0), none, []⟩,
 ⟨(some 4), .nck (.t 3), none, []⟩,
 ⟨(some 5), .fad 23 (.t 4), none, []⟩,
 ⟨(some 6), .ld1 (.t 5), none, []⟩,
 ⟨(some 7), .nck (.t 6), none, []⟩,
 ⟨(some 8), .fad 0 (.t 7), none, []⟩,
 ⟨(some 9), .ld1 (.t 8), none, []⟩,
 ⟨(some 10), .not (.t 9), none, []⟩,
 ⟨(some 11), .mv (.t 10), none, []⟩,
 ⟨(some 12), .mv (.t 0), (some (11, false)), []⟩,
 ⟨(some 13), .nck (.t 12), (some (11, false)), []⟩,
 ⟨(some 14), .fad 23 (.t 13), (some (11, false)), []⟩,
 ⟨(some 15), .ld1 (.t 14), (some (11, false)), []⟩,
 ⟨(some 16), .nck (.t 15), (some (11, false)), []⟩,
 ⟨(some 17), .fad 1 (.t 16), (some (11, false)), []⟩,
 ⟨(some 18), .ld1 (.t 17), (some (11, false)), []⟩,
 ⟨(some 19), .pick (.t 11) (.c (.val (.bool true))) (.t 18), none, []⟩])
 (.cond (.t 19) (.seq (.reg [⟨(some 2), .mv (.c (.val (.int .i64 5))), none, []⟩])
 .ret)
 .skip))
 (.seq (.reg [⟨(some 20), .mv (.t 0), none, []⟩,
 ⟨(some 21), .nck (.t 20), none, []⟩,
 ⟨(some 22), .fad 23 (.t 21), none, []⟩,
 ⟨(some 23), .ld1 (.t 22), none, []⟩,
 ⟨(some 24), .nck (.t 23), none, []⟩,
 ⟨(some 25), .fad 1 (.t 24), none, []⟩,
 ⟨none, .st 1 (.t 25) (.c (.val (.bool true))), none, []⟩])
 (.seq (.reg [⟨(some 2), .mv (.c (.val (.int .i64 0))), none, []⟩])
 .ret)))),
[(.t 2)])
theorem irOk86 : convFn Tryd.prog Tryd.f86 = some ir86 := by kernel_rfl
/-- book.work.uncordon -/
def ir87 : Nat × C × List RV := (26,
(.seq (.reg [⟨(some 2), .mv (.c (.val (.int .i64 0))), none, []⟩])
 (.seq (.seq (.reg [⟨(some 3), .mv (.t 0), none, []⟩,
 ⟨(some 4), .nck (.t 3), none, []⟩,
 ⟨(some 5), .fad 23 (.t 4), none, []⟩,
 ⟨(some 6), .ld1 (.t 5), none, []⟩,
 ⟨(some 7), .nck (.t 6), none, []⟩,
 ⟨(some 8), .fad 1 (.t 7), none, []⟩,
 ⟨(some 9), .ld1 (.t 8), none, []⟩,
 ⟨(some 10), .not (.t 9), none, []⟩,
 ⟨(some 11), .mv (.t 10), none, []⟩,
 ⟨(some 12), .mv (.t 0), (some (11, false)), []⟩,
 ⟨(some 13), .nck (.t 12), (some (11, false)), []⟩,
 ⟨(some 14), .fad 23 (.t 13), (some (11, false)), []⟩,
 ⟨(some 15), .ld1 (.t 14), (some (11, false)), []⟩,
 ⟨(some 16), .nck (.t 15), (some (11, false)), []⟩,
 ⟨(some 17), .fad 2 (.t 16), (some (11, false)), []⟩,
 ⟨(some 18), .ld1 (.t 17), (some (11, false)), []⟩,
 ⟨(some 19), .pick (.t 11) (.c (.val (.bool true))) (.t 18), none, []⟩])
 (.cond (.t 19) (.seq (.reg [⟨(some 2), .mv (.c (.val (.int .i64 5))), none, []⟩])
 .ret)
 .skip))
 (.seq (.reg [⟨(some 20), .mv (.t 0), none, []⟩,
 ⟨(some 21), .nck (.t 20), none, []⟩,
 ⟨(some 22), .fad 23 (.t 21), none, []⟩,
 ⟨(some 23), .ld1 (.t 22), none, []⟩,
 ⟨(some 24), .nck (.t 23), none, []⟩,
 ⟨(some 25), .fad 1 (.t 24), none, []⟩,
 ⟨none, .st 1 (.t 25) (.c (.val (.bool false))), none, []⟩])
 (.seq (.reg [⟨(some 2), .mv (.c (.val (.int .i64 0))), none, []⟩])
 .ret)))),
[(.t 2)])
theorem irOk87 : convFn Tryd.prog Tryd.f87 = some ir87 := by kernel_rfl
/-- book.work.move -/
def ir88 : Nat × C × List RV := (46,
(.seq (.reg [⟨(some 2), .mv (.c (.val (.int .i64 0))), none, []⟩])
 (.seq (.seq (.reg [⟨(some 3), .mv (.t 0), none, []⟩,
 ⟨(some 4), .nck (.t 3), none, []⟩,
 ⟨(some 5), .fad 23 (.t 4), none, []⟩,
 ⟨(some 6), .ld1 (.t 5), none, []⟩,
 ⟨(some 7), .nck (.t 6), none, []⟩,
 ⟨(some 8), .fad 0 (.t 7), none, []⟩,
 ⟨(some 9), .ld1 (.t 8), none, []⟩,
 ⟨(some 10), .not (.t 9), none, []⟩,
 ⟨(some 11), .mv (.t 10), none, []⟩,
 ⟨(some 12), .mv (.t 0), (some (11, false)), []⟩,
 ⟨(some 13), .nck (.t 12), (some (11, false)), []⟩,
 ⟨(some 14), .fad 23 (.t 13), (some (11, false)), []⟩,
 ⟨(some 15), .ld1 (.t 14), (some (11, false)), []⟩,
 ⟨(some 16), .nck (.t 15), (some (11, false)), []⟩,
 ⟨(some 17), .fad 1 (.t 16), (some (11, false)), []⟩,
 ⟨(some 18), .ld1 (.t 17), (some (11, false)), []⟩,
 ⟨(some 19), .not (.t 18), (some (11, false)), []⟩,
 ⟨(some 20), .pick (.t 11) (.c (.val (.bool true))) (.t 19), none, []⟩,
 ⟨(some 21), .mv (.t 20), none, []⟩,
 ⟨(some 22), .mv (.t 0), (some (21, false)), []⟩,
 ⟨(some 23), .nck (.t 22), (some (21, false)), []⟩,
 ⟨(some 24), .fad 23 (.t 23), (some (21, false)), []⟩,
 ⟨(some 25), .ld1 (.t 24), (some (21, false)), []⟩,
 ⟨(some 26), .nck (.t 25), (some (21, false)), []⟩,
 ⟨(some 27), .fad 2 (.t 26), (some (21, false)), []⟩,
 ⟨(some 28), .ld1 (.t 27), (some (21, false)), []⟩,
 ⟨(some 29), .pick (.t 21) (.c (.val (.bool true))) (.t 28), none, []⟩,
 ⟨(some 30), .mv (.t 29), none, []⟩,
 ⟨(some 31), .mv (.t 0), (some (30, false)), []⟩,
 ⟨(some 32), .nck (.t 31), (some (30, false)), []⟩,
 ⟨(some 33), .fad 23 (.t 32), (some (30, false)), []⟩,
 ⟨(some 34), .ld1 (.t 33), (some (30, false)), []⟩,
 ⟨(some 35), .nck (.t 34), (some (30, false)), []⟩,
 ⟨(some 36), .fad 4 (.t 35), (some (30, false)), []⟩,
 ⟨(some 37), .ld1 (.t 36), (some (30, false)), []⟩,
 ⟨(some 38), .bin .neq (.t 37) (.c (.val (.int .i64 0))), (some (30, false)), []⟩,
 ⟨(some 39), .pick (.t 30) (.c (.val (.bool true))) (.t 38), none, []⟩])
 (.cond (.t 39) (.seq (.reg [⟨(some 2), .mv (.c (.val (.int .i64 5))), none, []⟩])
 .ret)
 .skip))
 (.seq (.reg [⟨(some 40), .mv (.t 0), none, []⟩,
 ⟨(some 41), .nck (.t 40), none, []⟩,
 ⟨(some 42), .fad 23 (.t 41), none, []⟩,
 ⟨(some 43), .ld1 (.t 42), none, []⟩,
 ⟨(some 44), .nck (.t 43), none, []⟩,
 ⟨(some 45), .fad 2 (.t 44), none, []⟩,
 ⟨none, .st 1 (.t 45) (.c (.val (.bool true))), none, []⟩])
 (.seq (.reg [⟨(some 2), .mv (.c (.val (.int .i64 0))), none, []⟩])
 .ret)))),
[(.t 2)])
theorem irOk88 : convFn Tryd.prog Tryd.f88 = some ir88 := by kernel_rfl
/-- book.work.moved -/
def ir89 : Nat × C × List RV := (43,
(.seq (.reg [⟨(some 2), .mv (.c (.val (.int .i64 0))), none, []⟩])
 (.seq (.block 0 (.seq (.reg [⟨(some 4), .mv (.t 0), none, []⟩,
 ⟨(some 5), .nck (.t 4), none, []⟩,
 ⟨(some 6), .fad 15 (.t 5), none, []⟩,
 ⟨(some 7), .fad 2 (.t 6), none, []⟩,
 ⟨(some 8), .ld1 (.t 7), none, []⟩,
 ⟨(some 9), .call (.f 40) [(.t 8), (.c (.val (.int .i64 1))), (.c (.val (.int .i64 9)))], none, []⟩,
 ⟨(some 10), .not (.t 9), none, []⟩,
 ⟨(some 3), .mv (.t 10), none, []⟩])
 (.cond (.t 3) (.seq (.reg [⟨(some 2), .mv (.c (.val (.int .i64 1))), none, []⟩])
 .ret)
 (.seq (.reg [⟨(some 12), .mv (.t 0), none, []⟩,
 ⟨(some 13), .nck (.t 12), none, []⟩,
 ⟨(some 14), .fad 23 (.t 13), none, []⟩,
 ⟨(some 15), .ld1 (.t 14), none, []⟩,
 ⟨(some 16), .nck (.t 15), none, []⟩,
 ⟨(some 17), .fad 2 (.t 16), none, []⟩,
 ⟨(some 18), .ld1 (.t 17), none, []⟩,
 ⟨(some 19), .not (.t 18), none, []⟩,
 ⟨(some 11), .mv (.t 19), none, []⟩])
 (.cond (.t 11) (.seq (.reg [⟨(some 2), .mv (.c (.val (.int .i64 5))), none, []⟩])
 .ret)
 .skip)))))
 (.seq (.regD [⟨(some 20), .mv (.t 0), none, []⟩,
 ⟨(some 21), .nck (.t 20), none, [0]⟩,
 ⟨(some 22), .fad 23 (.t 21), none, [1, 0]⟩,
 ⟨(some 23), .ld1 (.t 22), none, [2, 1, 0]⟩,
 ⟨(some 24), .mv (.t 0), none, []⟩,
 ⟨(some 25), .nck (.t 24), none, [4]⟩,
 ⟨(some 26), .fad 23 (.t 25), none, [5, 4]⟩,
 ⟨(some 27), .ld1 (.t 26), none, [6, 5, 4]⟩,
 ⟨(some 28), .mv (.t 0), none, []⟩,
 ⟨(some 29), .nck (.t 28), none, [8]⟩,
 ⟨(some 30), .fad 23 (.t 29), none, [9, 8]⟩,
 ⟨(some 31), .ld1 (.t 30), none, [10, 9, 8]⟩,
 ⟨(some 32), .mv (.t 0), none, []⟩,
 ⟨(some 33), .nck (.t 32), none, [12]⟩,
 ⟨(some 34), .fad 15 (.t 33), none, [13, 12]⟩,
 ⟨(some 35), .fad 2 (.t 34), none, [14, 13, 12]⟩,
 ⟨(some 36), .ld1 (.t 35), none, [15, 14, 13, 12]⟩,
 ⟨(some 37), .nck (.t 23), none, [3, 2, 1, 0, 7, 6, 5, 4, 11, 10, 9, 8, 12, 13, 14, 15, 16]⟩,
 ⟨(some 38), .fad 3 (.t 37), none, [17, 3, 2, 1, 0, 7, 6, 5, 4, 11, 10, 9, 8, 12, 13, 14, 15, 16]⟩,
 ⟨none, .st 1 (.t 38) (.t 36), none, [18, 17, 3, 2, 1, 0, 7, 6, 5, 4, 11, 10, 9, 8, 12, 13, 14, 15, 16]⟩,
 ⟨(some 39), .nck (.t 27), none, [7, 6, 5, 4, 0, 1, 2, 3, 11, 10, 9, 8, 12, 13, 14, 15, 16, 17, 18, 19]⟩,
 ⟨(some 40), .fad 2 (.t 39), none, [20, 7, 6, 5, 4, 0, 1, 2, 3, 11, 10, 9, 8, 12, 13, 14, 15, 16, 17, 18, 19]⟩,
 ⟨none, .st 1 (.t 40) (.c (.val (.bool false))), none, [21, 20, 7, 6, 5, 4, 0, 1, 2, 3, 11, 10, 9, 8, 12, 13, 14, 15, 16, 17, 18, 19]⟩,
 ⟨(some 41), .nck (.t 31), none, [11, 10, 9, 8, 0, 1, 2, 3, 4, 5, 6, 7, 12, 13, 14, 15, 16, 17, 18, 19, 20, 21, 22]⟩,
 ⟨(some 42), .fad 1 (.t 41), none, [23, 11, 10, 9, 8, 0, 1, 2, 3, 4, 5, 6, 7, 12, 13, 14, 15, 16, 17, 18, 19, 20, 21, 22]⟩,
 ⟨none, .st 1 (.t 42) (.c (.val (.bool false))), none, [24, 23, 11, 10, 9, 8, 0, 1, 2, 3, 4, 5, 6, 7, 12, 13, 14, 15, 16, 17, 18, 19, 20, 21, 22]⟩])
 (.seq (.reg [⟨(some 2), .mv (.c (.val (.int .i64 0))), none, []⟩])
 .ret)))),
[(.t 2)])
theorem irOk89 : convFn Tryd.prog Tryd.f89 = some ir89 := by kernel_rfl
/-- book.work.up -/
def ir78 : Nat × C × List RV := (36,
(.seq (.reg [⟨(some 2), .mv (.c (.val (.int .i64 0))), none, []⟩])
 (.seq (.block 0 (.seq (.reg [⟨(some 4), .mv (.t 0), none, []⟩,
 ⟨(some 5), .nck (.t 4), none, []⟩,
 ⟨(some 6), .fad 15 (.t 5), none, []⟩,
 ⟨(some 7), .fad 2 (.t 6), none, []⟩,
 ⟨(some 8), .ld1 (.t 7), none, []⟩,
 ⟨(some 9), .call (.f 40) [(.t 8), (.c (.val (.int .i64 1))), (.c (.val (.int .i64 9)))], none, []⟩,
 ⟨(some 10), .not (.t 9), none, []⟩,
 ⟨(some 3), .mv (.t 10), none, []⟩])
 (.cond (.t 3) (.seq (.reg [⟨(some 2), .mv (.c (.val (.int .i64 1))), none, []⟩])
 .ret)
 (.seq (.reg [⟨(some 12), .mv (.t 0), none, []⟩,
 ⟨(some 13), .nck (.t 12), none, []⟩,
 ⟨(some 14), .fad 23 (.t 13), none, []⟩,
 ⟨(some 15), .ld1 (.t 14), none, []⟩,
 ⟨(some 16), .nck (.t 15), none, []⟩,
 ⟨(some 17), .fad 0 (.t 16), none, []⟩,
 ⟨(some 18), .ld1 (.t 17), none, []⟩,
 ⟨(some 11), .mv (.t 18), none, []⟩])
 (.cond (.t 11) (.seq (.reg [⟨(some 2), .mv (.c (.val (.int .i64 5))), none, []⟩])
 .ret)
 .skip)))))
 (.seq (.regD [⟨(some 19), .mv (.t 0), none, []⟩,
 ⟨(some 20), .nck (.t 19), none, [0]⟩,
 ⟨(some 21), .fad 23 (.t 20), none, [1, 0]⟩,
 ⟨(some 22), .ld1 (.t 21), none, [2, 1, 0]⟩,
 ⟨(some 23), .mv (.t 0), none, []⟩,
 ⟨(some 24), .nck (.t 23), none, [4]⟩,
 ⟨(some 25), .fad 23 (.t 24), none, [5, 4]⟩,
 ⟨(some 26), .ld1 (.t 25), none, [6, 5, 4]⟩,
 ⟨(some 27), .mv (.t 0), none, []⟩,
 ⟨(some 28), .nck (.t 27), none, [8]⟩,
 ⟨(some 29), .fad 15 (.t 28), none, [9, 8]⟩,
 ⟨(some 30), .fad 2 (.t 29), none, [10, 9, 8]⟩,
 ⟨(some 31), .ld1 (.t 30), none, [11, 10, 9, 8]⟩,
 ⟨(some 32), .nck (.t 22), none, [3, 2, 1, 0, 7, 6, 5, 4, 12, 11, 10, 9, 8]⟩,
 ⟨(some 33), .fad 0 (.t 32), none, [13, 3, 2, 1, 0, 7, 6, 5, 4, 12, 11, 10, 9, 8]⟩,
 ⟨none, .st 1 (.t 33) (.c (.val (.bool true))), none, [14, 13, 3, 2, 1, 0, 7, 6, 5, 4, 12, 11, 10, 9, 8]⟩,
 ⟨(some 34), .nck (.t 26), none, [7, 6, 5, 4, 0, 1, 2, 3, 8, 9, 10, 11, 12, 13, 14, 15]⟩,
 ⟨(some 35), .fad 3 (.t 34), none, [16, 7, 6, 5, 4, 0, 1, 2, 3, 8, 9, 10, 11, 12, 13, 14, 15]⟩,
 ⟨none, .st 1 (.t 35) (.t 31), none, [17, 16, 7, 6, 5, 4, 0, 1, 2, 3, 8, 9, 10, 11, 12, 13, 14, 15]⟩])
 (.seq (.reg [⟨(some 2), .mv (.c (.val (.int .i64 0))), none, []⟩])
 .ret)))),
[(.t 2)])
theorem irOk78 : convFn Tryd.prog Tryd.f78 = some ir78 := by kernel_rfl
/-- book.work.down -/
def ir77 : Nat × C × List RV := (40,
(.seq (.reg [⟨(some 2), .mv (.c (.val (.int .i64 0))), none, []⟩])
 (.seq (.seq (.reg [⟨(some 3), .mv (.t 0), none, []⟩,
 ⟨(some 4), .nck (.t 3), none, []⟩,
 ⟨(some 5), .fad 23 (.t 4), none, []⟩,
 ⟨(some 6), .ld1 (.t 5), none, []⟩,
 ⟨(some 7), .nck (.t 6), none, []⟩,
 ⟨(some 8), .fad 0 (.t 7), none, []⟩,
 ⟨(some 9), .ld1 (.t 8), none, []⟩,
 ⟨(some 10), .not (.t 9), none, []⟩])
 (.cond (.t 10) (.seq (.reg [⟨(some 2), .mv (.c (.val (.int .i64 5))), none, []⟩])
 .ret)
 .skip))
 (.seq (.seq (.reg [⟨(some 11), .mv (.t 0), none, []⟩,
 ⟨(some 12), .nck (.t 11), none, []⟩,
 ⟨(some 13), .fad 23 (.t 12), none, []⟩,
 ⟨(some 14), .ld1 (.t 13), none, []⟩,
 ⟨(some 15), .nck (.t 14), none, []⟩,
 ⟨(some 16), .fad 4 (.t 15), none, []⟩,
 ⟨(some 17), .ld1 (.t 16), none, []⟩,
 ⟨(some 18), .bin .neq (.t 17) (.c (.val (.int .i64 0))), none, []⟩])
 (.cond (.t 18) (.reg [⟨(some 19), .mv (.t 0), none, []⟩,
 ⟨(some 20), .mv (.t 0), none, []⟩,
 ⟨(some 21), .nck (.t 20), none, []⟩,
 ⟨(some 22), .fad 23 (.t 21), none, []⟩,
 ⟨(some 23), .ld1 (.t 22), none, []⟩,
 ⟨(some 24), .nck (.t 23), none, []⟩,
 ⟨(some 25), .fad 4 (.t 24), none, []⟩,
 ⟨(some 26), .ld1 (.t 25), none, []⟩,
 ⟨(some 27), .call (.f 103) [(.t 19), (.t 26), (.c (.val (.int .i64 0)))], none, []⟩])
 .skip))
 (.seq (.regD [⟨(some 28), .mv (.t 0), none, []⟩,
 ⟨(some 29), .nck (.t 28), none, [0]⟩,
 ⟨(some 30), .fad 23 (.t 29), none, [1, 0]⟩,
 ⟨(some 31), .ld1 (.t 30), none, [2, 1, 0]⟩,
 ⟨(some 32), .mv (.t 0), none, []⟩,
 ⟨(some 33), .nck (.t 32), none, [4]⟩,
 ⟨(some 34), .fad 23 (.t 33), none, [5, 4]⟩,
 ⟨(some 35), .ld1 (.t 34), none, [6, 5, 4]⟩,
 ⟨(some 36), .nck (.t 31), none, [3, 2, 1, 0, 7, 6, 5, 4]⟩,
 ⟨(some 37), .fad 0 (.t 36), none, [8, 3, 2, 1, 0, 7, 6, 5, 4]⟩,
 ⟨none, .st 1 (.t 37) (.c (.val (.bool false))), none, [9, 8, 3, 2, 1, 0, 7, 6, 5, 4]⟩,
 ⟨(some 38), .nck (.t 35), none, [7, 6, 5, 4, 0, 1, 2, 3, 8, 9, 10]⟩,
 ⟨(some 39), .fad 2 (.t 38), none, [11, 7, 6, 5, 4, 0, 1, 2, 3, 8, 9, 10]⟩,
 ⟨none, .st 1 (.t 39) (.c (.val (.bool false))), none, [12, 11, 7, 6, 5, 4, 0, 1, 2, 3, 8, 9, 10]⟩])
 (.seq (.reg [⟨(some 2), .mv (.c (.val (.int .i64 0))), none, []⟩])
 .ret))))),
[(.t 2)])
theorem irOk77 : convFn Tryd.prog Tryd.f77 = some ir77 := by kernel_rfl
/-- book.work.runs -/
def ir105 : Nat × C × List RV := (21,
(.seq (.reg [⟨(some 2), .mv (.c (.val (.bool false))), none, []⟩])
 (.seq (.reg [⟨(some 3), .mv (.t 0), none, []⟩,
 ⟨(some 4), .nck (.t 3), none, []⟩,
 ⟨(some 5), .fad 22 (.t 4), none, []⟩,
 ⟨(some 6), .ld1 (.t 5), none, []⟩,
 ⟨(some 7), .nck (.t 6), none, []⟩,
 ⟨(some 8), .fad 6 (.t 7), none, []⟩,
 ⟨(some 9), .ld1 (.t 8), none, []⟩,
 ⟨(some 10), .bin .eql (.t 9) (.c (.val (.int .i64 2))), none, []⟩,
 ⟨(some 11), .mv (.t 10), none, []⟩,
 ⟨(some 12), .mv (.t 0), (some (11, false)), []⟩,
 ⟨(some 13), .nck (.t 12), (some (11, false)), []⟩,
 ⟨(some 14), .fad 22 (.t 13), (some (11, false)), []⟩,
 ⟨(some 15), .ld1 (.t 14), (some (11, false)), []⟩,
 ⟨(some 16), .nck (.t 15), (some (11, false)), []⟩,
 ⟨(some 17), .fad 6 (.t 16), (some (11, false)), []⟩,
 ⟨(some 18), .ld1 (.t 17), (some (11, false)), []⟩,
 ⟨(some 19), .bin .eql (.t 18) (.c (.val (.int .i64 3))), (some (11, false)), []⟩,
 ⟨(some 20), .pick (.t 11) (.c (.val (.bool true))) (.t 19), none, []⟩,
 ⟨(some 2), .mv (.t 20), none, []⟩])
 .ret)),
[(.t 2)])
theorem irOk105 : convFn Tryd.prog Tryd.f105 = some ir105 := by kernel_rfl
/-- book.work.cancel -/
def ir72 : Nat × C × List RV := (18,
(.seq (.reg [⟨(some 2), .mv (.c (.val (.int .i64 0))), none, []⟩])
 (.seq (.seq (.reg [⟨(some 3), .mv (.t 0), none, []⟩,
 ⟨(some 4), .nck (.t 3), none, []⟩,
 ⟨(some 5), .fad 22 (.t 4), none, []⟩,
 ⟨(some 6), .ld1 (.t 5), none, []⟩,
 ⟨(some 7), .nck (.t 6), none, []⟩,
 ⟨(some 8), .fad 6 (.t 7), none, []⟩,
 ⟨(some 9), .ld1 (.t 8), none, []⟩,
 ⟨(some 10), .bin .eql (.t 9) (.c (.val (.int .i64 4))), none, []⟩])
 (.cond (.t 10) (.seq (.reg [⟨(some 2), .mv (.c (.val (.int .i64 5))), none, []⟩])
 .ret)
 .skip))
 (.seq (.reg [⟨(some 11), .mv (.t 0), none, []⟩,
 ⟨(some 12), .mv (.t 0), none, []⟩,
 ⟨(some 13), .nck (.t 12), none, []⟩,
 ⟨(some 14), .fad 15 (.t 13), none, []⟩,
 ⟨(some 15), .fad 1 (.t 14), none, []⟩,
 ⟨(some 16), .ld1 (.t 15), none, []⟩,
 ⟨(some 17), .call (.f 103) [(.t 11), (.t 16), (.c (.val (.int .i64 4)))], none, []⟩])
 (.seq (.reg [⟨(some 2), .mv (.c (.val (.int .i64 0))), none, []⟩])
 .ret)))),
[(.t 2)])
theorem irOk72 : convFn Tryd.prog Tryd.f72 = some ir72 := by kernel_rfl
/-- book.work.start -/
def ir80 : Nat × C × List RV := (28,
(.seq (.reg [⟨(some 2), .mv (.c (.val (.int .i64 0))), none, []⟩])
 (.seq (.seq (.reg [⟨(some 3), .mv (.t 0), none, []⟩,
 ⟨(some 4), .nck (.t 3), none, []⟩,
 ⟨(some 5), .fad 22 (.t 4), none, []⟩,
 ⟨(some 6), .ld1 (.t 5), none, []⟩,
 ⟨(some 7), .nck (.t 6), none, []⟩,
 ⟨(some 8), .fad 6 (.t 7), none, []⟩,
 ⟨(some 9), .ld1 (.t 8), none, []⟩,
 ⟨(some 10), .bin .neq (.t 9) (.c (.val (.int .i64 1))), none, []⟩])
 (.cond (.t 10) (.seq (.reg [⟨(some 2), .mv (.c (.val (.int .i64 5))), none, []⟩])
 .ret)
 .skip))
 (.seq (.regD [⟨(some 11), .mv (.t 0), none, []⟩,
 ⟨(some 12), .nck (.t 11), none, [0]⟩,
 ⟨(some 13), .fad 22 (.t 12), none, [1, 0]⟩,
 ⟨(some 14), .ld1 (.t 13), none, [2, 1, 0]⟩,
 ⟨(some 15), .mv (.t 0), none, []⟩,
 ⟨(some 16), .nck (.t 15), none, [4]⟩,
 ⟨(some 17), .fad 22 (.t 16), none, [5, 4]⟩,
 ⟨(some 18), .ld1 (.t 17), none, [6, 5, 4]⟩,
 ⟨(some 19), .mv (.t 0), none, []⟩,
 ⟨(some 20), .nck (.t 19), none, [8]⟩,
 ⟨(some 21), .fad 15 (.t 20), none, [9, 8]⟩,
 ⟨(some 22), .fad 2 (.t 21), none, [10, 9, 8]⟩,
 ⟨(some 23), .ld1 (.t 22), none, [11, 10, 9, 8]⟩,
 ⟨(some 24), .nck (.t 14), none, [3, 2, 1, 0, 7, 6, 5, 4, 12, 11, 10, 9, 8]⟩,
 ⟨(some 25), .fad 6 (.t 24), none, [13, 3, 2, 1, 0, 7, 6, 5, 4, 12, 11, 10, 9, 8]⟩,
 ⟨none, .st 1 (.t 25) (.c (.val (.int .i64 2))), none, [14, 13, 3, 2, 1, 0, 7, 6, 5, 4, 12, 11, 10, 9, 8]⟩,
 ⟨(some 26), .nck (.t 18), none, [7, 6, 5, 4, 0, 1, 2, 3, 8, 9, 10, 11, 12, 13, 14, 15]⟩,
 ⟨(some 27), .fad 9 (.t 26), none, [16, 7, 6, 5, 4, 0, 1, 2, 3, 8, 9, 10, 11, 12, 13, 14, 15]⟩,
 ⟨none, .st 1 (.t 27) (.t 23), none, [17, 16, 7, 6, 5, 4, 0, 1, 2, 3, 8, 9, 10, 11, 12, 13, 14, 15]⟩])
 (.seq (.reg [⟨(some 2), .mv (.c (.val (.int .i64 0))), none, []⟩])
 .ret)))),
[(.t 2)])
theorem irOk80 : convFn Tryd.prog Tryd.f80 = some ir80 := by kernel_rfl
/-- book.work.unhold -/
def ir81 : Nat × C × List RV := (18,
(.seq (.reg [⟨(some 2), .mv (.c (.val (.int .i64 0))), none, []⟩])
 (.seq (.seq (.reg [⟨(some 3), .mv (.t 0), none, []⟩,
 ⟨(some 4), .nck (.t 3), none, []⟩,
 ⟨(some 5), .fad 22 (.t 4), none, []⟩,
 ⟨(some 6), .ld1 (.t 5), none, []⟩,
 ⟨(some 7), .nck (.t 6), none, []⟩,
 ⟨(some 8), .fad 6 (.t 7), none, []⟩,
 ⟨(some 9), .ld1 (.t 8), none, []⟩,
 ⟨(some 10), .bin .neq (.t 9) (.c (.val (.int .i64 1))), none, []⟩])
 (.cond (.t 10) (.seq (.reg [⟨(some 2), .mv (.c (.val (.int .i64 5))), none, []⟩])
 .ret)
 .skip))
 (.seq (.reg [⟨(some 11), .mv (.t 0), none, []⟩,
 ⟨(some 12), .mv (.t 0), none, []⟩,
 ⟨(some 13), .nck (.t 12), none, []⟩,
 ⟨(some 14), .fad 15 (.t 13), none, []⟩,
 ⟨(some 15), .fad 1 (.t 14), none, []⟩,
 ⟨(some 16), .ld1 (.t 15), none, []⟩,
 ⟨(some 17), .call (.f 103) [(.t 11), (.t 16), (.c (.val (.int .i64 0)))], none, []⟩])
 (.seq (.reg [⟨(some 2), .mv (.c (.val (.int .i64 0))), none, []⟩])
 .ret)))),
[(.t 2)])
theorem irOk81 : convFn Tryd.prog Tryd.f81 = some ir81 := by kernel_rfl
/-- book.work.drain -/
def ir82 : Nat × C × List RV := (48,
(.seq (.reg [⟨(some 2), .mv (.c (.val (.int .i64 0))), none, []⟩])
 (.seq (.block 0 (.seq (.reg [⟨(some 4), .mv (.t 0), none, []⟩,
 ⟨(some 5), .nck (.t 4), none, []⟩,
 ⟨(some 6), .fad 22 (.t 5), none, []⟩,
 ⟨(some 7), .ld1 (.t 6), none, []⟩,
 ⟨(some 8), .nck (.t 7), none, []⟩,
 ⟨(some 9), .fad 6 (.t 8), none, []⟩,
 ⟨(some 10), .ld1 (.t 9), none, []⟩,
 ⟨(some 11), .bin .neq (.t 10) (.c (.val (.int .i64 2))), none, []⟩,
 ⟨(some 3), .mv (.t 11), none, []⟩])
 (.cond (.t 3) (.seq (.reg [⟨(some 2), .mv (.c (.val (.int .i64 5))), none, []⟩])
 .ret)
 (.seq (.regD [⟨(some 13), .mv (.t 0), none, []⟩,
 ⟨(some 14), .nck (.t 13), none, [0]⟩,
 ⟨(some 15), .fad 9 (.t 14), none, [1, 0]⟩,
 ⟨(some 16), .ldn 6 (.t 15), none, [2, 1, 0]⟩,
 ⟨(some 17), .mv (.t 0), none, []⟩,
 ⟨(some 18), .nck (.t 17), none, [4]⟩,
 ⟨(some 19), .fad 22 (.t 18), none, [5, 4]⟩,
 ⟨(some 20), .ld1 (.t 19), none, [6, 5, 4]⟩,
 ⟨(some 21), .nck (.t 20), none, [7, 6, 5, 4]⟩,
 ⟨(some 22), .fad 0 (.t 21), none, [8, 7, 6, 5, 4]⟩,
 ⟨(some 23), .ld1 (.t 22), none, [9, 8, 7, 6, 5, 4]⟩,
 ⟨(some 24), .call (.f 27) [(.t 16), (.t 23)], none, [3, 2, 1, 0, 10, 9, 8, 7, 6, 5, 4]⟩,
 ⟨(some 25), .mv (.t 0), none, []⟩,
 ⟨(some 26), .nck (.t 25), none, [12]⟩,
 ⟨(some 27), .fad 0 (.t 26), none, [13, 12]⟩,
 ⟨(some 28), .fad 2 (.t 27), none, [14, 13, 12]⟩,
 ⟨(some 29), .ld1 (.t 28), none, [15, 14, 13, 12]⟩,
 ⟨(some 30), .bin .geq (.t 24) (.t 29), none, [11, 3, 2, 1, 0, 10, 9, 8, 7, 6, 5, 4, 16, 15, 14, 13, 12]⟩,
 ⟨(some 12), .mv (.t 30), none, [17, 11, 3, 2, 1, 0, 10, 9, 8, 7, 6, 5, 4, 16, 15, 14, 13, 12]⟩])
 (.cond (.t 12) (.seq (.reg [⟨(some 2), .mv (.c (.val (.int .i64 7))), none, []⟩])
 .ret)
 .skip)))))
 (.seq (.regD [⟨(some 31), .mv (.t 0), none, []⟩,
 ⟨(some 32), .nck (.t 31), none, [0]⟩,
 ⟨(some 33), .fad 22 (.t 32), none, [1, 0]⟩,
 ⟨(some 34), .ld1 (.t 33), none, [2, 1, 0]⟩,
 ⟨(some 35), .mv (.t 0), none, []⟩,
 ⟨(some 36), .nck (.t 35), none, [4]⟩,
 ⟨(some 37), .fad 22 (.t 36), none, [5, 4]⟩,
 ⟨(some 38), .ld1 (.t 37), none, [6, 5, 4]⟩,
 ⟨(some 39), .mv (.t 0), none, []⟩,
 ⟨(some 40), .nck (.t 39), none, [8]⟩,
 ⟨(some 41), .fad 15 (.t 40), none, [9, 8]⟩,
 ⟨(some 42), .fad 2 (.t 41), none, [10, 9, 8]⟩,
 ⟨(some 43), .ld1 (.t 42), none, [11, 10, 9, 8]⟩,
 ⟨(some 44), .nck (.t 34), none, [3, 2, 1, 0, 7, 6, 5, 4, 12, 11, 10, 9, 8]⟩,
 ⟨(some 45), .fad 6 (.t 44), none, [13, 3, 2, 1, 0, 7, 6, 5, 4, 12, 11, 10, 9, 8]⟩,
 ⟨none, .st 1 (.t 45) (.c (.val (.int .i64 3))), none, [14, 13, 3, 2, 1, 0, 7, 6, 5, 4, 12, 11, 10, 9, 8]⟩,
 ⟨(some 46), .nck (.t 38), none, [7, 6, 5, 4, 0, 1, 2, 3, 8, 9, 10, 11, 12, 13, 14, 15]⟩,
 ⟨(some 47), .fad 10 (.t 46), none, [16, 7, 6, 5, 4, 0, 1, 2, 3, 8, 9, 10, 11, 12, 13, 14, 15]⟩,
 ⟨none, .st 1 (.t 47) (.t 43), none, [17, 16, 7, 6, 5, 4, 0, 1, 2, 3, 8, 9, 10, 11, 12, 13, 14, 15]⟩])
 (.seq (.reg [⟨(some 2), .mv (.c (.val (.int .i64 0))), none, []⟩])
 .ret)))),
[(.t 2)])
theorem irOk82 : convFn Tryd.prog Tryd.f82 = some ir82 := by kernel_rfl
/-- book.work.saved -/
def ir83 : Nat × C × List RV := (47,
(.seq (.reg [⟨(some 2), .mv (.c (.val (.int .i64 0))), none, []⟩])
 (.seq (.block 0 (.seq (.reg [⟨(some 4), .mv (.t 0), none, []⟩,
 ⟨(some 5), .call (.f 105) [(.t 4)], none, []⟩,
 ⟨(some 6), .not (.t 5), none, []⟩,
 ⟨(some 3), .mv (.t 6), none, []⟩])
 (.cond (.t 3) (.seq (.reg [⟨(some 2), .mv (.c (.val (.int .i64 5))), none, []⟩])
 .ret)
 (.seq (.regD [⟨(some 8), .mv (.t 0), none, []⟩,
 ⟨(some 9), .nck (.t 8), none, [0]⟩,
 ⟨(some 10), .fad 15 (.t 9), none, [1, 0]⟩,
 ⟨(some 11), .fad 2 (.t 10), none, [2, 1, 0]⟩,
 ⟨(some 12), .ld1 (.t 11), none, [3, 2, 1, 0]⟩,
 ⟨(some 13), .mv (.t 0), none, []⟩,
 ⟨(some 14), .nck (.t 13), none, [5]⟩,
 ⟨(some 15), .fad 22 (.t 14), none, [6, 5]⟩,
 ⟨(some 16), .ld1 (.t 15), none, [7, 6, 5]⟩,
 ⟨(some 17), .nck (.t 16), none, [8, 7, 6, 5]⟩,
 ⟨(some 18), .fad 7 (.t 17), none, [9, 8, 7, 6, 5]⟩,
 ⟨(some 19), .ld1 (.t 18), none, [10, 9, 8, 7, 6, 5]⟩,
 ⟨(some 20), .bin .neq (.t 12) (.t 19), none, [4, 3, 2, 1, 0, 11, 10, 9, 8, 7, 6, 5]⟩,
 ⟨(some 21), .mv (.t 20), none, [12, 4, 3, 2, 1, 0, 11, 10, 9, 8, 7, 6, 5]⟩,
 ⟨(some 22), .mv (.t 0), (some (21, false)), [13, 12, 4, 3, 2, 1, 0, 11, 10, 9, 8, 7, 6, 5]⟩,
 ⟨(some 23), .nck (.t 22), (some (21, false)), [14, 13, 12, 4, 3, 2, 1, 0, 11, 10, 9, 8, 7, 6, 5]⟩,
 ⟨(some 24), .fad 15 (.t 23), (some (21, false)), [15, 14, 13, 12, 4, 3, 2, 1, 0, 11, 10, 9, 8, 7, 6, 5]⟩,
 ⟨(some 25), .fad 2 (.t 24), (some (21, false)), [16, 15, 14, 13, 12, 4, 3, 2, 1, 0, 11, 10, 9, 8, 7, 6, 5]⟩,
 ⟨(some 26), .ld1 (.t 25), (some (21, false)), [17, 16, 15, 14, 13, 12, 4, 3, 2, 1, 0, 11, 10, 9, 8, 7, 6, 5]⟩,
 ⟨(some 27), .mv (.t 0), (some (21, false)), [13, 12, 4, 3, 2, 1, 0, 11, 10, 9, 8, 7, 6, 5]⟩,
 ⟨(some 28), .nck (.t 27), (some (21, false)), [19, 13, 12, 4, 3, 2, 1, 0, 11, 10, 9, 8, 7, 6, 5]⟩,
 ⟨(some 29), .fad 22 (.t 28), (some (21, false)), [20, 19, 13, 12, 4, 3, 2, 1, 0, 11, 10, 9, 8, 7, 6, 5]⟩,
 ⟨(some 30), .ld1 (.t 29), (some (21, false)), [21, 20, 19, 13, 12, 4, 3, 2, 1, 0, 11, 10, 9, 8, 7, 6, 5]⟩,
 ⟨(some 31), .nck (.t 30), (some (21, false)), [22, 21, 20, 19, 13, 12, 4, 3, 2, 1, 0, 11, 10, 9, 8, 7, 6, 5]⟩,
 ⟨(some 32), .fad 11 (.t 31), (some (21, false)), [23, 22, 21, 20, 19, 13, 12, 4, 3, 2, 1, 0, 11, 10, 9, 8, 7, 6, 5]⟩,
 ⟨(some 33), .ld1 (.t 32), (some (21, false)), [24, 23, 22, 21, 20, 19, 13, 12, 4, 3, 2, 1, 0, 11, 10, 9, 8, 7, 6, 5]⟩,
 ⟨(some 34), .bin .leq (.t 26) (.t 33), (some (21, false)), [18, 17, 16, 15, 14, 13, 12, 4, 3, 2, 1, 0, 11, 10, 9, 8, 7, 6, 5, 25, 24, 23, 22, 21, 20, 19]⟩,
 ⟨(some 35), .pick (.t 21) (.c (.val (.bool true))) (.t 34), none, [13, 12, 4, 3, 2, 1, 0, 11, 10, 9, 8, 7, 6, 5, 26, 18, 17, 16, 15, 14, 25, 24, 23, 22, 21, 20, 19]⟩,
 ⟨(some 7), .mv (.t 35), none, [27, 13, 12, 4, 3, 2, 1, 0, 11, 10, 9, 8, 7, 6, 5, 26, 18, 17, 16, 15, 14, 25, 24, 23, 22, 21, 20, 19]⟩])
 (.cond (.t 7) (.seq (.reg [⟨(some 2), .mv (.c (.val (.int .i64 6))), none, []⟩])
 .ret)
 .skip)))))
 (.seq (.regD [⟨(some 36), .mv (.t 0), none, []⟩,
 ⟨(some 37), .nck (.t 36), none, [0]⟩,
 ⟨(some 38), .fad 22 (.t 37), none, [1, 0]⟩,
 ⟨(some 39), .ld1 (.t 38), none, [2, 1, 0]⟩,
 ⟨(some 40), .mv (.t 0), none, []⟩,
 ⟨(some 41), .nck (.t 40), none, [4]⟩,
 ⟨(some 42), .fad 15 (.t 41), none, [5, 4]⟩,
 ⟨(some 43), .fad 2 (.t 42), none, [6, 5, 4]⟩,
 ⟨(some 44), .ld1 (.t 43), none, [7, 6, 5, 4]⟩,
 ⟨(some 45), .nck (.t 39), none, [3, 2, 1, 0, 4, 5, 6, 7, 8]⟩,
 ⟨(some 46), .fad 11 (.t 45), none, [9, 3, 2, 1, 0, 4, 5, 6, 7, 8]⟩,
 ⟨none, .st 1 (.t 46) (.t 44), none, [10, 9, 3, 2, 1, 0, 4, 5, 6, 7, 8]⟩])
 (.seq (.reg [⟨(some 2), .mv (.c (.val (.int .i64 0))), none, []⟩])
 .ret)))),
[(.t 2)])
theorem irOk83 : convFn Tryd.prog Tryd.f83 = some ir83 := by kernel_rfl
/-- book.work.evict -/
def ir84 : Nat × C × List RV := (18,
(.seq (.reg [⟨(some 2), .mv (.c (.val (.int .i64 0))), none, []⟩])
 (.seq (.seq (.reg [⟨(some 3), .mv (.t 0), none, []⟩,
 ⟨(some 4), .nck (.t 3), none, []⟩,
 ⟨(some 5), .fad 22 (.t 4), none, []⟩,
 ⟨(some 6), .ld1 (.t 5), none, []⟩,
 ⟨(some 7), .nck (.t 6), none, []⟩,
 ⟨(some 8), .fad 6 (.t 7), none, []⟩,
 ⟨(some 9), .ld1 (.t 8), none, []⟩,
 ⟨(some 10), .bin .neq (.t 9) (.c (.val (.int .i64 3))), none, []⟩])
 (.cond (.t 10) (.seq (.reg [⟨(some 2), .mv (.c (.val (.int .i64 5))), none, []⟩])
 .ret)
 .skip))
 (.seq (.reg [⟨(some 11), .mv (.t 0), none, []⟩,
 ⟨(some 12), .mv (.t 0), none, []⟩,
 ⟨(some 13), .nck (.t 12), none, []⟩,
 ⟨(some 14), .fad 15 (.t 13), none, []⟩,
 ⟨(some 15), .fad 1 (.t 14), none, []⟩,
 ⟨(some 16), .ld1 (.t 15), none, []⟩,
 ⟨(some 17), .call (.f 103) [(.t 11), (.t 16), (.c (.val (.int .i64 0)))], none, []⟩])
 (.seq (.reg [⟨(some 2), .mv (.c (.val (.int .i64 0))), none, []⟩])
 .ret)))),
[(.t 2)])
theorem irOk84 : convFn Tryd.prog Tryd.f84 = some ir84 := by kernel_rfl
/-- book.work.done -/
def ir85 : Nat × C × List RV := (13,
(.seq (.reg [⟨(some 2), .mv (.c (.val (.int .i64 0))), none, []⟩])
 (.seq (.seq (.reg [⟨(some 3), .mv (.t 0), none, []⟩,
 ⟨(some 4), .call (.f 105) [(.t 3)], none, []⟩,
 ⟨(some 5), .not (.t 4), none, []⟩])
 (.cond (.t 5) (.seq (.reg [⟨(some 2), .mv (.c (.val (.int .i64 5))), none, []⟩])
 .ret)
 .skip))
 (.seq (.reg [⟨(some 6), .mv (.t 0), none, []⟩,
 ⟨(some 7), .mv (.t 0), none, []⟩,
 ⟨(some 8), .nck (.t 7), none, []⟩,
 ⟨(some 9), .fad 15 (.t 8), none, []⟩,
 ⟨(some 10), .fad 1 (.t 9), none, []⟩,
 ⟨(some 11), .ld1 (.t 10), none, []⟩,
 ⟨(some 12), .call (.f 103) [(.t 6), (.t 11), (.c (.val (.int .i64 4)))], none, []⟩])
 (.seq (.reg [⟨(some 2), .mv (.c (.val (.int .i64 0))), none, []⟩])
 .ret)))),
[(.t 2)])
theorem irOk85 : convFn Tryd.prog Tryd.f85 = some ir85 := by kernel_rfl


def fitsS0 (s : StateD) (j : JobD) (nodes : Int) (f : Nat) (kv : Nat × Int) : St := ⟨[(2, .int nodes), (3, .fn (.func f) [] []), (9, .int kv.2), (36, nodesV s.nodes), (37, .int s.nodes.length), (38, .int kv.1)], [some (.box 27 [nodesV s.nodes, jobsV s.jobs, .int s.goal, .int s.prior, .int s.mode, .int s.term]), some (.box 52 [.int j.queue, .int j.prio, .int j.min, .int j.max, .int j.work, .int j.pin, .int j.phase, .int j.inc, .int j.nodes, .int j.since, .int j.til, .int j.epoch])]⟩
theorem fits0_tri (s : StateD) (j : JobD) (nodes : Int) (f : Nat) (takes : NodeD → Bool) (hn : s.nodes.length ≤ 6) (hT : ∀ n, Tri Tryd.prog G f [nodeV n] [] (.bool (takes n)) []) :
    Tri Tryd.prog G 67 [stateV s, jobV j, .int nodes, .fn (.func f) [] []] [] (.bool (fitsB s.nodes j nodes takes)) [] := by
  refine tri_W0 Tryd.func67 (by decide) irOk67 (Nat.le_of_ble_eq_true rfl) rfl ?_
  have hp : (2 : Int) ^ s.nodes.length ≤ 64 ∧ 1 ≤ (2 : Int) ^ s.nodes.length := by
    have : s.nodes.length = 0 ∨ s.nodes.length = 1 ∨ s.nodes.length = 2 ∨ s.nodes.length = 3 ∨ s.nodes.length = 4 ∨ s.nodes.length = 5 ∨ s.nodes.length = 6 := by omega
    rcases this with h | h | h | h | h | h | h <;> rw [h] <;> decide
  have hw := shl_one s.nodes.length hn
  simp only [ir67, go_sem, ↓reduceIte, zA, zB, zC, zD, zE, zF, reduceCtorEq, zG, zH, zI, zJ, zK, zL, zM, zN, zO, zP, hw]
  unfold fitsB
  have none : ∀ {x y : Prop} [Decidable x] [Decidable y] {b : Bool}, x ∨ y → (if x ∨ y then false else b) = false := fun h => by rw [if_pos h]
  refine WGD_split (fun h1 => ?_) (fun h1 => ?_) <;> simp only [h1, go_sem, ↓reduceIte, zA, zB, zC, zD, zE, zF, reduceCtorEq, zG, zH, zI, zJ, zK, zL, zM, zN, zO, zP] <;> (try simp only [beq_iff_eq, beq_eq_false_iff_ne, bne_iff_ne, ne_eq, decide_eq_true_eq, decide_eq_false_iff_not, Bool.not_true, Bool.not_false, Bool.not_eq_true, Bool.not_eq_false, bne_eq_false_iff_eq, Decidable.not_not] at h1)
  · simp only [hw]
    refine WGD_split (fun h2 => ?_) (fun h2 => ?_) <;> simp only [h2, go_sem, ↓reduceIte, zA, zB, zC, zD, zE, zF, reduceCtorEq, zG, zH, zI, zJ, zK, zL, zM, zN, zO, zP] <;> (try simp only [beq_iff_eq, beq_eq_false_iff_ne, bne_iff_ne, ne_eq, decide_eq_true_eq, decide_eq_false_iff_not, Bool.not_true, Bool.not_false, Bool.not_eq_true, Bool.not_eq_false, bne_eq_false_iff_eq, Decidable.not_not] at h2)
    · obtain ⟨m, rfl⟩ := Int.eq_ofNat_of_zero_le (show 0 ≤ nodes by omega)
      have hm : m < 64 := by omega
      have hwu : IntKind.u64.wrap (m : Int) = m := by simp [IntKind.wrap, IntKind.bits, IntKind.signed]; omega
      rw [if_neg (by omega)]
      simp only [hwu]
      refine WD_calld (ones_tri m hm) rfl rfl rfl rfl ?_; simp only [go_sem, ↓reduceIte, zA, zB, zC, zD, zE, zF, reduceCtorEq, zG, zH, zI, zJ, zK, zL, zM, zN, zO, zP]
      refine WD_calld (within_tri _ _ _) rfl rfl rfl rfl ?_; simp only [go_sem, ↓reduceIte, zA, zB, zC, zD, zE, zF, reduceCtorEq, zG, zH, zI, zJ, zK, zL, zM, zN, zO, zP]
      cases hb : withinB (many m) j.min j.max with
      | false => simp only [go_sem, ↓reduceIte, zA, zB, zC, zD, zE, zF, reduceCtorEq, zG, zH, zI, zJ, zK, zL, zM, zN, zO, zP]
      | true =>
        simp only [go_sem, ↓reduceIte, zA, zB, zC, zD, zE, zF, reduceCtorEq, zG, zH, zI, zJ, zK, zL, zM, zN, zO, zP]
        generalize hF0 : fitsLoop m takes s.nodes 0 j.pin = r
        refine W_loopI [2, 3, 9, 36, 37, 38] [] (fun kv : Nat × Int => kv.1 ≤ s.nodes.length ∧ fitsLoop m takes (s.nodes.drop kv.1) kv.1 kv.2 = r) (fun kv => s.nodes.length - kv.1) (fitsS0 s j m f) (0, j.pin) ?_ ⟨Nat.zero_le _, hF0⟩ ?_
        · simp only [fitsS0, go_sem, ↓reduceIte, zA, zB, zC, zD, zE, zF, reduceCtorEq, zG, zH, zI, zJ, zK, zL, zM, zN, zO, zP, Int.natCast_zero]
        rintro ⟨k, v⟩ ⟨hk, hF⟩
        dsimp only at hk hF
        simp only [fitsS0, go_sem, ↓reduceIte, zA, zB, zC, zD, zE, zF, reduceCtorEq, zG, zH, zI, zJ, zK, zL, zM, zN, zO, zP]
        refine WC_split (fun h => ?_) (fun h => ?_)
        · have h := lt_of_dec h
          rw [List.drop_eq_getElem_cons h] at hF
          unfold fitsLoop at hF
          simp only [get_map h, go_sem, ↓reduceIte, zA, zB, zC, zD, zE, zF, reduceCtorEq, zG, zH, zI, zJ, zK, zL, zM, zN, zO, zP, bit_eq0 (m : Int) k (by omega)]
          have go : ∀ v', fitsLoop m takes (s.nodes.drop (k + 1)) (k + 1) v' = r → (k + 1, v').1 ≤ s.nodes.length ∧ fitsLoop m takes (s.nodes.drop (k + 1, v').1) (k + 1, v').1 (k + 1, v').2 = r := fun v' h' => ⟨h, h'⟩
          cases hb1 : hasB (m : Int) k with
          | false =>
            rw [if_pos hb1] at hF
            simp only [go_sem, ↓reduceIte, zA, zB, zC, zD, zE, zF, reduceCtorEq, zG, zH, zI, zJ, zK, zL, zM, zN, zO, zP]
            refine W_lpI (k + 1, v) ?_ ?_ (go _ hF) (by dsimp only; omega)
            · simp only [go_sem, ↓reduceIte, zA, zB, zC, zD, zE, zF, reduceCtorEq, zG, zH, zI, zJ, zK, zL, zM, zN, zO, zP]
            · simp only [fitsS0, go_sem, ↓reduceIte, zA, zB, zC, zD, zE, zF, reduceCtorEq, zG, zH, zI, zJ, zK, zL, zM, zN, zO, zP, wrap_succ (show k < 9223372036854775807 by omega)]
          | true =>
            rw [if_neg (by simp [hb1])] at hF
            simp only [go_sem, ↓reduceIte, zA, zB, zC, zD, zE, zF, reduceCtorEq, zG, zH, zI, zJ, zK, zL, zM, zN, zO, zP]
            refine WC_split (fun hv => ?_) (fun hv => ?_) <;> simp only [hv, go_sem, ↓reduceIte, zA, zB, zC, zD, zE, zF, reduceCtorEq, zG, zH, zI, zJ, zK, zL, zM, zN, zO, zP] <;> (try simp only [beq_iff_eq, beq_eq_false_iff_ne, bne_iff_ne, ne_eq, decide_eq_true_eq, decide_eq_false_iff_not, Bool.not_true, Bool.not_false, Bool.not_eq_true, Bool.not_eq_false, bne_eq_false_iff_eq, Decidable.not_not] at hv)
            · rw [if_pos hv] at hF
              refine W_calld (hT s.nodes[k]) rfl rfl rfl rfl ?_; simp only [go_sem, ↓reduceIte, zA, zB, zC, zD, zE, zF, reduceCtorEq, zG, zH, zI, zJ, zK, zL, zM, zN, zO, zP]
              cases ht : takes s.nodes[k] with
              | false =>
                rw [if_neg (by simp [ht])] at hF
                simp only [go_sem, ↓reduceIte, zA, zB, zC, zD, zE, zF, reduceCtorEq, zG, zH, zI, zJ, zK, zL, zM, zN, zO, zP, ← hF]
              | true =>
                by_cases hq : s.nodes[k].version = s.nodes[k].version
                · rw [if_pos ⟨ht, hq⟩] at hF
                  have hq1 : (s.nodes[k].version != s.nodes[k].version) = false := by simp [← hq]
                  simp only [go_sem, ↓reduceIte, zA, zB, zC, zD, zE, zF, reduceCtorEq, zG, zH, zI, zJ, zK, zL, zM, zN, zO, zP, hq1]
                  refine W_lpI (k + 1, s.nodes[k].version) ?_ ?_ (go _ hF) (by dsimp only; omega)
                  · simp only [go_sem, ↓reduceIte, zA, zB, zC, zD, zE, zF, reduceCtorEq, zG, zH, zI, zJ, zK, zL, zM, zN, zO, zP]
                  · simp only [fitsS0, go_sem, ↓reduceIte, zA, zB, zC, zD, zE, zF, reduceCtorEq, zG, zH, zI, zJ, zK, zL, zM, zN, zO, zP, wrap_succ (show k < 9223372036854775807 by omega)]
                · rw [if_neg (fun h' => hq h'.2)] at hF
                  have hq1 : (s.nodes[k].version != s.nodes[k].version) = true := bne_iff_ne.2 hq
                  simp only [go_sem, ↓reduceIte, zA, zB, zC, zD, zE, zF, reduceCtorEq, zG, zH, zI, zJ, zK, zL, zM, zN, zO, zP, hq1, ← hF]
            · rw [if_neg hv] at hF
              refine W_calld (hT s.nodes[k]) rfl rfl rfl rfl ?_; simp only [go_sem, ↓reduceIte, zA, zB, zC, zD, zE, zF, reduceCtorEq, zG, zH, zI, zJ, zK, zL, zM, zN, zO, zP]
              cases ht : takes s.nodes[k] with
              | false =>
                rw [if_neg (by simp [ht])] at hF
                simp only [go_sem, ↓reduceIte, zA, zB, zC, zD, zE, zF, reduceCtorEq, zG, zH, zI, zJ, zK, zL, zM, zN, zO, zP, ← hF]
              | true =>
                by_cases hq : s.nodes[k].version = v
                · rw [if_pos ⟨ht, hq⟩] at hF
                  have hq1 : (s.nodes[k].version != v) = false := by simp [← hq]
                  simp only [go_sem, ↓reduceIte, zA, zB, zC, zD, zE, zF, reduceCtorEq, zG, zH, zI, zJ, zK, zL, zM, zN, zO, zP, hq1]
                  refine W_lpI (k + 1, v) ?_ ?_ (go _ hF) (by dsimp only; omega)
                  · simp only [go_sem, ↓reduceIte, zA, zB, zC, zD, zE, zF, reduceCtorEq, zG, zH, zI, zJ, zK, zL, zM, zN, zO, zP]
                  · simp only [fitsS0, go_sem, ↓reduceIte, zA, zB, zC, zD, zE, zF, reduceCtorEq, zG, zH, zI, zJ, zK, zL, zM, zN, zO, zP, wrap_succ (show k < 9223372036854775807 by omega)]
                · rw [if_neg (fun h' => hq h'.2)] at hF
                  have hq1 : (s.nodes[k].version != v) = true := bne_iff_ne.2 hq
                  simp only [go_sem, ↓reduceIte, zA, zB, zC, zD, zE, zF, reduceCtorEq, zG, zH, zI, zJ, zK, zL, zM, zN, zO, zP, hq1, ← hF]
        · obtain rfl := eq_of_dec h hk
          rw [List.drop_length] at hF
          simp only [go_sem, ↓reduceIte, zA, zB, zC, zD, zE, zF, reduceCtorEq, zG, zH, zI, zJ, zK, zL, zM, zN, zO, zP, ← hF, fitsLoop]
    · rw [if_pos (.inr h2)]
  · rw [if_pos (.inl h1)]

theorem free_tri (n : NodeD) : Tri Tryd.prog G 30 [nodeV n] [] (.bool (freeB n)) [] := by
  refine tri_W0 Tryd.func30 (by decide) irOk30 (Nat.le_of_ble_eq_true rfl) rfl ?_
  simp only [ir30, go_sem, ↓reduceIte, zA, zB, zC, zD, zE, zF, reduceCtorEq, zG, zH, zI, zJ, zK, zL, zM, zN, zO, zP]
  unfold freeB
  cases h1 : n.up <;> cases h2 : n.cordon <;> cases h3 : n.moving <;> simp only [h1, h2, h3, go_sem, ↓reduceIte, zA, zB, zC, zD, zE, zF, reduceCtorEq, zG, zH, zI, zJ, zK, zL, zM, zN, zO, zP] <;> rfl

section
variable (c : ConfD) (s : StateD) (o : OpD) (i : Nat) (hi : i < s.nodes.length) (ha : o.a = i)
include hi ha
theorem cordon_tri : Tri Tryd.prog G 86 [.ptr 0 0] (workO c s o noP (.rp 1 s.nodes.length 5 i 0)) (.int (cordonD s o).2) (workO c (cordonD s o).1 o noP (.rp 1 s.nodes.length 5 i 0)) := by
  refine tri_WP Tryd.func86 (by decide) irOk86 (Nat.le_of_ble_eq_true rfl) rfl rfl rfl ?_
  simp only [ir86, go_sem, ↓reduceIte, zA, zB, zC, zD, zE, zF, reduceCtorEq, zG, zH, zI, zJ, zK, zL, zM, zN, zO, zP]
  have hg := get_mapD (f := nodeR) zeroNode hi
  have ha2 : o.a.toNat = i := by omega
  have hN : nodeA s o.a = s.nodes.getD i zeroNode := by unfold nodeA; rw [ha2]
  generalize s.nodes.getD i zeroNode = n at *
  cases hu : n.up <;> cases hc : n.cordon <;> simp only [hg, hu, hc, go_sem, ↓reduceIte, zA, zB, zC, zD, zE, zF, reduceCtorEq, zG, zH, zI, zJ, zK, zL, zM, zN, zO, zP] <;> simp only [cordonD, hu, hc, setN, hN, ha2, List.map_set, List.length_set, List.set_set, go_sem, ↓reduceIte, zA, zB, zC, zD, zE, zF, reduceCtorEq, zG, zH, zI, zJ, zK, zL, zM, zN, zO, zP, Bool.true_eq_false, Bool.false_eq_true, ne_eq, not_true, not_false_eq_true, or_self]
theorem uncordon_tri : Tri Tryd.prog G 87 [.ptr 0 0] (workO c s o noP (.rp 1 s.nodes.length 5 i 0)) (.int (uncordonD s o).2) (workO c (uncordonD s o).1 o noP (.rp 1 s.nodes.length 5 i 0)) := by
  refine tri_WP Tryd.func87 (by decide) irOk87 (Nat.le_of_ble_eq_true rfl) rfl rfl rfl ?_
  simp only [ir87, go_sem, ↓reduceIte, zA, zB, zC, zD, zE, zF, reduceCtorEq, zG, zH, zI, zJ, zK, zL, zM, zN, zO, zP]
  have hg := get_mapD (f := nodeR) zeroNode hi
  have ha2 : o.a.toNat = i := by omega
  have hN : nodeA s o.a = s.nodes.getD i zeroNode := by unfold nodeA; rw [ha2]
  generalize s.nodes.getD i zeroNode = n at *
  cases hu : n.moving <;> cases hc : n.cordon <;> simp only [hg, hu, hc, go_sem, ↓reduceIte, zA, zB, zC, zD, zE, zF, reduceCtorEq, zG, zH, zI, zJ, zK, zL, zM, zN, zO, zP] <;> simp only [uncordonD, hu, hc, setN, hN, ha2, List.map_set, List.length_set, List.set_set, go_sem, ↓reduceIte, zA, zB, zC, zD, zE, zF, reduceCtorEq, zG, zH, zI, zJ, zK, zL, zM, zN, zO, zP, Bool.true_eq_false, Bool.false_eq_true, ne_eq, not_true, not_false_eq_true, or_self]
theorem move_tri : Tri Tryd.prog G 88 [.ptr 0 0] (workO c s o noP (.rp 1 s.nodes.length 5 i 0)) (.int (moveD s o).2) (workO c (moveD s o).1 o noP (.rp 1 s.nodes.length 5 i 0)) := by
  refine tri_WP Tryd.func88 (by decide) irOk88 (Nat.le_of_ble_eq_true rfl) rfl rfl rfl ?_
  simp only [ir88, go_sem, ↓reduceIte, zA, zB, zC, zD, zE, zF, reduceCtorEq, zG, zH, zI, zJ, zK, zL, zM, zN, zO, zP]
  have hg := get_mapD (f := nodeR) zeroNode hi
  have ha2 : o.a.toNat = i := by omega
  have hN : nodeA s o.a = s.nodes.getD i zeroNode := by unfold nodeA; rw [ha2]
  generalize s.nodes.getD i zeroNode = n at *
  cases hu : n.up <;> cases hc : n.cordon <;> cases hm : n.moving <;> cases hj : (n.job != 0) <;> simp only [hg, hu, hc, hm, hj, go_sem, ↓reduceIte, zA, zB, zC, zD, zE, zF, reduceCtorEq, zG, zH, zI, zJ, zK, zL, zM, zN, zO, zP] <;> (simp only [beq_iff_eq, beq_eq_false_iff_ne, bne_iff_ne, ne_eq, decide_eq_true_eq, decide_eq_false_iff_not, Bool.not_true, Bool.not_false, Bool.not_eq_true, Bool.not_eq_false, bne_eq_false_iff_eq, Decidable.not_not] at hj) <;> simp only [moveD, hu, hc, hm, hj, setN, hN, ha2, List.map_set, List.length_set, List.set_set, go_sem, ↓reduceIte, zA, zB, zC, zD, zE, zF, reduceCtorEq, zG, zH, zI, zJ, zK, zL, zM, zN, zO, zP, Bool.true_eq_false, Bool.false_eq_true, ne_eq, not_true, not_false_eq_true, or_self]
theorem moved_tri : Tri Tryd.prog G 89 [.ptr 0 0] (workO c s o noP (.rp 1 s.nodes.length 5 i 0)) (.int (movedD s o).2) (workO c (movedD s o).1 o noP (.rp 1 s.nodes.length 5 i 0)) := by
  refine tri_WP Tryd.func89 (by decide) irOk89 (Nat.le_of_ble_eq_true rfl) rfl rfl rfl ?_
  simp only [ir89, go_sem, ↓reduceIte, zA, zB, zC, zD, zE, zF, reduceCtorEq, zG, zH, zI, zJ, zK, zL, zM, zN, zO, zP]
  have hg := get_mapD (f := nodeR) zeroNode hi
  have ha2 : o.a.toNat = i := by omega
  have hN : nodeA s o.a = s.nodes.getD i zeroNode := by unfold nodeA; rw [ha2]
  generalize s.nodes.getD i zeroNode = n at *
  refine W_calld (within_tri _ _ _) rfl rfl rfl rfl ?_; simp only [go_sem, ↓reduceIte, zA, zB, zC, zD, zE, zF, reduceCtorEq, zG, zH, zI, zJ, zK, zL, zM, zN, zO, zP]
  cases hw : withinB o.b 1 9 with
  | false => simp only [hg, go_sem, ↓reduceIte, zA, zB, zC, zD, zE, zF, reduceCtorEq, zG, zH, zI, zJ, zK, zL, zM, zN, zO, zP]; simp only [movedD, hw, setN, hN, ha2, List.map_set, List.length_set, List.set_set, go_sem, ↓reduceIte, zA, zB, zC, zD, zE, zF, reduceCtorEq, zG, zH, zI, zJ, zK, zL, zM, zN, zO, zP, Bool.true_eq_false, Bool.false_eq_true, ne_eq, not_true, not_false_eq_true, or_self]
  | true =>
    cases hm : n.moving with
    | false => simp only [hg, hm, go_sem, ↓reduceIte, zA, zB, zC, zD, zE, zF, reduceCtorEq, zG, zH, zI, zJ, zK, zL, zM, zN, zO, zP]; simp only [movedD, hw, hm, setN, hN, ha2, List.map_set, List.length_set, List.set_set, go_sem, ↓reduceIte, zA, zB, zC, zD, zE, zF, reduceCtorEq, zG, zH, zI, zJ, zK, zL, zM, zN, zO, zP, Bool.true_eq_false, Bool.false_eq_true, ne_eq, not_true, not_false_eq_true, or_self]
    | true =>
      simp only [hg, hm, hi, List.getElem?_set_self, List.length_map, List.length_set, go_sem, ↓reduceIte, zA, zB, zC, zD, zE, zF, reduceCtorEq, zG, zH, zI, zJ, zK, zL, zM, zN, zO, zP]
      refine W_opsD_end rfl ?_
      simp only [movedD, hw, hm, setN, hN, ha2, List.map_set, List.length_set, List.set_set, go_sem, ↓reduceIte, zA, zB, zC, zD, zE, zF, reduceCtorEq, zG, zH, zI, zJ, zK, zL, zM, zN, zO, zP, Bool.true_eq_false, Bool.false_eq_true, ne_eq, not_true, not_false_eq_true, or_self]
theorem up_tri : Tri Tryd.prog G 78 [.ptr 0 0] (workO c s o noP (.rp 1 s.nodes.length 5 i 0)) (.int (upD s o).2) (workO c (upD s o).1 o noP (.rp 1 s.nodes.length 5 i 0)) := by
  refine tri_WP Tryd.func78 (by decide) irOk78 (Nat.le_of_ble_eq_true rfl) rfl rfl rfl ?_
  simp only [ir78, go_sem, ↓reduceIte, zA, zB, zC, zD, zE, zF, reduceCtorEq, zG, zH, zI, zJ, zK, zL, zM, zN, zO, zP]
  have hg := get_mapD (f := nodeR) zeroNode hi
  have ha2 : o.a.toNat = i := by omega
  have hN : nodeA s o.a = s.nodes.getD i zeroNode := by unfold nodeA; rw [ha2]
  generalize s.nodes.getD i zeroNode = n at *
  refine W_calld (within_tri _ _ _) rfl rfl rfl rfl ?_; simp only [go_sem, ↓reduceIte, zA, zB, zC, zD, zE, zF, reduceCtorEq, zG, zH, zI, zJ, zK, zL, zM, zN, zO, zP]
  cases hw : withinB o.b 1 9 with
  | false => simp only [hg, go_sem, ↓reduceIte, zA, zB, zC, zD, zE, zF, reduceCtorEq, zG, zH, zI, zJ, zK, zL, zM, zN, zO, zP]; simp only [upD, hw, setN, hN, ha2, List.map_set, List.length_set, List.set_set, go_sem, ↓reduceIte, zA, zB, zC, zD, zE, zF, reduceCtorEq, zG, zH, zI, zJ, zK, zL, zM, zN, zO, zP, Bool.true_eq_false, Bool.false_eq_true, ne_eq, not_true, not_false_eq_true, or_self]
  | true =>
    cases hm : n.up with
    | true => simp only [hg, hm, go_sem, ↓reduceIte, zA, zB, zC, zD, zE, zF, reduceCtorEq, zG, zH, zI, zJ, zK, zL, zM, zN, zO, zP]; simp only [upD, hw, hm, setN, hN, ha2, List.map_set, List.length_set, List.set_set, go_sem, ↓reduceIte, zA, zB, zC, zD, zE, zF, reduceCtorEq, zG, zH, zI, zJ, zK, zL, zM, zN, zO, zP, Bool.true_eq_false, Bool.false_eq_true, ne_eq, not_true, not_false_eq_true, or_self]
    | false =>
      simp only [hg, hm, hi, List.getElem?_set_self, List.length_map, List.length_set, go_sem, ↓reduceIte, zA, zB, zC, zD, zE, zF, reduceCtorEq, zG, zH, zI, zJ, zK, zL, zM, zN, zO, zP]
      refine W_opsD_end rfl ?_
      simp only [upD, hw, hm, setN, hN, ha2, List.map_set, List.length_set, List.set_set, go_sem, ↓reduceIte, zA, zB, zC, zD, zE, zF, reduceCtorEq, zG, zH, zI, zJ, zK, zL, zM, zN, zO, zP, Bool.true_eq_false, Bool.false_eq_true, ne_eq, not_true, not_false_eq_true, or_self]
end
end Dv
