/- The book's work: release, and the ops of the rollout. -/
import Derived.Test.YtjmceebhnjiikaaDoorD7
import Derived.Test.YtjmceebhnjiikaaDoorP7
set_option linter.unusedVariables false
set_option linter.unusedSimpArgs false
namespace Dv
open Go Go.Proofs
open Nat renaming reduceEqDiff → zA, reduceAdd → zB, reduceSub → zC, reduceMul → zD, reduceLT → zE, reduceLeDiff → zF
open Int renaming reduceLE → zG, reduceLT → zH, reduceToNat → zI, reduceBEq → zJ, reduceBNe → zK, reduceEq → zL, reduceAdd → zM, reduceSub → zN, reduceMul → zO, reduceNeg → zP
attribute [local go_sem] argEnv W_nil W_seq W_skip W_ret W_exit W_scope W_block W_blk W_reg W_regD W_cond WC_t WC_f WC_any Wx_c Wx_ops Wx_lp Wx_blk W_ops_nil W_opsD_q W_guard W_guardD WG_tt WG_ff WG_tf WG_ft WG_u WGD_tt WGD_ff WGD_tf WGD_ft WGD_u WE_some WED_some W_mv W_pick W_new W_box W_build W_bsl W_ld1 W_ldn W_st W_nck W_bin W_eqb W_not W_cvt W_fad W_fld1 W_fldn W_ixa W_ixr W_ix1 W_ixs W_len W_lens W_mkf W_ext W_app W_min W_isnp W_isns W_eqs W_neg W_ixn W_sli W_sls WD_mv WD_pick WD_new WD_box WD_build WD_bsl WD_ld1 WD_ldn WD_st WD_nck WD_bin WD_eqb WD_not WD_cvt WD_fad WD_fld1 WD_fldn WD_ixa WD_ixr WD_ix1 WD_ixs WD_len WD_lens WD_mkf WD_ext WD_app WD_min WD_isnp WD_isns WD_eqs WD_neg WD_ixn WD_sli WD_sls effF Opd.ev getE putE binV LV.int LV.bool LV.undef Go.undef LV.cells LV.toD LV.toDs splice fillL rowsOf srcRows updL objL Eff.owned nwp St.get St.obj St.put Value.oneCell' Ends adopt Ad.ap isNil St.keep St.okKeep okObj idl idlL idlO RVs.of RV.of oneOr Ends0 EndsO_iff frzs rn rnL rnO piOf eqCells eqV boundV Option.map_some Option.map_none List.append_nil List.nil_append List.cons_append List.map_nil List.map_cons List.length_nil List.length_cons List.set_cons_zero List.set_cons_succ List.take_succ_cons List.take_zero List.take_nil List.drop_succ_cons List.drop_zero List.drop_nil List.getElem?_cons_zero List.getElem?_cons_succ List.getElem?_nil List.isEmpty_nil List.isEmpty_cons List.all_cons List.all_nil List.isEmpty_nil cond_true cond_false Bool.true_and Bool.false_and Bool.and_true Bool.and_false Bool.not_true Bool.not_false Bool.or_true Bool.true_or Bool.or_false Bool.false_or true_and and_true true_or or_true Option.some.injEq LV.d.injEq DV.val.injEq Value.bool.injEq Value.int.injEq decide_true decide_false and_self Nat.zero_add Nat.add_zero if_true if_false Int.toNat_zero beq_self_eq_true Nat.zero_lt_succ Int.toNat_natCast Int.natCast_nonneg List.length_map i64 bl List.zip_cons_cons List.zip_nil_left List.zip_nil_right nwp confV stateV nodeV jobV nodesV jobsV opV msgV nodeR jobR opR msgR zeroOp zeroMsg msgsV
variable {G : Nat → Option (List DV)}

/-- book.work.release -/
def ir103 : Nat × C × List RV := (58,
(.seq (.reg [⟨(some 8), .mv (.t 0), none, []⟩,
 ⟨(some 9), .nck (.t 8), none, []⟩,
 ⟨(some 10), .fad 9 (.t 9), none, []⟩,
 ⟨(some 11), .fad 1 (.t 10), none, []⟩,
 ⟨(some 12), .ld1 (.t 11), none, []⟩,
 ⟨(some 13), .mv (.t 1), none, []⟩,
 ⟨(some 14), .bin .sub (.t 13) (.c (.val (.int .i64 1))), none, []⟩,
 ⟨(some 15), .ixa 12 (.t 12) (.t 14), none, []⟩,
 ⟨(some 6), .mv (.t 15), none, []⟩])
 (.seq (.seq (.reg [⟨(some 16), .mv (.t 0), none, []⟩,
 ⟨(some 17), .nck (.t 16), none, []⟩,
 ⟨(some 18), .fad 9 (.t 17), none, []⟩,
 ⟨(some 19), .fad 0 (.t 18), none, []⟩,
 ⟨(some 20), .ld1 (.t 19), none, []⟩,
 ⟨(some 21), .len (.t 20), none, []⟩,
 ⟨(some 22), .mv (.c (.val (.int .i64 0))), none, []⟩])
 (.block 0 (.loop (.seq (.reg [⟨(some 23), .bin .lss (.t 22) (.t 21), none, []⟩])
 (.seq (.cond (.t 23) .skip
 (.exit 0))
 (.seq (.block 1 (.seq (.reg [⟨(some 24), .mv (.t 22), none, []⟩,
 ⟨(some 7), .mv (.t 24), none, []⟩])
 (.seq (.reg [⟨(some 25), .mv (.t 0), none, []⟩,
 ⟨(some 26), .nck (.t 25), none, []⟩,
 ⟨(some 27), .fad 9 (.t 26), none, []⟩,
 ⟨(some 28), .fad 0 (.t 27), none, []⟩,
 ⟨(some 29), .ld1 (.t 28), none, []⟩,
 ⟨(some 30), .mv (.t 7), none, []⟩,
 ⟨(some 31), .ixa 5 (.t 29) (.t 30), none, []⟩,
 ⟨(some 32), .fad 4 (.t 31), none, []⟩,
 ⟨(some 33), .ld1 (.t 32), none, []⟩,
 ⟨(some 34), .mv (.t 1), none, []⟩,
 ⟨(some 35), .bin .eql (.t 33) (.t 34), none, []⟩])
 (.cond (.t 35) (.reg [⟨(some 36), .mv (.t 0), none, []⟩,
 ⟨(some 37), .nck (.t 36), none, []⟩,
 ⟨(some 38), .fad 9 (.t 37), none, []⟩,
 ⟨(some 39), .fad 0 (.t 38), none, []⟩,
 ⟨(some 40), .ld1 (.t 39), none, []⟩,
 ⟨(some 41), .mv (.t 7), none, []⟩,
 ⟨(some 42), .ixa 5 (.t 40) (.t 41), none, []⟩,
 ⟨(some 43), .fad 4 (.t 42), none, []⟩,
 ⟨none, .st 1 (.t 43) (.c (.val (.int .i64 0))), none, []⟩])
 .skip))))
 (.reg [⟨(some 44), .bin .add (.t 22) (.c (.val (.int .i64 1))), none, []⟩,
 ⟨(some 22), .mv (.t 44), none, []⟩])))))))
 (.reg [⟨(some 45), .mv (.t 6), none, []⟩,
 ⟨(some 46), .mv (.t 6), none, []⟩,
 ⟨(some 47), .mv (.t 6), none, []⟩,
 ⟨(some 48), .mv (.t 6), none, []⟩,
 ⟨(some 49), .mv (.t 2), none, []⟩,
 ⟨(some 50), .nck (.t 45), none, []⟩,
 ⟨(some 51), .fad 6 (.t 50), none, []⟩,
 ⟨none, .st 1 (.t 51) (.t 49), none, []⟩,
 ⟨(some 52), .nck (.t 46), none, []⟩,
 ⟨(some 53), .fad 8 (.t 52), none, []⟩,
 ⟨none, .st 1 (.t 53) (.c (.val (.int .i64 0))), none, []⟩,
 ⟨(some 54), .nck (.t 47), none, []⟩,
 ⟨(some 55), .fad 9 (.t 54), none, []⟩,
 ⟨none, .st 1 (.t 55) (.c (.val (.int .i64 0))), none, []⟩,
 ⟨(some 56), .nck (.t 48), none, []⟩,
 ⟨(some 57), .fad 10 (.t 56), none, []⟩,
 ⟨none, .st 1 (.t 57) (.c (.val (.int .i64 0))), none, []⟩]))),
[])
theorem irOk103 : convFn Tryd.prog Tryd.f103 = some ir103 := by kernel_rfl
/-- book.told -/
def ir111 : Nat × C × List RV := (7,
(.seq (.reg [⟨(some 4), .mv (.c (.val (.int .i64 0))), none, []⟩])
 (.seq (.seq (.reg [⟨(some 5), .mv (.t 0), none, []⟩])
 (.cond (.t 5) (.seq (.reg [⟨(some 4), .mv (.c (.val (.int .i64 0))), none, []⟩])
 .ret)
 .skip))
 (.seq (.reg [⟨(some 6), .mv (.t 1), none, []⟩,
 ⟨(some 4), .mv (.t 6), none, []⟩])
 .ret))),
[(.t 4)])
theorem irOk111 : convFn Tryd.prog Tryd.f111 = some ir111 := by kernel_rfl
/-- book.work.turn -/
def ir104 : Nat × C × List RV := (15,
(.seq (.reg [⟨(some 6), .mv (.c (.val (.int .i64 0))), none, []⟩])
 (.seq (.seq (.reg [⟨(some 7), .mv (.t 1), none, []⟩])
 (.cond (.t 7) (.reg [⟨(some 8), .mv (.t 0), none, []⟩,
 ⟨(some 9), .mv (.t 2), none, []⟩,
 ⟨(some 10), .nck (.t 8), none, []⟩,
 ⟨(some 11), .fad 9 (.t 10), none, []⟩,
 ⟨(some 12), .fad 4 (.t 11), none, []⟩,
 ⟨none, .st 1 (.t 12) (.t 9), none, []⟩])
 .skip))
 (.seq (.reg [⟨(some 13), .mv (.t 1), none, []⟩,
 ⟨(some 14), .call (.f 111) [(.t 13), (.c (.val (.int .i64 5)))], none, []⟩,
 ⟨(some 6), .mv (.t 14), none, []⟩])
 .ret))),
[(.t 6)])
theorem irOk104 : convFn Tryd.prog Tryd.f104 = some ir104 := by kernel_rfl
/-- book.work.pause -/
def ir74 : Nat × C × List RV := (11,
(.seq (.reg [⟨(some 2), .mv (.c (.val (.int .i64 0))), none, []⟩])
 (.seq (.reg [⟨(some 3), .mv (.t 0), none, []⟩,
 ⟨(some 4), .mv (.t 0), none, []⟩,
 ⟨(some 5), .nck (.t 4), none, []⟩,
 ⟨(some 6), .fad 9 (.t 5), none, []⟩,
 ⟨(some 7), .fad 4 (.t 6), none, []⟩,
 ⟨(some 8), .ld1 (.t 7), none, []⟩,
 ⟨(some 9), .bin .eql (.t 8) (.c (.val (.int .i64 0))), none, []⟩,
 ⟨(some 10), .call (.f 104) [(.t 3), (.t 9), (.c (.val (.int .i64 1)))], none, []⟩,
 ⟨(some 2), .mv (.t 10), none, []⟩])
 .ret)),
[(.t 2)])
theorem irOk74 : convFn Tryd.prog Tryd.f74 = some ir74 := by kernel_rfl
/-- book.work.resume -/
def ir75 : Nat × C × List RV := (11,
(.seq (.reg [⟨(some 2), .mv (.c (.val (.int .i64 0))), none, []⟩])
 (.seq (.reg [⟨(some 3), .mv (.t 0), none, []⟩,
 ⟨(some 4), .mv (.t 0), none, []⟩,
 ⟨(some 5), .nck (.t 4), none, []⟩,
 ⟨(some 6), .fad 9 (.t 5), none, []⟩,
 ⟨(some 7), .fad 4 (.t 6), none, []⟩,
 ⟨(some 8), .ld1 (.t 7), none, []⟩,
 ⟨(some 9), .bin .eql (.t 8) (.c (.val (.int .i64 1))), none, []⟩,
 ⟨(some 10), .call (.f 104) [(.t 3), (.t 9), (.c (.val (.int .i64 0)))], none, []⟩,
 ⟨(some 2), .mv (.t 10), none, []⟩])
 .ret)),
[(.t 2)])
theorem irOk75 : convFn Tryd.prog Tryd.f75 = some ir75 := by kernel_rfl
/-- book.work.abort -/
def ir76 : Nat × C × List RV := (11,
(.seq (.reg [⟨(some 2), .mv (.c (.val (.int .i64 0))), none, []⟩])
 (.seq (.reg [⟨(some 3), .mv (.t 0), none, []⟩,
 ⟨(some 4), .mv (.t 0), none, []⟩,
 ⟨(some 5), .nck (.t 4), none, []⟩,
 ⟨(some 6), .fad 9 (.t 5), none, []⟩,
 ⟨(some 7), .fad 4 (.t 6), none, []⟩,
 ⟨(some 8), .ld1 (.t 7), none, []⟩,
 ⟨(some 9), .bin .neq (.t 8) (.c (.val (.int .i64 2))), none, []⟩,
 ⟨(some 10), .call (.f 104) [(.t 3), (.t 9), (.c (.val (.int .i64 2)))], none, []⟩,
 ⟨(some 2), .mv (.t 10), none, []⟩])
 .ret)),
[(.t 2)])
theorem irOk76 : convFn Tryd.prog Tryd.f76 = some ir76 := by kernel_rfl
/-- book.work.target -/
def ir73 : Nat × C × List RV := (32,
(.seq (.reg [⟨(some 2), .mv (.c (.val (.int .i64 0))), none, []⟩])
 (.seq (.seq (.reg [⟨(some 3), .mv (.t 0), none, []⟩,
 ⟨(some 4), .nck (.t 3), none, []⟩,
 ⟨(some 5), .fad 15 (.t 4), none, []⟩,
 ⟨(some 6), .fad 1 (.t 5), none, []⟩,
 ⟨(some 7), .ld1 (.t 6), none, []⟩,
 ⟨(some 8), .call (.f 40) [(.t 7), (.c (.val (.int .i64 1))), (.c (.val (.int .i64 9)))], none, []⟩,
 ⟨(some 9), .not (.t 8), none, []⟩])
 (.cond (.t 9) (.seq (.reg [⟨(some 2), .mv (.c (.val (.int .i64 1))), none, []⟩])
 .ret)
 .skip))
 (.seq (.regD [⟨(some 10), .mv (.t 0), none, []⟩,
 ⟨(some 11), .mv (.t 0), none, []⟩,
 ⟨(some 12), .mv (.t 0), none, []⟩,
 ⟨(some 13), .mv (.t 0), none, []⟩,
 ⟨(some 14), .nck (.t 13), none, [3]⟩,
 ⟨(some 15), .fad 9 (.t 14), none, [4, 3]⟩,
 ⟨(some 16), .ldn 6 (.t 15), none, [5, 4, 3]⟩,
 ⟨(some 17), .call (.f 25) [(.t 16)], none, [6, 5, 4, 3]⟩,
 ⟨(some 18), .mv (.t 0), none, []⟩,
 ⟨(some 19), .nck (.t 18), none, [8]⟩,
 ⟨(some 20), .fad 15 (.t 19), none, [9, 8]⟩,
 ⟨(some 21), .fad 1 (.t 20), none, [10, 9, 8]⟩,
 ⟨(some 22), .ld1 (.t 21), none, [11, 10, 9, 8]⟩,
 ⟨(some 23), .nck (.t 10), none, [0, 3, 4, 5, 6, 7, 12, 11, 10, 9, 8]⟩,
 ⟨(some 24), .fad 9 (.t 23), none, [13, 0, 3, 4, 5, 6, 7, 12, 11, 10, 9, 8]⟩,
 ⟨(some 25), .fad 3 (.t 24), none, [14, 13, 0, 3, 4, 5, 6, 7, 12, 11, 10, 9, 8]⟩,
 ⟨none, .st 1 (.t 25) (.t 17), none, [15, 14, 13, 0, 3, 4, 5, 6, 7, 12, 11, 10, 9, 8]⟩,
 ⟨(some 26), .nck (.t 11), none, [1, 0, 3, 4, 5, 6, 7, 8, 9, 10, 11, 12, 13, 14, 15, 16]⟩,
 ⟨(some 27), .fad 9 (.t 26), none, [17, 1, 0, 3, 4, 5, 6, 7, 8, 9, 10, 11, 12, 13, 14, 15, 16]⟩,
 ⟨(some 28), .fad 2 (.t 27), none, [18, 17, 1, 0, 3, 4, 5, 6, 7, 8, 9, 10, 11, 12, 13, 14, 15, 16]⟩,
 ⟨none, .st 1 (.t 28) (.t 22), none, [19, 18, 17, 1, 0, 3, 4, 5, 6, 7, 8, 9, 10, 11, 12, 13, 14, 15, 16]⟩,
 ⟨(some 29), .nck (.t 12), none, [2, 0, 1, 3, 4, 5, 6, 7, 8, 9, 10, 11, 12, 13, 14, 15, 16, 17, 18, 19, 20]⟩,
 ⟨(some 30), .fad 9 (.t 29), none, [21, 2, 0, 1, 3, 4, 5, 6, 7, 8, 9, 10, 11, 12, 13, 14, 15, 16, 17, 18, 19, 20]⟩,
 ⟨(some 31), .fad 4 (.t 30), none, [22, 21, 2, 0, 1, 3, 4, 5, 6, 7, 8, 9, 10, 11, 12, 13, 14, 15, 16, 17, 18, 19, 20]⟩,
 ⟨none, .st 1 (.t 31) (.c (.val (.int .i64 0))), none, [23, 22, 21, 2, 0, 1, 3, 4, 5, 6, 7, 8, 9, 10, 11, 12, 13, 14, 15, 16, 17, 18, 19, 20]⟩])
 (.seq (.reg [⟨(some 2), .mv (.c (.val (.int .i64 0))), none, []⟩])
 .ret)))),
[(.t 2)])
theorem irOk73 : convFn Tryd.prog Tryd.f73 = some ir73 := by kernel_rfl
/-- book.work.newterm -/
def ir91 : Nat × C × List RV := (18,
(.seq (.reg [⟨(some 2), .mv (.c (.val (.int .i64 0))), none, []⟩])
 (.seq (.seq (.reg [⟨(some 3), .mv (.t 0), none, []⟩,
 ⟨(some 4), .nck (.t 3), none, []⟩,
 ⟨(some 5), .fad 9 (.t 4), none, []⟩,
 ⟨(some 6), .fad 5 (.t 5), none, []⟩,
 ⟨(some 7), .ld1 (.t 6), none, []⟩,
 ⟨(some 8), .bin .geq (.t 7) (.c (.val (.int .i64 1000000))), none, []⟩])
 (.cond (.t 8) (.seq (.reg [⟨(some 2), .mv (.c (.val (.int .i64 3))), none, []⟩])
 .ret)
 .skip))
 (.seq (.reg [⟨(some 9), .mv (.t 0), none, []⟩,
 ⟨(some 10), .nck (.t 9), none, []⟩,
 ⟨(some 11), .fad 9 (.t 10), none, []⟩,
 ⟨(some 12), .fad 5 (.t 11), none, []⟩,
 ⟨(some 13), .ld1 (.t 12), none, []⟩,
 ⟨(some 14), .bin .add (.t 13) (.c (.val (.int .i64 1))), none, []⟩,
 ⟨(some 15), .nck (.t 9), none, []⟩,
 ⟨(some 16), .fad 9 (.t 15), none, []⟩,
 ⟨(some 17), .fad 5 (.t 16), none, []⟩,
 ⟨none, .st 1 (.t 17) (.t 14), none, []⟩])
 (.seq (.reg [⟨(some 2), .mv (.c (.val (.int .i64 0))), none, []⟩])
 .ret)))),
[(.t 2)])
theorem irOk91 : convFn Tryd.prog Tryd.f91 = some ir91 := by kernel_rfl
/-- book.work.submit -/
def ir71 : Nat × C × List RV := (50,
(.seq (.reg [⟨(some 2), .mv (.c (.val (.int .i64 0))), none, []⟩])
 (.seq (.reg [⟨(some 5), .mv (.t 0), none, []⟩,
 ⟨(some 6), .nck (.t 5), none, []⟩,
 ⟨(some 7), .fad 15 (.t 6), none, []⟩,
 ⟨(some 8), .ldn 7 (.t 7), none, []⟩,
 ⟨(some 3), .new 35 [(.val (.int .i64 0)), (.val (.int .i64 0)), (.val (.int .i64 0)), (.val (.int .i64 0)), (.val (.int .i64 0)), (.val (.int .i64 0)), (.val (.int .i64 0))], none, []⟩,
 ⟨none, .st 7 (.t 3) (.t 8), none, []⟩])
 (.seq (.reg [⟨(some 9), .fad 1 (.t 3), none, []⟩,
 ⟨(some 10), .ld1 (.t 9), none, []⟩,
 ⟨(some 11), .fad 2 (.t 3), none, []⟩,
 ⟨(some 12), .ld1 (.t 11), none, []⟩,
 ⟨(some 13), .fad 3 (.t 3), none, []⟩,
 ⟨(some 14), .ld1 (.t 13), none, []⟩,
 ⟨(some 15), .fad 4 (.t 3), none, []⟩,
 ⟨(some 16), .ld1 (.t 15), none, []⟩,
 ⟨(some 17), .fad 5 (.t 3), none, []⟩,
 ⟨(some 18), .ld1 (.t 17), none, []⟩,
 ⟨(some 19), .fad 6 (.t 3), none, []⟩,
 ⟨(some 20), .ld1 (.t 19), none, []⟩,
 ⟨(some 21), .build [(.val (.int .i64 0)), (.val (.int .i64 0)), (.val (.int .i64 0)), (.val (.int .i64 0)), (.val (.int .i64 0)), (.val (.int .i64 0)), (.val (.int .i64 0)), (.val (.int .i64 0)), (.val (.int .i64 0)), (.val (.int .i64 0)), (.val (.int .i64 0)), (.val (.int .i64 0))] [(0, 1, (.t 10)), (1, 1, (.t 12)), (2, 1, (.t 14)), (3, 1, (.t 16)), (4, 1, (.t 18)), (5, 1, (.t 20))], none, []⟩,
 ⟨(some 4), .new 52 [(.val (.int .i64 0)), (.val (.int .i64 0)), (.val (.int .i64 0)), (.val (.int .i64 0)), (.val (.int .i64 0)), (.val (.int .i64 0)), (.val (.int .i64 0)), (.val (.int .i64 0)), (.val (.int .i64 0)), (.val (.int .i64 0)), (.val (.int .i64 0)), (.val (.int .i64 0))], none, []⟩,
 ⟨none, .st 12 (.t 4) (.t 21), none, []⟩])
 (.seq (.block 0 (.seq (.regD [⟨(some 23), .mv (.t 0), none, []⟩,
 ⟨(some 24), .nck (.t 23), none, [0]⟩,
 ⟨(some 25), .fad 0 (.t 24), none, [1, 0]⟩,
 ⟨(some 26), .ldn 9 (.t 25), none, [2, 1, 0]⟩,
 ⟨(some 27), .ldn 12 (.t 4), none, []⟩,
 ⟨(some 28), .call (.f 65) [(.t 26), (.t 27)], none, [3, 2, 1, 0, 4]⟩,
 ⟨(some 29), .not (.t 28), none, [5, 3, 2, 1, 0, 4]⟩,
 ⟨(some 22), .mv (.t 29), none, [6, 5, 3, 2, 1, 0, 4]⟩])
 (.cond (.t 22) (.seq (.reg [⟨(some 2), .mv (.c (.val (.int .i64 1))), none, []⟩])
 .ret)
 (.seq (.reg [⟨(some 31), .mv (.t 0), none, []⟩,
 ⟨(some 32), .nck (.t 31), none, []⟩,
 ⟨(some 33), .fad 9 (.t 32), none, []⟩,
 ⟨(some 34), .fad 1 (.t 33), none, []⟩,
 ⟨(some 35), .ld1 (.t 34), none, []⟩,
 ⟨(some 36), .len (.t 35), none, []⟩,
 ⟨(some 37), .bin .geq (.t 36) (.c (.val (.int .i64 24))), none, []⟩,
 ⟨(some 30), .mv (.t 37), none, []⟩])
 (.cond (.t 30) (.seq (.reg [⟨(some 2), .mv (.c (.val (.int .i64 3))), none, []⟩])
 .ret)
 .skip)))))
 (.seq (.regD [⟨(some 38), .mv (.t 0), none, []⟩,
 ⟨(some 39), .mv (.t 0), none, []⟩,
 ⟨(some 40), .nck (.t 39), none, [1]⟩,
 ⟨(some 41), .fad 9 (.t 40), none, [2, 1]⟩,
 ⟨(some 42), .fad 1 (.t 41), none, [3, 2, 1]⟩,
 ⟨(some 43), .ld1 (.t 42), none, [4, 3, 2, 1]⟩,
 ⟨(some 44), .ldn 12 (.t 4), none, []⟩,
 ⟨(some 45), .bsl 52 12 [(.t 44)], none, [6]⟩,
 ⟨(some 46), .app 52 12 96 (.t 43) (.t 45), none, [5, 4, 3, 2, 1, 7, 6]⟩,
 ⟨(some 47), .nck (.t 38), none, [0, 1, 2, 3, 4, 5, 6, 7, 8]⟩,
 ⟨(some 48), .fad 9 (.t 47), none, [9, 0, 1, 2, 3, 4, 5, 6, 7, 8]⟩,
 ⟨(some 49), .fad 1 (.t 48), none, [10, 9, 0, 1, 2, 3, 4, 5, 6, 7, 8]⟩,
 ⟨none, .st 1 (.t 49) (.t 46), none, [11, 10, 9, 0, 1, 2, 3, 4, 5, 6, 7, 8]⟩])
 (.seq (.reg [⟨(some 2), .mv (.c (.val (.int .i64 0))), none, []⟩])
 .ret)))))),
[(.t 2)])
theorem irOk71 : convFn Tryd.prog Tryd.f71 = some ir71 := by kernel_rfl


/-- the objects of a work: itself, the nodes, the jobs. -/
@[reducible] def workO (c : ConfD) (s : StateD) (o : OpD) (jp np : LV) : List LObj :=
  [.box 73 [.int c.nodes, .int c.queues, .int c.quota, .int c.wave, .int c.lease, .int c.retry, .int c.deadline, .int c.room, .int c.disk,
    .sl 1 s.nodes.length 5 0 s.nodes.length, .sl 2 s.jobs.length 12 0 s.jobs.length, .int s.goal, .int s.prior, .int s.mode, .int s.term,
    .int o.kind, .int o.a, .int o.b, .int o.c, .int o.d, .int o.e, .int o.f, jp, np],
   .dat 48 5 (s.nodes.map nodeR), .dat 52 12 (s.jobs.map jobR)]
@[reducible] def noP : LV := .d (.val (.pointer none))

theorem told_tri (ok : Bool) (e : Int) : Tri Tryd.prog G 111 [.bool ok, .int e] [] (.int (if ok = true then 0 else e)) [] := by
  refine tri_W0 Tryd.func111 (by decide) irOk111 (Nat.le_of_ble_eq_true rfl) rfl ?_
  simp only [ir111, go_sem, ↓reduceIte, zA, zB, zC, zD, zE, zF, reduceCtorEq, zG, zH, zI, zJ, zK, zL, zM, zN, zO, zP]
  cases ok <;> simp only [go_sem, ↓reduceIte, zA, zB, zC, zD, zE, zF, reduceCtorEq, zG, zH, zI, zJ, zK, zL, zM, zN, zO, zP, Bool.false_eq_true]

theorem turn_tri (c : ConfD) (s : StateD) (o : OpD) (ok : Bool) (to : Int) : Tri Tryd.prog G 104 [.ptr 0 0, .bool ok, .int to] (workO c s o noP noP) (.int (turnD s ok to).2) (workO c (turnD s ok to).1 o noP noP) := by
  refine tri_WP Tryd.func104 (by decide) irOk104 (Nat.le_of_ble_eq_true rfl) rfl rfl rfl ?_
  simp only [ir104, go_sem, ↓reduceIte, zA, zB, zC, zD, zE, zF, reduceCtorEq, zG, zH, zI, zJ, zK, zL, zM, zN, zO, zP]
  cases ok with
  | true =>
    simp only [go_sem, ↓reduceIte, zA, zB, zC, zD, zE, zF, reduceCtorEq, zG, zH, zI, zJ, zK, zL, zM, zN, zO, zP]
    refine W_calld (told_tri true 5) rfl rfl rfl rfl ?_; simp only [go_sem, ↓reduceIte, zA, zB, zC, zD, zE, zF, reduceCtorEq, zG, zH, zI, zJ, zK, zL, zM, zN, zO, zP]
    simp only [turnD, go_sem, ↓reduceIte, zA, zB, zC, zD, zE, zF, reduceCtorEq, zG, zH, zI, zJ, zK, zL, zM, zN, zO, zP]
  | false =>
    simp only [go_sem, ↓reduceIte, zA, zB, zC, zD, zE, zF, reduceCtorEq, zG, zH, zI, zJ, zK, zL, zM, zN, zO, zP]
    refine W_calld (told_tri false 5) rfl rfl rfl rfl ?_; simp only [go_sem, ↓reduceIte, zA, zB, zC, zD, zE, zF, reduceCtorEq, zG, zH, zI, zJ, zK, zL, zM, zN, zO, zP]
    simp only [turnD, go_sem, ↓reduceIte, zA, zB, zC, zD, zE, zF, reduceCtorEq, zG, zH, zI, zJ, zK, zL, zM, zN, zO, zP, Bool.false_eq_true]
theorem pause_tri (c : ConfD) (s : StateD) (o : OpD) : Tri Tryd.prog G 74 [.ptr 0 0] (workO c s o noP noP) (.int (turnD s (s.mode == 0) 1).2) (workO c (turnD s (s.mode == 0) 1).1 o noP noP) := by
  refine tri_WP Tryd.func74 (by decide) irOk74 (Nat.le_of_ble_eq_true rfl) rfl rfl rfl ?_
  simp only [ir74, go_sem, ↓reduceIte, zA, zB, zC, zD, zE, zF, reduceCtorEq, zG, zH, zI, zJ, zK, zL, zM, zN, zO, zP]
  refine W_callo [0, 1, 2] (turn_tri c s o (s.mode == 0) 1) rfl (by simp only [argRs, argR, List.map_cons, List.map_nil, go_sem, ↓reduceIte, zA, zB, zC, zD, zE, zF, reduceCtorEq, zG, zH, zI, zJ, zK, zL, zM, zN, zO, zP, workO, List.length_range]) (by decide) (by simp only [go_sem, ↓reduceIte, zA, zB, zC, zD, zE, zF, reduceCtorEq, zG, zH, zI, zJ, zK, zL, zM, zN, zO, zP, workO, List.length_range]) (by simp only [go_sem, ↓reduceIte, zA, zB, zC, zD, zE, zF, reduceCtorEq, zG, zH, zI, zJ, zK, zL, zM, zN, zO, zP, List.all_cons, List.all_nil, workO, List.length_range]) (by simp) ?_; simp only [go_sem, ↓reduceIte, zA, zB, zC, zD, zE, zF, reduceCtorEq, zG, zH, zI, zJ, zK, zL, zM, zN, zO, zP, workO, List.length_range]
theorem resume_tri (c : ConfD) (s : StateD) (o : OpD) : Tri Tryd.prog G 75 [.ptr 0 0] (workO c s o noP noP) (.int (turnD s (s.mode == 1) 0).2) (workO c (turnD s (s.mode == 1) 0).1 o noP noP) := by
  refine tri_WP Tryd.func75 (by decide) irOk75 (Nat.le_of_ble_eq_true rfl) rfl rfl rfl ?_
  simp only [ir75, go_sem, ↓reduceIte, zA, zB, zC, zD, zE, zF, reduceCtorEq, zG, zH, zI, zJ, zK, zL, zM, zN, zO, zP]
  refine W_callo [0, 1, 2] (turn_tri c s o (s.mode == 1) 0) rfl (by simp only [argRs, argR, List.map_cons, List.map_nil, go_sem, ↓reduceIte, zA, zB, zC, zD, zE, zF, reduceCtorEq, zG, zH, zI, zJ, zK, zL, zM, zN, zO, zP, workO]) (by decide) (by simp only [go_sem, ↓reduceIte, zA, zB, zC, zD, zE, zF, reduceCtorEq, zG, zH, zI, zJ, zK, zL, zM, zN, zO, zP, workO]) (by simp only [go_sem, ↓reduceIte, zA, zB, zC, zD, zE, zF, reduceCtorEq, zG, zH, zI, zJ, zK, zL, zM, zN, zO, zP, List.all_cons, List.all_nil, workO]) (by simp) ?_; simp only [go_sem, ↓reduceIte, zA, zB, zC, zD, zE, zF, reduceCtorEq, zG, zH, zI, zJ, zK, zL, zM, zN, zO, zP, workO]
theorem abort_tri (c : ConfD) (s : StateD) (o : OpD) : Tri Tryd.prog G 76 [.ptr 0 0] (workO c s o noP noP) (.int (turnD s (s.mode != 2) 2).2) (workO c (turnD s (s.mode != 2) 2).1 o noP noP) := by
  refine tri_WP Tryd.func76 (by decide) irOk76 (Nat.le_of_ble_eq_true rfl) rfl rfl rfl ?_
  simp only [ir76, go_sem, ↓reduceIte, zA, zB, zC, zD, zE, zF, reduceCtorEq, zG, zH, zI, zJ, zK, zL, zM, zN, zO, zP]
  refine W_callo [0, 1, 2] (turn_tri c s o (s.mode != 2) 2) rfl (by simp only [argRs, argR, List.map_cons, List.map_nil, go_sem, ↓reduceIte, zA, zB, zC, zD, zE, zF, reduceCtorEq, zG, zH, zI, zJ, zK, zL, zM, zN, zO, zP, workO]) (by decide) (by simp only [go_sem, ↓reduceIte, zA, zB, zC, zD, zE, zF, reduceCtorEq, zG, zH, zI, zJ, zK, zL, zM, zN, zO, zP, workO]) (by simp only [go_sem, ↓reduceIte, zA, zB, zC, zD, zE, zF, reduceCtorEq, zG, zH, zI, zJ, zK, zL, zM, zN, zO, zP, List.all_cons, List.all_nil, workO]) (by simp) ?_; simp only [go_sem, ↓reduceIte, zA, zB, zC, zD, zE, zF, reduceCtorEq, zG, zH, zI, zJ, zK, zL, zM, zN, zO, zP, workO]
theorem newterm_tri (c : ConfD) (s : StateD) (o : OpD) (ht : s.term ≤ 1000000) (h0 : 0 ≤ s.term) : Tri Tryd.prog G 91 [.ptr 0 0] (workO c s o noP noP) (.int (newtermD s).2) (workO c (newtermD s).1 o noP noP) := by
  refine tri_WP Tryd.func91 (by decide) irOk91 (Nat.le_of_ble_eq_true rfl) rfl rfl rfl ?_
  simp only [ir91, go_sem, ↓reduceIte, zA, zB, zC, zD, zE, zF, reduceCtorEq, zG, zH, zI, zJ, zK, zL, zM, zN, zO, zP]
  have hw : IntKind.i64.wrap (s.term + 1) = s.term + 1 := wrap_in (by omega) (by omega)
  refine WC_split (fun h => ?_) (fun h => ?_) <;> simp only [h, go_sem, ↓reduceIte, zA, zB, zC, zD, zE, zF, reduceCtorEq, zG, zH, zI, zJ, zK, zL, zM, zN, zO, zP] <;> (try simp only [beq_iff_eq, beq_eq_false_iff_ne, bne_iff_ne, ne_eq, decide_eq_true_eq, decide_eq_false_iff_not, Bool.not_true, Bool.not_false, Bool.not_eq_true, Bool.not_eq_false, bne_eq_false_iff_eq, Decidable.not_not] at h)
  · simp only [newtermD, h, ge_iff_le, go_sem, ↓reduceIte, zA, zB, zC, zD, zE, zF, reduceCtorEq, zG, zH, zI, zJ, zK, zL, zM, zN, zO, zP]
  · simp only [newtermD, h, ge_iff_le, hw, go_sem, ↓reduceIte, zA, zB, zC, zD, zE, zF, reduceCtorEq, zG, zH, zI, zJ, zK, zL, zM, zN, zO, zP]
theorem target_tri (c : ConfD) (s : StateD) (o : OpD) (hn : s.nodes.length ≤ 1000) (hj : s.jobs.length ≤ 1000) : Tri Tryd.prog G 73 [.ptr 0 0] (workO c s o noP noP) (.int (targetD s o).2) (workO c (targetD s o).1 o noP noP) := by
  refine tri_WP Tryd.func73 (by decide) irOk73 (Nat.le_of_ble_eq_true rfl) rfl rfl rfl ?_
  simp only [ir73, go_sem, ↓reduceIte, zA, zB, zC, zD, zE, zF, reduceCtorEq, zG, zH, zI, zJ, zK, zL, zM, zN, zO, zP]
  refine W_calld (within_tri _ _ _) rfl rfl rfl rfl ?_; simp only [go_sem, ↓reduceIte, zA, zB, zC, zD, zE, zF, reduceCtorEq, zG, zH, zI, zJ, zK, zL, zM, zN, zO, zP]
  cases h : withinB o.a 1 9 with
  | false => simp only [targetD, h, go_sem, ↓reduceIte, zA, zB, zC, zD, zE, zF, reduceCtorEq, zG, zH, zI, zJ, zK, zL, zM, zN, zO, zP]
  | true =>
    simp only [go_sem, ↓reduceIte, zA, zB, zC, zD, zE, zF, reduceCtorEq, zG, zH, zI, zJ, zK, zL, zM, zN, zO, zP]
    refine WD_callz [1, 2] (meant_tri s) rfl (by simp [argRs, argR, rowsAt, objL, List.take_of_length_le, go_sem, ↓reduceIte, zA, zB, zC, zD, zE, zF, reduceCtorEq, zG, zH, zI, zJ, zK, zL, zM, zN, zO, zP]) (by simp [objL]) rfl rfl ?_; simp only [go_sem, ↓reduceIte, zA, zB, zC, zD, zE, zF, reduceCtorEq, zG, zH, zI, zJ, zK, zL, zM, zN, zO, zP]
    refine W_opsD_end rfl ?_
    simp only [targetD, h, go_sem, ↓reduceIte, zA, zB, zC, zD, zE, zF, reduceCtorEq, zG, zH, zI, zJ, zK, zL, zM, zN, zO, zP, Bool.true_eq_false]
theorem submit_tri (c : ConfD) (s : StateD) (o : OpD) (h0 : 1 ≤ c.queues ∧ c.queues ≤ 1000) (hj : s.jobs.length ≤ 1000) : Tri Tryd.prog G 71 [.ptr 0 0] (workO c s o noP noP) (.int (submitD c s o).2) (workO c (submitD c s o).1 o noP noP) := by
  refine tri_WP Tryd.func71 (by decide) irOk71 (Nat.le_of_ble_eq_true rfl) rfl rfl rfl ?_
  simp only [ir71, go_sem, ↓reduceIte, zA, zB, zC, zD, zE, zF, reduceCtorEq, zG, zH, zI, zJ, zK, zL, zM, zN, zO, zP]
  refine WD_calld (asked_tri c (newJob o) h0) rfl rfl rfl rfl ?_; simp only [go_sem, ↓reduceIte, zA, zB, zC, zD, zE, zF, reduceCtorEq, zG, zH, zI, zJ, zK, zL, zM, zN, zO, zP]
  cases ha : askedB c (newJob o) with
  | false => simp only [submitD, ha, go_sem, ↓reduceIte, zA, zB, zC, zD, zE, zF, reduceCtorEq, zG, zH, zI, zJ, zK, zL, zM, zN, zO, zP]
  | true =>
    simp only [go_sem, ↓reduceIte, zA, zB, zC, zD, zE, zF, reduceCtorEq, zG, zH, zI, zJ, zK, zL, zM, zN, zO, zP]
    have hl : (s.jobs.length + 1) * 96 ≤ 70368744177664 := by omega
    refine WC_split (fun h => ?_) (fun h => ?_) <;> simp only [h, go_sem, ↓reduceIte, zA, zB, zC, zD, zE, zF, reduceCtorEq, zG, zH, zI, zJ, zK, zL, zM, zN, zO, zP] <;> (try simp only [beq_iff_eq, beq_eq_false_iff_ne, bne_iff_ne, ne_eq, decide_eq_true_eq, decide_eq_false_iff_not, Bool.not_true, Bool.not_false, Bool.not_eq_true, Bool.not_eq_false, bne_eq_false_iff_eq, Decidable.not_not] at h)
    · simp only [submitD, ha, h, ge_iff_le, go_sem, ↓reduceIte, zA, zB, zC, zD, zE, zF, reduceCtorEq, zG, zH, zI, zJ, zK, zL, zM, zN, zO, zP, Bool.true_eq_false, show 24 ≤ s.jobs.length by omega]
    · have hh : ¬ 24 ≤ s.jobs.length := by omega
      simp only [List.length_append, hl, go_sem, ↓reduceIte, zA, zB, zC, zD, zE, zF, reduceCtorEq, zG, zH, zI, zJ, zK, zL, zM, zN, zO, zP]
      refine W_opsD_end rfl ?_
      simp only [submitD, ha, hh, List.map_append, List.length_append, go_sem, ↓reduceIte, zA, zB, zC, zD, zE, zF, reduceCtorEq, zG, zH, zI, zJ, zK, zL, zM, zN, zO, zP, Bool.true_eq_false]
      simp only [newJob, go_sem, ↓reduceIte, zA, zB, zC, zD, zE, zF, reduceCtorEq, zG, zH, zI, zJ, zK, zL, zM, zN, zO, zP]

def releaseS (c : ConfD) (s : StateD) (o : OpD) (jp np : LV) (number phase : Int) (k : Nat) : St := ⟨[(0, .ptr 0 0), (1, .int number), (2, .int phase), (6, .rp 2 s.jobs.length 12 (number - 1).toNat 0), (21, .int s.nodes.length), (22, .int k)],
  [some (.box 73 [.int c.nodes, .int c.queues, .int c.quota, .int c.wave, .int c.lease, .int c.retry, .int c.deadline, .int c.room, .int c.disk,
    .sl 1 s.nodes.length 5 0 s.nodes.length, .sl 2 s.jobs.length 12 0 s.jobs.length, .int s.goal, .int s.prior, .int s.mode, .int s.term,
    .int o.kind, .int o.a, .int o.b, .int o.c, .int o.d, .int o.e, .int o.f, jp, np]),
   some (.dat 48 5 ((updTo (lets number) s.nodes k).map nodeR)), some (.dat 52 12 (s.jobs.map jobR))]⟩
theorem release_tri (c : ConfD) (s : StateD) (o : OpD) (jp np : LV) (number phase : Int) (hjp : idl 3 jp = true) (hnp : idl 3 np = true) (h1 : 1 ≤ number) (h2 : number ≤ s.jobs.length) (hn : s.nodes.length ≤ 1000) (hj : s.jobs.length ≤ 1000) :
    Tri Tryd.prog G 103 [.ptr 0 0, .int number, .int phase] (workO c s o jp np) (.tup []) (workO c (releaseD s number phase) o jp np) := by
  refine tri_WP Tryd.func103 (by decide) irOk103 (Nat.le_of_ble_eq_true rfl) rfl (by simp [idlO, idl, idlL, hjp, hnp, LV.int]) rfl ?_
  have hw : IntKind.i64.wrap (number - 1) = number - 1 := wrap_in (by omega) (by omega)
  have h3 : 0 ≤ number - 1 := by omega
  have h4 : (number - 1).toNat < s.jobs.length := by omega
  simp only [ir103, hw, h3, h4, go_sem, ↓reduceIte, zA, zB, zC, zD, zE, zF, reduceCtorEq, zG, zH, zI, zJ, zK, zL, zM, zN, zO, zP]
  refine W_loopI [0, 1, 2, 6, 21, 22] [] (fun k : Nat => k ≤ s.nodes.length) (fun k => s.nodes.length - k) (releaseS c s o jp np number phase) 0 ?_ (Nat.zero_le _) (fun k hk => ?_)
  · simp only [releaseS, go_sem, ↓reduceIte, zA, zB, zC, zD, zE, zF, reduceCtorEq, zG, zH, zI, zJ, zK, zL, zM, zN, zO, zP, updTo_zero, Int.natCast_zero]
  simp only [releaseS, go_sem, ↓reduceIte, zA, zB, zC, zD, zE, zF, reduceCtorEq, zG, zH, zI, zJ, zK, zL, zM, zN, zO, zP]
  refine WC_split (fun h => ?_) (fun h => ?_)
  · have h := lt_of_dec h
    have hg : ((updTo (lets number) s.nodes k).map nodeR)[k]? = some (nodeR s.nodes[k]) := by rw [List.getElem?_map, updTo_at _ _ h]; rfl
    simp only [h, hg, updTo_length, go_sem, ↓reduceIte, zA, zB, zC, zD, zE, zF, reduceCtorEq, zG, zH, zI, zJ, zK, zL, zM, zN, zO, zP]
    refine WC_split (fun hq => ?_) (fun hq => ?_) <;> simp only [hq, go_sem, ↓reduceIte, zA, zB, zC, zD, zE, zF, reduceCtorEq, zG, zH, zI, zJ, zK, zL, zM, zN, zO, zP] <;> (try simp only [beq_iff_eq, beq_eq_false_iff_ne, bne_iff_ne, ne_eq, decide_eq_true_eq, decide_eq_false_iff_not, Bool.not_true, Bool.not_false, Bool.not_eq_true, Bool.not_eq_false, bne_eq_false_iff_eq, Decidable.not_not] at hq)
    · have hs : ((updTo (lets number) s.nodes k).map nodeR).set k (nodeR { s.nodes[k] with job := 0 }) = (updTo (lets number) s.nodes (k + 1)).map nodeR := by
        rw [← List.map_set, updTo_set _ _ h (by simp only [lets, hq, if_true])]
      simp only [nodeR] at hs
      simp only [h, hg, updTo_length, go_sem, ↓reduceIte, zA, zB, zC, zD, zE, zF, reduceCtorEq, zG, zH, zI, zJ, zK, zL, zM, zN, zO, zP]
      refine W_lpI (k + 1) ?_ ?_ (by omega) (by omega)
      · simp only [go_sem, ↓reduceIte, zA, zB, zC, zD, zE, zF, reduceCtorEq, zG, zH, zI, zJ, zK, zL, zM, zN, zO, zP, hjp, hnp]
      · simp only [releaseS, go_sem, ↓reduceIte, zA, zB, zC, zD, zE, zF, reduceCtorEq, zG, zH, zI, zJ, zK, zL, zM, zN, zO, zP, wrap_succ (show k < 9223372036854775807 by omega), hs]
    · have hs := updTo_same (lets number) s.nodes h (by simp only [lets, hq, if_false])
      refine W_lpI (k + 1) ?_ ?_ (by omega) (by omega)
      · simp only [go_sem, ↓reduceIte, zA, zB, zC, zD, zE, zF, reduceCtorEq, zG, zH, zI, zJ, zK, zL, zM, zN, zO, zP, hjp, hnp]
      · simp only [releaseS, go_sem, ↓reduceIte, zA, zB, zC, zD, zE, zF, reduceCtorEq, zG, zH, zI, zJ, zK, zL, zM, zN, zO, zP, wrap_succ (show k < 9223372036854775807 by omega), hs]
  · obtain rfl := eq_of_dec h hk
    have hg2 := get_mapD (f := jobR) zeroJob h4
    simp only [hg2, updTo_full, go_sem, ↓reduceIte, zA, zB, zC, zD, zE, zF, reduceCtorEq, zG, zH, zI, zJ, zK, zL, zM, zN, zO, zP]
    simp only [List.getElem?_set_self, List.length_map, h4, List.set_set, List.length_set, go_sem, ↓reduceIte, zA, zB, zC, zD, zE, zF, reduceCtorEq, zG, zH, zI, zJ, zK, zL, zM, zN, zO, zP]
    simp only [releaseD, jobA, List.map_set, List.length_set, List.length_mapIdx, go_sem, ↓reduceIte, zA, zB, zC, zD, zE, zF, reduceCtorEq, zG, zH, zI, zJ, zK, zL, zM, zN, zO, zP]
end Dv
