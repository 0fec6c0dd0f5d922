/- The logical machine and its plain laws: parts T2, T3, proved sound. -/
import Derived.Test.YtcanhhnmfkdclaaQA
import Derived.Test.YtcanhhnmfkdclaaD15
import Derived.Test.YtcanhhnmfkdclaaD4
set_option linter.unusedVariables false
set_option linter.unusedSimpArgs false
namespace Dv
open Go Go.Proofs
open Nat renaming reduceEqDiff → zA, reduceAdd → zB, reduceSub → zC, reduceMul → zD, reduceLT → zE, reduceLeDiff → zF
open Int renaming reduceLE → zG, reduceLT → zH, reduceToNat → zI, reduceBEq → zJ, reduceBNe → zK, reduceEq → zL, reduceAdd → zM, reduceSub → zN, reduceMul → zO, reduceNeg → zP
attribute [local go_sem] argEnv W_nil W_seq W_skip W_ret W_exit W_scope W_block W_blk W_reg W_regD W_cond WC_t WC_f WC_any Wx_c Wx_ops Wx_lp Wx_blk W_ops_nil W_opsD_q W_guard W_guardD WG_tt WG_ff WG_tf WG_ft WG_u WGD_tt WGD_ff WGD_tf WGD_ft WGD_u WE_some WED_some W_more W_mv W_pick W_new W_box W_build W_bsl W_ld1 W_ldn W_st W_nck W_bin W_eqb W_not W_cvt W_fad W_fld1 W_fldn W_ixa W_ixr W_ix1 W_ixs W_len W_lens W_mkf W_ext W_app W_min W_max W_isnp W_isns W_eqs W_neg W_ixn W_sli W_sls WD_more WD_mv WD_pick WD_new WD_box WD_build WD_bsl WD_ld1 WD_ldn WD_st WD_nck WD_bin WD_eqb WD_not WD_cvt WD_fad WD_fld1 WD_fldn WD_ixa WD_ixr WD_ix1 WD_ixs WD_len WD_lens WD_mkf WD_ext WD_app WD_min WD_max WD_isnp WD_isns WD_eqs WD_neg WD_ixn WD_sli WD_sls effF effM bytesOf Opd.ev getE putE binV LV.int LV.bool LV.undef Go.undef LV.cells LV.toD LV.toDs splice fillL rowsOf boxOf srcRows updL objL Eff.owned nwp St.get St.obj St.put Value.oneCell' Ends adopt Ad.ap isNil St.keep St.okKeep okObj idl idlL idlO RVs.of RV.of oneOr Ends0 EndsO_iff frzs rn rnL rnO piOf eqCells eqV boundV Option.map_some Option.map_none List.append_nil List.nil_append List.cons_append List.map_nil List.map_cons List.length_nil List.length_cons List.set_cons_zero List.set_cons_succ List.take_succ_cons List.take_zero List.take_nil List.drop_succ_cons List.drop_zero List.drop_nil List.getElem?_cons_zero List.getElem?_cons_succ List.getElem?_nil List.isEmpty_nil List.isEmpty_cons List.all_cons List.all_nil List.isEmpty_nil cond_true cond_false Bool.true_and Bool.false_and Bool.and_true Bool.and_false Bool.not_true Bool.not_false Bool.or_true Bool.true_or Bool.or_false Bool.false_or true_and and_true true_or or_true Option.some.injEq LV.d.injEq DV.val.injEq Value.bool.injEq Value.int.injEq decide_true decide_false and_self Nat.zero_add Nat.add_zero if_true if_false Int.toNat_zero beq_self_eq_true Nat.zero_lt_succ Int.toNat_natCast Int.natCast_nonneg List.length_map i64 bl List.zip_cons_cons List.zip_nil_left List.zip_nil_right nwp confV stateV nodeV jobV nodesV jobsV opV msgV nodeR jobR opR msgR zeroOp zeroMsg msgsV
variable {G : Nat → Option (List DV)}

/-- fit.Open -/
def ir22 : Nat × C × List RV := (22,
(.seq (.reg [⟨(some 1), .box 27 (.t 0), none, []⟩,
 ⟨(some 2), .mv (.c (.val (.int .i64 0))), none, []⟩])
 (.seq (.reg [⟨(some 3), .mv (.c (.val (.int .i64 0))), none, []⟩])
 (.seq (.seq (.reg [⟨(some 6), .fad 0 (.t 1), none, []⟩,
 ⟨(some 7), .ld1 (.t 6), none, []⟩,
 ⟨(some 8), .len (.t 7), none, []⟩,
 ⟨(some 9), .mv (.c (.val (.int .i64 0))), none, []⟩])
 (.block 0 (.loop (.seq (.reg [⟨(some 10), .bin .lss (.t 9) (.t 8), none, []⟩])
 (.seq (.cond (.t 10) .skip
 (.exit 0))
 (.seq (.block 1 (.seq (.reg [⟨(some 11), .mv (.t 9), none, []⟩,
 ⟨(some 12), .ixa 5 (.t 7) (.t 9), none, []⟩,
 ⟨(some 13), .ldn 5 (.t 12), none, []⟩,
 ⟨(some 5), .new 37 [(.val (.bool false)), (.val (.bool false)), (.val (.bool false)), (.val (.int .i64 0)), (.val (.int .i64 0))], none, []⟩,
 ⟨(some 4), .mv (.t 11), none, []⟩,
 ⟨none, .st 5 (.t 5) (.t 13), none, []⟩])
 (.seq (.reg [⟨(some 14), .ldn 5 (.t 5), none, []⟩,
 ⟨(some 15), .call (.f 42) [(.t 14)], none, []⟩])
 (.cond (.t 15) (.reg [⟨(some 16), .mv (.t 3), none, []⟩,
 ⟨(some 17), .mv (.t 4), none, []⟩,
 ⟨(some 18), .bin .shl (.c (.val (.int .i64 1))) (.t 17), none, []⟩,
 ⟨(some 19), .bin .or (.t 16) (.t 18), none, []⟩,
 ⟨(some 3), .mv (.t 19), none, []⟩])
 .skip))))
 (.reg [⟨(some 20), .bin .add (.t 9) (.c (.val (.int .i64 1))), none, []⟩,
 ⟨(some 9), .mv (.t 20), none, []⟩])))))))
 (.seq (.reg [⟨(some 21), .mv (.t 3), none, []⟩,
 ⟨(some 2), .mv (.t 21), none, []⟩])
 .ret)))),
[(.t 2)])
theorem irOk22 : convFn Try.prog Try.f22 = some ir22 := by kernel_rfl
/-- fit.ready -/
def ir57 : Nat × C × List RV := (49,
(.seq (.reg [⟨(some 3), .box 27 (.t 0), none, []⟩,
 ⟨(some 6), .mv (.c (.val (.int .i64 0))), none, []⟩])
 (.seq (.reg [⟨(some 7), .mv (.c (.val (.int .i64 0))), none, []⟩])
 (.seq (.seq (.reg [⟨(some 10), .fad 0 (.t 3), none, []⟩,
 ⟨(some 11), .ld1 (.t 10), none, []⟩,
 ⟨(some 12), .len (.t 11), none, []⟩,
 ⟨(some 13), .mv (.c (.val (.int .i64 0))), none, []⟩])
 (.block 0 (.loop (.seq (.reg [⟨(some 14), .bin .lss (.t 13) (.t 12), none, []⟩])
 (.seq (.cond (.t 14) .skip
 (.exit 0))
 (.seq (.block 1 (.seq (.reg [⟨(some 15), .mv (.t 13), none, []⟩,
 ⟨(some 16), .ixa 5 (.t 11) (.t 13), none, []⟩,
 ⟨(some 17), .ldn 5 (.t 16), none, []⟩,
 ⟨(some 9), .new 37 [(.val (.bool false)), (.val (.bool false)), (.val (.bool false)), (.val (.int .i64 0)), (.val (.int .i64 0))], none, []⟩,
 ⟨(some 8), .mv (.t 15), none, []⟩,
 ⟨none, .st 5 (.t 9) (.t 17), none, []⟩])
 (.seq (.reg [⟨(some 18), .mv (.t 1), none, []⟩,
 ⟨(some 19), .mv (.t 8), none, []⟩,
 ⟨(some 20), .bin .shr (.t 18) (.t 19), none, []⟩,
 ⟨(some 21), .bin .and (.t 20) (.c (.val (.int .i64 1))), none, []⟩,
 ⟨(some 22), .bin .eql (.t 21) (.c (.val (.int .i64 1))), none, []⟩,
 ⟨(some 23), .mv (.t 22), none, []⟩,
 ⟨(some 24), .fad 0 (.t 9), (some (23, true)), []⟩,
 ⟨(some 25), .ld1 (.t 24), (some (23, true)), []⟩,
 ⟨(some 26), .pick (.t 23) (.t 25) (.c (.val (.bool false))), none, []⟩,
 ⟨(some 27), .mv (.t 26), none, []⟩,
 ⟨(some 28), .fad 1 (.t 9), (some (27, true)), []⟩,
 ⟨(some 29), .ld1 (.t 28), (some (27, true)), []⟩,
 ⟨(some 30), .not (.t 29), (some (27, true)), []⟩,
 ⟨(some 31), .pick (.t 27) (.t 30) (.c (.val (.bool false))), none, []⟩,
 ⟨(some 32), .mv (.t 31), none, []⟩,
 ⟨(some 33), .fad 2 (.t 9), (some (32, true)), []⟩,
 ⟨(some 34), .ld1 (.t 33), (some (32, true)), []⟩,
 ⟨(some 35), .not (.t 34), (some (32, true)), []⟩,
 ⟨(some 36), .pick (.t 32) (.t 35) (.c (.val (.bool false))), none, []⟩,
 ⟨(some 37), .mv (.t 36), none, []⟩,
 ⟨(some 38), .fad 3 (.t 9), (some (37, true)), []⟩,
 ⟨(some 39), .ld1 (.t 38), (some (37, true)), []⟩,
 ⟨(some 40), .mv (.t 2), (some (37, true)), []⟩,
 ⟨(some 41), .bin .eql (.t 39) (.t 40), (some (37, true)), []⟩,
 ⟨(some 42), .pick (.t 37) (.t 41) (.c (.val (.bool false))), none, []⟩])
 (.cond (.t 42) (.reg [⟨(some 43), .mv (.t 7), none, []⟩,
 ⟨(some 44), .mv (.t 8), none, []⟩,
 ⟨(some 45), .bin .shl (.c (.val (.int .i64 1))) (.t 44), none, []⟩,
 ⟨(some 46), .bin .or (.t 43) (.t 45), none, []⟩,
 ⟨(some 7), .mv (.t 46), none, []⟩])
 .skip))))
 (.reg [⟨(some 47), .bin .add (.t 13) (.c (.val (.int .i64 1))), none, []⟩,
 ⟨(some 13), .mv (.t 47), none, []⟩])))))))
 (.seq (.reg [⟨(some 48), .mv (.t 7), none, []⟩,
 ⟨(some 6), .mv (.t 48), none, []⟩])
 .ret)))),
[(.t 6)])
theorem irOk57 : convFn Try.prog Try.f57 = some ir57 := by kernel_rfl
/-- fit.lowest -/
def ir41 : Nat × C × List RV := (26,
(.seq (.reg [⟨(some 4), .mv (.c (.val (.int .i64 0))), none, []⟩])
 (.seq (.reg [⟨(some 5), .mv (.c (.val (.int .i64 0))), none, []⟩])
 (.seq (.block 0 (.loop (.seq (.seq (.reg [⟨(some 7), .mv (.t 0), none, []⟩,
 ⟨(some 8), .bin .neq (.t 7) (.c (.val (.int .i64 0))), none, []⟩,
 ⟨(some 9), .mv (.t 8), none, []⟩,
 ⟨(some 10), .mv (.t 1), (some (9, true)), []⟩,
 ⟨(some 11), .bin .gtr (.t 10) (.c (.val (.int .i64 0))), (some (9, true)), []⟩,
 ⟨(some 12), .pick (.t 9) (.t 11) (.c (.val (.bool false))), none, []⟩])
 (.cond (.t 12) .skip
 (.exit 0)))
 (.seq (.block 1 (.seq (.reg [⟨(some 15), .mv (.t 0), none, []⟩,
 ⟨(some 16), .mv (.t 0), none, []⟩,
 ⟨(some 17), .neg (.t 16), none, []⟩,
 ⟨(some 18), .bin .and (.t 15) (.t 17), none, []⟩,
 ⟨(some 6), .mv (.t 18), none, []⟩])
 (.seq (.reg [⟨(some 19), .mv (.t 5), none, []⟩,
 ⟨(some 20), .mv (.t 6), none, []⟩,
 ⟨(some 21), .bin .or (.t 19) (.t 20), none, []⟩,
 ⟨(some 5), .mv (.t 21), none, []⟩])
 (.reg [⟨(some 22), .mv (.t 0), none, []⟩,
 ⟨(some 23), .mv (.t 6), none, []⟩,
 ⟨(some 24), .bin .andNot (.t 22) (.t 23), none, []⟩,
 ⟨(some 0), .mv (.t 24), none, []⟩]))))
 (.reg [⟨(some 13), .mv (.t 1), none, []⟩,
 ⟨(some 14), .bin .sub (.t 13) (.c (.val (.int .i64 1))), none, []⟩,
 ⟨(some 1), .mv (.t 14), none, []⟩])))))
 (.seq (.reg [⟨(some 25), .mv (.t 5), none, []⟩,
 ⟨(some 4), .mv (.t 25), none, []⟩])
 .ret)))),
[(.t 4)])
theorem irOk41 : convFn Try.prog Try.f41 = some ir41 := by kernel_rfl
/-- dunnageref15.Open -/
def ir49 : Nat × C × List RV := (25,
(.seq (.reg [⟨(some 1), .box 27 (.t 0), none, []⟩,
 ⟨(some 2), .mv (.c (.val (.int .i64 0))), none, []⟩])
 (.seq (.reg [⟨(some 3), .mv (.c (.val (.int .i64 0))), none, []⟩,
 ⟨(some 4), .mv (.c (.val (.int .i64 1))), none, []⟩])
 (.seq (.seq (.reg [⟨(some 5), .mv (.c (.val (.int .i64 0))), none, []⟩])
 (.block 0 (.loop (.seq (.seq (.reg [⟨(some 6), .mv (.t 5), none, []⟩,
 ⟨(some 7), .fad 0 (.t 1), none, []⟩,
 ⟨(some 8), .ld1 (.t 7), none, []⟩,
 ⟨(some 9), .len (.t 8), none, []⟩,
 ⟨(some 10), .bin .lss (.t 6) (.t 9), none, []⟩])
 (.cond (.t 10) .skip
 (.exit 0)))
 (.seq (.block 1 (.seq (.seq (.reg [⟨(some 13), .fad 0 (.t 1), none, []⟩,
 ⟨(some 14), .ld1 (.t 13), none, []⟩,
 ⟨(some 15), .mv (.t 5), none, []⟩,
 ⟨(some 16), .ixa 5 (.t 14) (.t 15), none, []⟩,
 ⟨(some 17), .ldn 5 (.t 16), none, []⟩,
 ⟨(some 18), .call (.f 27) [(.t 17)], none, []⟩])
 (.cond (.t 18) (.reg [⟨(some 19), .mv (.t 3), none, []⟩,
 ⟨(some 20), .mv (.t 4), none, []⟩,
 ⟨(some 21), .bin .add (.t 19) (.t 20), none, []⟩,
 ⟨(some 3), .mv (.t 21), none, []⟩])
 .skip))
 (.reg [⟨(some 22), .mv (.t 4), none, []⟩,
 ⟨(some 23), .bin .mul (.t 22) (.c (.val (.int .i64 2))), none, []⟩,
 ⟨(some 4), .mv (.t 23), none, []⟩])))
 (.reg [⟨(some 11), .mv (.t 5), none, []⟩,
 ⟨(some 12), .bin .add (.t 11) (.c (.val (.int .i64 1))), none, []⟩,
 ⟨(some 5), .mv (.t 12), none, []⟩]))))))
 (.seq (.reg [⟨(some 24), .mv (.t 3), none, []⟩,
 ⟨(some 2), .mv (.t 24), none, []⟩])
 .ret)))),
[(.t 2)])
theorem irOk49 : convFn Try.prog Try.f49 = some ir49 := by kernel_rfl
/-- dunnageref15.Of -/
def ir47 : Nat × C × List RV := (52,
(.seq (.reg [⟨(some 3), .box 27 (.t 0), none, []⟩,
 ⟨(some 6), .mv (.c (.val (.int .i64 0))), none, []⟩])
 (.seq (.reg [⟨(some 7), .mv (.c (.val (.int .i64 0))), none, []⟩,
 ⟨(some 8), .mv (.c (.val (.int .i64 1))), none, []⟩])
 (.seq (.seq (.reg [⟨(some 9), .mv (.c (.val (.int .i64 0))), none, []⟩])
 (.block 0 (.loop (.seq (.seq (.reg [⟨(some 11), .mv (.t 9), none, []⟩,
 ⟨(some 12), .fad 0 (.t 3), none, []⟩,
 ⟨(some 13), .ld1 (.t 12), none, []⟩,
 ⟨(some 14), .len (.t 13), none, []⟩,
 ⟨(some 15), .bin .lss (.t 11) (.t 14), none, []⟩])
 (.cond (.t 15) .skip
 (.exit 0)))
 (.seq (.block 1 (.seq (.reg [⟨(some 18), .fad 0 (.t 3), none, []⟩,
 ⟨(some 19), .ld1 (.t 18), none, []⟩,
 ⟨(some 20), .mv (.t 9), none, []⟩,
 ⟨(some 21), .ixa 5 (.t 19) (.t 20), none, []⟩,
 ⟨(some 22), .ldn 5 (.t 21), none, []⟩,
 ⟨(some 10), .new 37 [(.val (.bool false)), (.val (.bool false)), (.val (.bool false)), (.val (.int .i64 0)), (.val (.int .i64 0))], none, []⟩,
 ⟨none, .st 5 (.t 10) (.t 22), none, []⟩])
 (.seq (.seq (.reg [⟨(some 23), .mv (.t 1), none, []⟩,
 ⟨(some 24), .mv (.t 9), none, []⟩,
 ⟨(some 25), .call (.f 28) [(.t 23), (.t 24)], none, []⟩,
 ⟨(some 26), .mv (.t 25), none, []⟩,
 ⟨(some 27), .fad 0 (.t 10), (some (26, true)), []⟩,
 ⟨(some 28), .ld1 (.t 27), (some (26, true)), []⟩,
 ⟨(some 29), .pick (.t 26) (.t 28) (.c (.val (.bool false))), none, []⟩,
 ⟨(some 30), .mv (.t 29), none, []⟩,
 ⟨(some 31), .fad 1 (.t 10), (some (30, true)), []⟩,
 ⟨(some 32), .ld1 (.t 31), (some (30, true)), []⟩,
 ⟨(some 33), .not (.t 32), (some (30, true)), []⟩,
 ⟨(some 34), .pick (.t 30) (.t 33) (.c (.val (.bool false))), none, []⟩,
 ⟨(some 35), .mv (.t 34), none, []⟩,
 ⟨(some 36), .fad 2 (.t 10), (some (35, true)), []⟩,
 ⟨(some 37), .ld1 (.t 36), (some (35, true)), []⟩,
 ⟨(some 38), .not (.t 37), (some (35, true)), []⟩,
 ⟨(some 39), .pick (.t 35) (.t 38) (.c (.val (.bool false))), none, []⟩,
 ⟨(some 40), .mv (.t 39), none, []⟩,
 ⟨(some 41), .fad 3 (.t 10), (some (40, true)), []⟩,
 ⟨(some 42), .ld1 (.t 41), (some (40, true)), []⟩,
 ⟨(some 43), .mv (.t 2), (some (40, true)), []⟩,
 ⟨(some 44), .bin .eql (.t 42) (.t 43), (some (40, true)), []⟩,
 ⟨(some 45), .pick (.t 40) (.t 44) (.c (.val (.bool false))), none, []⟩])
 (.cond (.t 45) (.reg [⟨(some 46), .mv (.t 7), none, []⟩,
 ⟨(some 47), .mv (.t 8), none, []⟩,
 ⟨(some 48), .bin .add (.t 46) (.t 47), none, []⟩,
 ⟨(some 7), .mv (.t 48), none, []⟩])
 .skip))
 (.reg [⟨(some 49), .mv (.t 8), none, []⟩,
 ⟨(some 50), .bin .mul (.t 49) (.c (.val (.int .i64 2))), none, []⟩,
 ⟨(some 8), .mv (.t 50), none, []⟩]))))
 (.reg [⟨(some 16), .mv (.t 9), none, []⟩,
 ⟨(some 17), .bin .add (.t 16) (.c (.val (.int .i64 1))), none, []⟩,
 ⟨(some 9), .mv (.t 17), none, []⟩]))))))
 (.seq (.reg [⟨(some 51), .mv (.t 7), none, []⟩,
 ⟨(some 6), .mv (.t 51), none, []⟩])
 .ret)))),
[(.t 6)])
theorem irOk47 : convFn Try.prog Try.f47 = some ir47 := by kernel_rfl
/-- dunnageref15.Pick -/
def ir29 : Nat × C × List RV := (88,
(.seq (.reg [⟨(some 3), .box 27 (.t 0), none, []⟩,
 ⟨(some 4), .box 39 (.t 1), none, []⟩,
 ⟨(some 6), .mv (.c (.val (.int .i64 0))), none, []⟩,
 ⟨(some 7), .mv (.c (.val (.bool false))), none, []⟩])
 (.seq (.reg [⟨(some 8), .mv (.c (.val (.int .i64 (-1)))), none, []⟩,
 ⟨(some 9), .mv (.c (.val (.int .i64 0))), none, []⟩])
 (.seq (.seq (.reg [⟨(some 10), .mv (.c (.val (.int .i64 1))), none, []⟩])
 (.block 0 (.loop (.seq (.seq (.reg [⟨(some 16), .mv (.t 10), none, []⟩,
 ⟨(some 17), .bin .leq (.t 16) (.c (.val (.int .i64 9))), none, []⟩])
 (.cond (.t 17) .skip
 (.exit 0)))
 (.seq (.block 1 (.seq (.reg [⟨(some 20), .ldn 6 (.t 3), none, []⟩,
 ⟨(some 21), .mv (.t 2), none, []⟩,
 ⟨(some 22), .mv (.t 10), none, []⟩,
 ⟨(some 23), .call (.f 47) [(.t 20), (.t 21), (.t 22)], none, []⟩,
 ⟨(some 24), .call (.f 46) [(.t 23)], none, []⟩,
 ⟨(some 11), .mv (.t 24), none, []⟩])
 (.seq (.seq (.reg [⟨(some 25), .mv (.t 11), none, []⟩,
 ⟨(some 26), .fad 2 (.t 4), none, []⟩,
 ⟨(some 27), .ld1 (.t 26), none, []⟩,
 ⟨(some 28), .bin .lss (.t 25) (.t 27), none, []⟩,
 ⟨(some 29), .mv (.t 28), none, []⟩,
 ⟨(some 30), .fad 5 (.t 4), (some (29, false)), []⟩,
 ⟨(some 31), .ld1 (.t 30), (some (29, false)), []⟩,
 ⟨(some 32), .bin .gtr (.t 31) (.c (.val (.int .i64 0))), (some (29, false)), []⟩,
 ⟨(some 33), .mv (.t 32), (some (29, false)), []⟩,
 ⟨(some 34), .fad 5 (.t 4), (some (33, true)), []⟩,
 ⟨(some 35), .ld1 (.t 34), (some (33, true)), []⟩,
 ⟨(some 36), .mv (.t 10), (some (33, true)), []⟩,
 ⟨(some 37), .bin .neq (.t 35) (.t 36), (some (33, true)), []⟩,
 ⟨(some 38), .pick (.t 33) (.t 37) (.c (.val (.bool false))), (some (29, false)), []⟩,
 ⟨(some 39), .pick (.t 29) (.c (.val (.bool true))) (.t 38), none, []⟩])
 (.cond (.t 39) (.exit 1)
 .skip))
 (.seq (.seq (.reg [⟨(some 40), .mv (.t 11), none, []⟩,
 ⟨(some 41), .fad 3 (.t 4), none, []⟩,
 ⟨(some 42), .ld1 (.t 41), none, []⟩,
 ⟨(some 43), .bin .gtr (.t 40) (.t 42), none, []⟩])
 (.cond (.t 43) (.reg [⟨(some 44), .fad 3 (.t 4), none, []⟩,
 ⟨(some 45), .ld1 (.t 44), none, []⟩,
 ⟨(some 11), .mv (.t 45), none, []⟩])
 .skip))
 (.seq (.reg [⟨(some 46), .mv (.t 11), none, []⟩,
 ⟨(some 47), .mv (.t 8), none, []⟩,
 ⟨(some 48), .bin .gtr (.t 46) (.t 47), none, []⟩,
 ⟨(some 49), .mv (.t 48), none, []⟩,
 ⟨(some 50), .mv (.t 11), (some (49, false)), []⟩,
 ⟨(some 51), .mv (.t 8), (some (49, false)), []⟩,
 ⟨(some 52), .bin .eql (.t 50) (.t 51), (some (49, false)), []⟩,
 ⟨(some 53), .mv (.t 52), (some (49, false)), []⟩,
 ⟨(some 54), .mv (.t 10), (some (53, true)), []⟩,
 ⟨(some 55), .ldn 6 (.t 3), (some (53, true)), []⟩,
 ⟨(some 56), .call (.f 48) [(.t 55)], (some (53, true)), []⟩,
 ⟨(some 57), .bin .eql (.t 54) (.t 56), (some (53, true)), []⟩,
 ⟨(some 58), .pick (.t 53) (.t 57) (.c (.val (.bool false))), (some (49, false)), []⟩,
 ⟨(some 59), .pick (.t 49) (.c (.val (.bool true))) (.t 58), none, []⟩])
 (.cond (.t 59) (.seq (.reg [⟨(some 60), .mv (.t 11), none, []⟩,
 ⟨(some 8), .mv (.t 60), none, []⟩])
 (.reg [⟨(some 61), .mv (.t 10), none, []⟩,
 ⟨(some 9), .mv (.t 61), none, []⟩]))
 .skip))))))
 (.reg [⟨(some 18), .mv (.t 10), none, []⟩,
 ⟨(some 19), .bin .add (.t 18) (.c (.val (.int .i64 1))), none, []⟩,
 ⟨(some 10), .mv (.t 19), none, []⟩]))))))
 (.seq (.seq (.reg [⟨(some 62), .mv (.t 8), none, []⟩,
 ⟨(some 63), .bin .lss (.t 62) (.c (.val (.int .i64 0))), none, []⟩])
 (.cond (.t 63) (.seq (.reg [⟨(some 6), .mv (.c (.val (.int .i64 0))), none, []⟩,
 ⟨(some 7), .mv (.c (.val (.bool false))), none, []⟩])
 .ret)
 .skip))
 (.seq (.reg [⟨(some 64), .ldn 6 (.t 3), none, []⟩,
 ⟨(some 65), .mv (.t 2), none, []⟩,
 ⟨(some 66), .mv (.t 9), none, []⟩,
 ⟨(some 67), .call (.f 47) [(.t 64), (.t 65), (.t 66)], none, []⟩,
 ⟨(some 12), .mv (.t 67), none, []⟩])
 (.seq (.reg [⟨(some 13), .mv (.c (.val (.int .i64 0))), none, []⟩,
 ⟨(some 14), .mv (.c (.val (.int .i64 1))), none, []⟩])
 (.seq (.seq (.reg [⟨(some 15), .mv (.c (.val (.int .i64 0))), none, []⟩])
 (.block 2 (.loop (.seq (.seq (.reg [⟨(some 68), .mv (.t 15), none, []⟩,
 ⟨(some 69), .bin .lss (.t 68) (.c (.val (.int .i64 6))), none, []⟩])
 (.cond (.t 69) .skip
 (.exit 2)))
 (.seq (.block 3 (.seq (.seq (.regD [⟨(some 72), .mv (.t 12), none, []⟩,
 ⟨(some 73), .mv (.t 15), none, []⟩,
 ⟨(some 74), .call (.f 28) [(.t 72), (.t 73)], none, [0, 1]⟩,
 ⟨(some 75), .mv (.t 74), none, [2, 0, 1]⟩,
 ⟨(some 76), .mv (.t 13), (some (75, true)), [3, 2, 0, 1]⟩,
 ⟨(some 77), .call (.f 46) [(.t 76)], (some (75, true)), [4, 3, 2, 0, 1]⟩,
 ⟨(some 78), .fad 3 (.t 4), (some (75, true)), [3, 2, 0, 1]⟩,
 ⟨(some 79), .ld1 (.t 78), (some (75, true)), [6, 3, 2, 0, 1]⟩,
 ⟨(some 80), .bin .lss (.t 77) (.t 79), (some (75, true)), [5, 4, 3, 2, 0, 1, 7, 6]⟩,
 ⟨(some 81), .pick (.t 75) (.t 80) (.c (.val (.bool false))), none, [3, 2, 0, 1, 8, 5, 4, 7, 6]⟩])
 (.cond (.t 81) (.reg [⟨(some 82), .mv (.t 13), none, []⟩,
 ⟨(some 83), .mv (.t 14), none, []⟩,
 ⟨(some 84), .bin .add (.t 82) (.t 83), none, []⟩,
 ⟨(some 13), .mv (.t 84), none, []⟩])
 .skip))
 (.reg [⟨(some 85), .mv (.t 14), none, []⟩,
 ⟨(some 86), .bin .mul (.t 85) (.c (.val (.int .i64 2))), none, []⟩,
 ⟨(some 14), .mv (.t 86), none, []⟩])))
 (.reg [⟨(some 70), .mv (.t 15), none, []⟩,
 ⟨(some 71), .bin .add (.t 70) (.c (.val (.int .i64 1))), none, []⟩,
 ⟨(some 15), .mv (.t 71), none, []⟩]))))))
 (.seq (.reg [⟨(some 87), .mv (.t 13), none, []⟩,
 ⟨(some 6), .mv (.t 87), none, []⟩,
 ⟨(some 7), .mv (.c (.val (.bool true))), none, []⟩])
 .ret)))))))),
[(.t 6), (.t 7)])
theorem irOk29 : convFn Try.prog Try.f29 = some ir29 := by kernel_rfl


def boxS (s : StateD) : LObj := .box 27 [nodesV s.nodes, jobsV s.jobs, .int s.goal, .int s.prior, .int s.mode, .int s.term]
def boxJ (j : JobD) : LObj := .box 39 [.int j.queue, .int j.prio, .int j.min, .int j.max, .int j.work, .int j.pin, .int j.phase, .int j.inc, .int j.nodes, .int j.since, .int j.til, .int j.epoch]
theorem mask_b {f : Nat → Bool} {k : Nat} {b : Bool} (h : f k = b) : maskTo f (k + 1) = if b = true then maskTo f k + 2 ^ k else maskTo f k := by rw [← h]; rfl
def opnS (s : StateD) (k : Nat) : St := ⟨[(3, .int (maskTo (fun i => freeB (s.nodes.getD i zeroNode)) k)), (7, nodesV s.nodes), (8, .int s.nodes.length), (9, .int k)], [some (boxS s)]⟩
set_option maxHeartbeats 4000000 in
theorem fopen_tri (s : StateD) (hn : s.nodes.length ≤ 6) : Tri Try.prog G 22 [stateV s] [] (.int (freeS s)) [] := by
  refine tri_W0 Try.func22 (by decide) irOk22 (Nat.le_of_ble_eq_true rfl) rfl ?_
  simp only [ir22, go_sem, ↓reduceIte, zA, zB, zC, zD, zE, zF, reduceCtorEq, zG, zH, zI, zJ, zK, zL, zM, zN, zO, zP]
  refine W_loopI [3, 7, 8, 9] [] (fun k : Nat => k ≤ s.nodes.length) (fun k => s.nodes.length - k) (opnS s) 0 ?_ (Nat.zero_le _) (fun k hk => ?_)
  · simp only [opnS, boxS, go_sem, ↓reduceIte, zA, zB, zC, zD, zE, zF, reduceCtorEq, zG, zH, zI, zJ, zK, zL, zM, zN, zO, zP, maskTo, Int.natCast_zero]
  simp only [opnS, boxS, go_sem, ↓reduceIte, zA, zB, zC, zD, zE, zF, reduceCtorEq, zG, zH, zI, zJ, zK, zL, zM, zN, zO, zP]
  by_cases hlt : k < s.nodes.length
  · have hg := get_mapD (f := nodeR) zeroNode hlt
    have hm := mask_b (f := fun i => freeB (s.nodes.getD i zeroNode)) (k := k) (b := freeB (s.nodes.getD k zeroNode)) rfl
    have ho := mask_or (fun i => freeB (s.nodes.getD i zeroNode)) k (by omega)
    have hs1 := shl_one k (by omega)
    generalize s.nodes.getD k zeroNode = n at hg hm
    simp only [nodeR] at hg
    simp only [decide_eq_true (show ((k : Nat) : Int) < ((s.nodes.length : Nat) : Int) by omega), hg, go_sem, ↓reduceIte, zA, zB, zC, zD, zE, zF, reduceCtorEq, zG, zH, zI, zJ, zK, zL, zM, zN, zO, zP]
    refine W_calld (free_tri n) rfl rfl rfl rfl ?_; simp only [go_sem, ↓reduceIte, zA, zB, zC, zD, zE, zF, reduceCtorEq, zG, zH, zI, zJ, zK, zL, zM, zN, zO, zP]
    cases hf : freeB n with
    | true =>
      rw [hf, if_pos rfl, ← ho] at hm
      simp only [hs1, go_sem, ↓reduceIte, zA, zB, zC, zD, zE, zF, reduceCtorEq, zG, zH, zI, zJ, zK, zL, zM, zN, zO, zP]
      refine W_lpI (k + 1) ?_ ?_ (by omega) (by omega)
      · simp only [go_sem, ↓reduceIte, zA, zB, zC, zD, zE, zF, reduceCtorEq, zG, zH, zI, zJ, zK, zL, zM, zN, zO, zP]
      · simp only [opnS, boxS, hm, wrap_succ (show k < 9223372036854775807 by omega), go_sem, ↓reduceIte, zA, zB, zC, zD, zE, zF, reduceCtorEq, zG, zH, zI, zJ, zK, zL, zM, zN, zO, zP]
    | false =>
      rw [hf, if_neg (by decide)] at hm
      simp only [go_sem, ↓reduceIte, zA, zB, zC, zD, zE, zF, reduceCtorEq, zG, zH, zI, zJ, zK, zL, zM, zN, zO, zP]
      refine W_lpI (k + 1) ?_ ?_ (by omega) (by omega)
      · simp only [go_sem, ↓reduceIte, zA, zB, zC, zD, zE, zF, reduceCtorEq, zG, zH, zI, zJ, zK, zL, zM, zN, zO, zP]
      · simp only [opnS, boxS, hm, wrap_succ (show k < 9223372036854775807 by omega), go_sem, ↓reduceIte, zA, zB, zC, zD, zE, zF, reduceCtorEq, zG, zH, zI, zJ, zK, zL, zM, zN, zO, zP]
  · obtain rfl : k = s.nodes.length := by omega
    simp only [decide_eq_false (show ¬ ((s.nodes.length : Nat) : Int) < ((s.nodes.length : Nat) : Int) by omega), freeS, go_sem, ↓reduceIte, zA, zB, zC, zD, zE, zF, reduceCtorEq, zG, zH, zI, zJ, zK, zL, zM, zN, zO, zP]

def rdyS (s : StateD) (set v : Int) (k : Nat) : St := ⟨[(1, .int set), (2, .int v), (7, .int (maskTo (fun i => readyB set v i (s.nodes.getD i zeroNode)) k)), (11, nodesV s.nodes), (12, .int s.nodes.length), (13, .int k)], [some (boxS s)]⟩
set_option maxHeartbeats 8000000 in
theorem ready_tri (s : StateD) (set v : Int) (hn : s.nodes.length ≤ 6) : Tri Try.prog G 57 [stateV s, .int set, .int v] [] (.int (readyS s set v)) [] := by
  refine tri_W0 Try.func57 (by decide) irOk57 (Nat.le_of_ble_eq_true rfl) rfl ?_
  simp only [ir57, go_sem, ↓reduceIte, zA, zB, zC, zD, zE, zF, reduceCtorEq, zG, zH, zI, zJ, zK, zL, zM, zN, zO, zP]
  refine W_loopI [1, 2, 7, 11, 12, 13] [] (fun k : Nat => k ≤ s.nodes.length) (fun k => s.nodes.length - k) (rdyS s set v) 0 ?_ (Nat.zero_le _) (fun k hk => ?_)
  · simp only [rdyS, boxS, go_sem, ↓reduceIte, zA, zB, zC, zD, zE, zF, reduceCtorEq, zG, zH, zI, zJ, zK, zL, zM, zN, zO, zP, maskTo, Int.natCast_zero]
  simp only [rdyS, boxS, go_sem, ↓reduceIte, zA, zB, zC, zD, zE, zF, reduceCtorEq, zG, zH, zI, zJ, zK, zL, zM, zN, zO, zP]
  by_cases hlt : k < s.nodes.length
  · have hg := get_mapD (f := nodeR) zeroNode hlt
    have hm := mask_b (f := fun i => readyB set v i (s.nodes.getD i zeroNode)) (k := k) (b := readyB set v k (s.nodes.getD k zeroNode)) rfl
    have ho := mask_or (fun i => readyB set v i (s.nodes.getD i zeroNode)) k (by omega)
    have hs1 := shl_one k (by omega)
    have hb1 := bit_eq set k (by omega)
    generalize s.nodes.getD k zeroNode = n at hg hm
    simp only [nodeR] at hg
    have hrb : readyB set v k n = (hasB set k && n.up && !n.cordon && !n.moving && decide (n.version = v)) := rfl
    obtain ⟨up, cordon, moving, version, job⟩ := n
    dsimp only at hg hrb
    simp only [decide_eq_true (show ((k : Nat) : Int) < ((s.nodes.length : Nat) : Int) by omega), hg, hb1, go_sem, ↓reduceIte, zA, zB, zC, zD, zE, zF, reduceCtorEq, zG, zH, zI, zJ, zK, zL, zM, zN, zO, zP]
    have yes : readyB set v k ⟨up, cordon, moving, version, job⟩ = true → maskTo (fun i => readyB set v i (s.nodes.getD i zeroNode)) (k + 1) = orI .i64 (maskTo (fun i => readyB set v i (s.nodes.getD i zeroNode)) k) (2 ^ k) := fun h => by rw [hm, if_pos h, ho]
    have no : readyB set v k ⟨up, cordon, moving, version, job⟩ = false → maskTo (fun i => readyB set v i (s.nodes.getD i zeroNode)) (k + 1) = maskTo (fun i => readyB set v i (s.nodes.getD i zeroNode)) k := fun h => by rw [hm, h, if_neg (by decide)]
    rw [hrb] at yes no
    cases hb : hasB set k <;> (try cases up) <;> (try cases cordon) <;> (try cases moving) <;> (try (by_cases hv : version = v)) <;> simp only [hb, hv, hs1, bne_self_eq_false, beq_self_eq_true, decide_true, decide_false, Bool.and_true, Bool.and_false, Bool.true_and, Bool.false_and, Bool.not_true, Bool.not_false, Bool.false_eq_true, false_implies, true_implies, beq_eq_false_iff_ne.2, ne_eq, not_false_eq_true, reduceCtorEq, go_sem, ↓reduceIte, zA, zB, zC, zD, zE, zF, reduceCtorEq, zG, zH, zI, zJ, zK, zL, zM, zN, zO, zP] at yes no ⊢ <;>
      (refine W_lpI (k + 1) ?_ ?_ (by omega) (by omega)
       · simp only [go_sem, ↓reduceIte, zA, zB, zC, zD, zE, zF, reduceCtorEq, zG, zH, zI, zJ, zK, zL, zM, zN, zO, zP]
       · first
         | (simp only [rdyS, boxS, no, wrap_succ (show k < 9223372036854775807 by omega), go_sem, ↓reduceIte, zA, zB, zC, zD, zE, zF, reduceCtorEq, zG, zH, zI, zJ, zK, zL, zM, zN, zO, zP]; done)
         | simp only [rdyS, boxS, yes, wrap_succ (show k < 9223372036854775807 by omega), go_sem, ↓reduceIte, zA, zB, zC, zD, zE, zF, reduceCtorEq, zG, zH, zI, zJ, zK, zL, zM, zN, zO, zP])
  · obtain rfl : k = s.nodes.length := by omega
    simp only [decide_eq_false (show ¬ ((s.nodes.length : Nat) : Int) < ((s.nodes.length : Nat) : Int) by omega), readyS, go_sem, ↓reduceIte, zA, zB, zC, zD, zE, zF, reduceCtorEq, zG, zH, zI, zJ, zK, zL, zM, zN, zO, zP]

theorem low_step : ∀ a : Fin 64, a.val ≠ 0 → (∃ b : Fin 64, andI .i64 (a.val : Int) (-(a.val : Int)) = (b.val : Int)) ∧ ∃ c : Fin 64, andNotI .i64 (a.val : Int) (andI .i64 (a.val : Int) (-(a.val : Int))) = (c.val : Int) ∧ many (c.val : Int) + 1 = many (a.val : Int) := by decide +kernel
theorem many_zero : ∀ a : Fin 64, many (a.val : Int) = 0 → a.val = 0 := by decide +kernel
theorem set6_zero : Set6 0 := ⟨by decide, by decide⟩
def lowQ (a : Nat × Int × Int × Int) : St := ⟨[(0, .int a.2.1), (1, .int a.2.2.1), (5, .int a.2.2.2)], []⟩
set_option maxHeartbeats 4000000 in
theorem lowest_tri (set most : Int) (hs : Set6 set) (hm : 0 ≤ most ∧ most ≤ 1000) : Tri Try.prog G 41 [.int set, .int most] [] (.int (lowF 6 (set, most, 0))) [] := by
  refine tri_W0 Try.func41 (by decide) irOk41 (Nat.le_of_ble_eq_true rfl) rfl ?_
  simp only [ir41, go_sem, ↓reduceIte, zA, zB, zC, zD, zE, zF, reduceCtorEq, zG, zH, zI, zJ, zK, zL, zM, zN, zO, zP]
  generalize hR : lowF 6 (set, most, 0) = R
  refine W_loopI [0, 1, 5] [] (fun a : Nat × Int × Int × Int => Set6 a.2.1 ∧ Set6 a.2.2.2 ∧ many a.2.1 ≤ a.1 ∧ (0 ≤ a.2.2.1 ∧ a.2.2.1 ≤ 1000) ∧ lowF a.1 a.2 = R) (fun a => a.1) lowQ (6, set, most, 0) ?_ ⟨hs, set6_zero, (many_rng set).2, hm, hR⟩ ?_
  · simp only [lowQ, go_sem, ↓reduceIte, zA, zB, zC, zD, zE, zF, reduceCtorEq, zG, zH, zI, zJ, zK, zL, zM, zN, zO, zP]
  rintro ⟨f, p, m, out⟩ ⟨h1, h2, h3, h4, h5⟩
  dsimp only at h1 h2 h3 h4 h5
  simp only [lowQ, go_sem, ↓reduceIte, zA, zB, zC, zD, zE, zF, reduceCtorEq, zG, zH, zI, zJ, zK, zL, zM, zN, zO, zP]
  obtain ⟨n, rfl, hn⟩ := h1.nat
  by_cases hz : n = 0
  · subst hz
    have : R = out := by rw [← h5]; cases f with | zero => rfl | succ f => rw [lowF, if_neg (by simp)]
    subst this
    simp only [Int.natCast_zero, bne_self_eq_false, go_sem, ↓reduceIte, zA, zB, zC, zD, zE, zF, reduceCtorEq, zG, zH, zI, zJ, zK, zL, zM, zN, zO, zP]
  by_cases hm0 : 0 < m
  case neg =>
    have : R = out := by rw [← h5]; cases f with | zero => rfl | succ f => rw [lowF, if_neg (fun h => hm0 h.2)]
    subst this
    simp only [show ((n : Int) != 0) = true from bne_iff_ne.2 (by omega), decide_eq_false (show ¬ m > 0 by omega), go_sem, ↓reduceIte, zA, zB, zC, zD, zE, zF, reduceCtorEq, zG, zH, zI, zJ, zK, zL, zM, zN, zO, zP]
  obtain ⟨⟨b, hb⟩, c, hc, hmc⟩ := low_step ⟨n, hn⟩ hz
  dsimp only at hb hc hmc
  have hwn : IntKind.i64.wrap (0 - (n : Int)) = -(n : Int) := by rw [wrap_in (by omega) (by omega)]; omega
  have hwm : IntKind.i64.wrap (m - 1) = m - 1 := wrap_in (by omega) (by omega)
  cases f with
  | zero =>
    have h0 := many_rng (n : Int)
    exact absurd (many_zero ⟨n, hn⟩ (show many (n : Int) = 0 by omega)) hz
  | succ f =>
    have hst : lowF f (lowStep ((n : Int), m, out)) = R := by rw [← h5, lowF, if_pos ⟨by dsimp only; omega, hm0⟩]
    have e : lowStep ((n : Int), m, out) = ((c.val : Int), m - 1, orI .i64 out (b.val : Int)) := by unfold lowStep; dsimp only; rw [hc, hb]
    rw [e] at hst
    have hor := (orI_6 h2 (⟨by omega, by omega⟩ : Set6 (b.val : Int))).1
    simp only [show ((n : Int) != 0) = true from bne_iff_ne.2 (by omega), decide_eq_true (show m > 0 by omega), hwn, hwm, hb, go_sem, ↓reduceIte, zA, zB, zC, zD, zE, zF, reduceCtorEq, zG, zH, zI, zJ, zK, zL, zM, zN, zO, zP]
    rw [hb] at hc
    refine W_lpI (f, (c.val : Int), m - 1, orI .i64 out (b.val : Int)) ?_ ?_ ⟨⟨by dsimp only; omega, by dsimp only; omega⟩, hor, by dsimp only; omega, by dsimp only; omega, hst⟩ (by dsimp only; omega)
    · simp only [go_sem, ↓reduceIte, zA, zB, zC, zD, zE, zF, reduceCtorEq, zG, zH, zI, zJ, zK, zL, zM, zN, zO, zP]
    · simp only [lowQ, hc, go_sem, ↓reduceIte, zA, zB, zC, zD, zE, zF, reduceCtorEq, zG, zH, zI, zJ, zK, zL, zM, zN, zO, zP]
def opn9S (s : StateD) (k : Nat) : St := ⟨[(3, .int (maskTo (fun i => freeB (s.nodes.getD i zeroNode)) k)), (4, .int (2 ^ k)), (5, .int k)], [some (boxS s)]⟩
theorem dbl (k : Nat) (h : k ≤ 6) : IntKind.i64.wrap ((2 : Int) ^ k * 2) = 2 ^ (k + 1) := by
  have := pow6 k h
  rw [wrap_in (by omega) (by omega), Int.pow_succ]
theorem sum6 (f : Nat → Bool) (k : Nat) (h : k < 6) : IntKind.i64.wrap (maskTo f k + 2 ^ k) = maskTo f k + 2 ^ k := by
  have := pow6 k (by omega)
  have := maskTo_6 f k (by omega)
  exact wrap_in (by have := this.1; omega) (by have := this.2; omega)
set_option maxHeartbeats 4000000 in
theorem open15_tri (s : StateD) (hn : s.nodes.length ≤ 6) : Tri Try.prog G 49 [stateV s] [] (.int (freeS s)) [] := by
  refine tri_W0 Try.func49 (by decide) irOk49 (Nat.le_of_ble_eq_true rfl) rfl ?_
  simp only [ir49, go_sem, ↓reduceIte, zA, zB, zC, zD, zE, zF, reduceCtorEq, zG, zH, zI, zJ, zK, zL, zM, zN, zO, zP]
  refine W_loopI [1, 3, 4, 5] [] (fun k : Nat => k ≤ s.nodes.length) (fun k => s.nodes.length - k) (fun k => { opn9S s k with env := (1, .ptr 0 0) :: (opn9S s k).env }) 0 ?_ (Nat.zero_le _) (fun k hk => ?_)
  · simp only [opn9S, boxS, go_sem, ↓reduceIte, zA, zB, zC, zD, zE, zF, reduceCtorEq, zG, zH, zI, zJ, zK, zL, zM, zN, zO, zP, maskTo, Int.natCast_zero, Int.pow_zero]
  simp only [opn9S, boxS, List.length_map, go_sem, ↓reduceIte, zA, zB, zC, zD, zE, zF, reduceCtorEq, zG, zH, zI, zJ, zK, zL, zM, zN, zO, zP]
  by_cases hlt : k < s.nodes.length
  · have hg := get_mapD (f := nodeR) zeroNode hlt
    have hm := mask_b (f := fun i => freeB (s.nodes.getD i zeroNode)) (k := k) (b := freeB (s.nodes.getD k zeroNode)) rfl
    have ho := sum6 (fun i => freeB (s.nodes.getD i zeroNode)) k (by omega)
    have hd := dbl k (by omega)
    generalize s.nodes.getD k zeroNode = n at hg hm
    simp only [nodeR] at hg
    simp only [decide_eq_true (show ((k : Nat) : Int) < ((s.nodes.length : Nat) : Int) by omega), hg, go_sem, ↓reduceIte, zA, zB, zC, zD, zE, zF, reduceCtorEq, zG, zH, zI, zJ, zK, zL, zM, zN, zO, zP]
    refine W_calld (free9_tri n) rfl rfl rfl rfl ?_; simp only [go_sem, ↓reduceIte, zA, zB, zC, zD, zE, zF, reduceCtorEq, zG, zH, zI, zJ, zK, zL, zM, zN, zO, zP]
    cases hf : freeB n with
    | true =>
      rw [hf, if_pos rfl] at hm
      simp only [ho, hd, go_sem, ↓reduceIte, zA, zB, zC, zD, zE, zF, reduceCtorEq, zG, zH, zI, zJ, zK, zL, zM, zN, zO, zP]
      refine W_lpI (k + 1) ?_ ?_ (by omega) (by omega)
      · simp only [go_sem, ↓reduceIte, zA, zB, zC, zD, zE, zF, reduceCtorEq, zG, zH, zI, zJ, zK, zL, zM, zN, zO, zP]
      · simp only [opn9S, boxS, hm, wrap_succ (show k < 9223372036854775807 by omega), go_sem, ↓reduceIte, zA, zB, zC, zD, zE, zF, reduceCtorEq, zG, zH, zI, zJ, zK, zL, zM, zN, zO, zP]
    | false =>
      rw [hf, if_neg (by decide)] at hm
      simp only [hd, go_sem, ↓reduceIte, zA, zB, zC, zD, zE, zF, reduceCtorEq, zG, zH, zI, zJ, zK, zL, zM, zN, zO, zP]
      refine W_lpI (k + 1) ?_ ?_ (by omega) (by omega)
      · simp only [go_sem, ↓reduceIte, zA, zB, zC, zD, zE, zF, reduceCtorEq, zG, zH, zI, zJ, zK, zL, zM, zN, zO, zP]
      · simp only [opn9S, boxS, hm, wrap_succ (show k < 9223372036854775807 by omega), go_sem, ↓reduceIte, zA, zB, zC, zD, zE, zF, reduceCtorEq, zG, zH, zI, zJ, zK, zL, zM, zN, zO, zP]
  · obtain rfl : k = s.nodes.length := by omega
    simp only [decide_eq_false (show ¬ ((s.nodes.length : Nat) : Int) < ((s.nodes.length : Nat) : Int) by omega), freeS, go_sem, ↓reduceIte, zA, zB, zC, zD, zE, zF, reduceCtorEq, zG, zH, zI, zJ, zK, zL, zM, zN, zO, zP]
end Dv

namespace Dv
open Go Go.Proofs
open Nat renaming reduceEqDiff → zA, reduceAdd → zB, reduceSub → zC, reduceMul → zD, reduceLT → zE, reduceLeDiff → zF
open Int renaming reduceLE → zG, reduceLT → zH, reduceToNat → zI, reduceBEq → zJ, reduceBNe → zK, reduceEq → zL, reduceAdd → zM, reduceSub → zN, reduceMul → zO, reduceNeg → zP
attribute [local go_sem] argEnv W_nil W_seq W_skip W_ret W_exit W_scope W_block W_blk W_reg W_regD W_cond WC_t WC_f WC_any Wx_c Wx_ops Wx_lp Wx_blk W_ops_nil W_opsD_q W_guard W_guardD WG_tt WG_ff WG_tf WG_ft WG_u WGD_tt WGD_ff WGD_tf WGD_ft WGD_u WE_some WED_some W_more W_mv W_pick W_new W_box W_build W_bsl W_ld1 W_ldn W_st W_nck W_bin W_eqb W_not W_cvt W_fad W_fld1 W_fldn W_ixa W_ixr W_ix1 W_ixs W_len W_lens W_mkf W_ext W_app W_min W_max W_isnp W_isns W_eqs W_neg W_ixn W_sli W_sls WD_more WD_mv WD_pick WD_new WD_box WD_build WD_bsl WD_ld1 WD_ldn WD_st WD_nck WD_bin WD_eqb WD_not WD_cvt WD_fad WD_fld1 WD_fldn WD_ixa WD_ixr WD_ix1 WD_ixs WD_len WD_lens WD_mkf WD_ext WD_app WD_min WD_max WD_isnp WD_isns WD_eqs WD_neg WD_ixn WD_sli WD_sls effF effM bytesOf Opd.ev getE putE binV LV.int LV.bool LV.undef Go.undef LV.cells LV.toD LV.toDs splice fillL rowsOf boxOf srcRows updL objL Eff.owned nwp St.get St.obj St.put Value.oneCell' Ends adopt Ad.ap isNil St.keep St.okKeep okObj idl idlL idlO RVs.of RV.of oneOr Ends0 EndsO_iff frzs rn rnL rnO piOf eqCells eqV boundV Option.map_some Option.map_none List.append_nil List.nil_append List.cons_append List.map_nil List.map_cons List.length_nil List.length_cons List.set_cons_zero List.set_cons_succ List.take_succ_cons List.take_zero List.take_nil List.drop_succ_cons List.drop_zero List.drop_nil List.getElem?_cons_zero List.getElem?_cons_succ List.getElem?_nil List.isEmpty_nil List.isEmpty_cons List.all_cons List.all_nil List.isEmpty_nil cond_true cond_false Bool.true_and Bool.false_and Bool.and_true Bool.and_false Bool.not_true Bool.not_false Bool.or_true Bool.true_or Bool.or_false Bool.false_or true_and and_true true_or or_true Option.some.injEq LV.d.injEq DV.val.injEq Value.bool.injEq Value.int.injEq decide_true decide_false and_self Nat.zero_add Nat.add_zero if_true if_false Int.toNat_zero beq_self_eq_true Nat.zero_lt_succ Int.toNat_natCast Int.natCast_nonneg List.length_map i64 bl List.zip_cons_cons List.zip_nil_left List.zip_nil_right nwp confV stateV nodeV jobV nodesV jobsV opV msgV nodeR jobR opR msgR zeroOp zeroMsg msgsV
variable {G : Nat → Option (List DV)}

def of9S (s : StateD) (set v : Int) (k : Nat) : St := ⟨[(1, .int set), (2, .int v), (3, .ptr 0 0), (7, .int (maskTo (fun i => readyB set v i (s.nodes.getD i zeroNode)) k)), (8, .int (2 ^ k)), (9, .int k)], [some (boxS s)]⟩
set_option maxHeartbeats 8000000 in
theorem of15_tri (s : StateD) (set v : Int) (hn : s.nodes.length ≤ 6) : Tri Try.prog G 47 [stateV s, .int set, .int v] [] (.int (readyS s set v)) [] := by
  refine tri_W0 Try.func47 (by decide) irOk47 (Nat.le_of_ble_eq_true rfl) rfl ?_
  simp only [ir47, go_sem, ↓reduceIte, zA, zB, zC, zD, zE, zF, reduceCtorEq, zG, zH, zI, zJ, zK, zL, zM, zN, zO, zP]
  refine W_loopI [1, 2, 3, 7, 8, 9] [] (fun k : Nat => k ≤ s.nodes.length) (fun k => s.nodes.length - k) (of9S s set v) 0 ?_ (Nat.zero_le _) (fun k hk => ?_)
  · simp only [of9S, boxS, go_sem, ↓reduceIte, zA, zB, zC, zD, zE, zF, reduceCtorEq, zG, zH, zI, zJ, zK, zL, zM, zN, zO, zP, maskTo, Int.natCast_zero, Int.pow_zero]
  simp only [of9S, boxS, List.length_map, go_sem, ↓reduceIte, zA, zB, zC, zD, zE, zF, reduceCtorEq, zG, zH, zI, zJ, zK, zL, zM, zN, zO, zP]
  by_cases hlt : k < s.nodes.length
  · have hg := get_mapD (f := nodeR) zeroNode hlt
    have hm := mask_b (f := fun i => readyB set v i (s.nodes.getD i zeroNode)) (k := k) (b := readyB set v k (s.nodes.getD k zeroNode)) rfl
    have ho := sum6 (fun i => readyB set v i (s.nodes.getD i zeroNode)) k (by omega)
    have hd := dbl k (by omega)
    generalize s.nodes.getD k zeroNode = n at hg hm
    simp only [nodeR] at hg
    have hrb : readyB set v k n = (hasB set k && n.up && !n.cordon && !n.moving && decide (n.version = v)) := rfl
    obtain ⟨up, cordon, moving, version, job⟩ := n
    dsimp only at hg hrb
    simp only [decide_eq_true (show ((k : Nat) : Int) < ((s.nodes.length : Nat) : Int) by omega), hg, go_sem, ↓reduceIte, zA, zB, zC, zD, zE, zF, reduceCtorEq, zG, zH, zI, zJ, zK, zL, zM, zN, zO, zP]
    refine W_calld (has9_tri set k (by omega)) rfl rfl rfl rfl ?_; simp only [go_sem, ↓reduceIte, zA, zB, zC, zD, zE, zF, reduceCtorEq, zG, zH, zI, zJ, zK, zL, zM, zN, zO, zP]
    have yes : readyB set v k ⟨up, cordon, moving, version, job⟩ = true → maskTo (fun i => readyB set v i (s.nodes.getD i zeroNode)) (k + 1) = maskTo (fun i => readyB set v i (s.nodes.getD i zeroNode)) k + 2 ^ k := fun h => by rw [hm, if_pos h]
    have no : readyB set v k ⟨up, cordon, moving, version, job⟩ = false → maskTo (fun i => readyB set v i (s.nodes.getD i zeroNode)) (k + 1) = maskTo (fun i => readyB set v i (s.nodes.getD i zeroNode)) k := fun h => by rw [hm, h, if_neg (by decide)]
    rw [hrb] at yes no
    cases hb : hasB set k <;> (try cases up) <;> (try cases cordon) <;> (try cases moving) <;> (try (by_cases hv : version = v)) <;> simp only [hb, hv, ho, hd, bne_self_eq_false, beq_self_eq_true, decide_true, decide_false, Bool.and_true, Bool.and_false, Bool.true_and, Bool.false_and, Bool.not_true, Bool.not_false, Bool.false_eq_true, false_implies, true_implies, beq_eq_false_iff_ne.2, ne_eq, not_false_eq_true, reduceCtorEq, go_sem, ↓reduceIte, zA, zB, zC, zD, zE, zF, reduceCtorEq, zG, zH, zI, zJ, zK, zL, zM, zN, zO, zP] at yes no ⊢ <;>
      (refine W_lpI (k + 1) ?_ ?_ (by omega) (by omega)
       · simp only [go_sem, ↓reduceIte, zA, zB, zC, zD, zE, zF, reduceCtorEq, zG, zH, zI, zJ, zK, zL, zM, zN, zO, zP]
       · first
         | (simp only [of9S, boxS, no, wrap_succ (show k < 9223372036854775807 by omega), go_sem, ↓reduceIte, zA, zB, zC, zD, zE, zF, reduceCtorEq, zG, zH, zI, zJ, zK, zL, zM, zN, zO, zP]; done)
         | simp only [of9S, boxS, yes, wrap_succ (show k < 9223372036854775807 by omega), go_sem, ↓reduceIte, zA, zB, zC, zD, zE, zF, reduceCtorEq, zG, zH, zI, zJ, zK, zL, zM, zN, zO, zP])
  · obtain rfl : k = s.nodes.length := by omega
    simp only [decide_eq_false (show ¬ ((s.nodes.length : Nat) : Int) < ((s.nodes.length : Nat) : Int) by omega), readyS, go_sem, ↓reduceIte, zA, zB, zC, zD, zE, zF, reduceCtorEq, zG, zH, zI, zJ, zK, zL, zM, zN, zO, zP]

/-- the document's loop over the versions, so far. -/
def refTo (s : StateD) (j : JobD) (set : Int) (k : Nat) : Int × Int := (vers.take k).foldl (refStep s j set) (-1, 0)
theorem vers_get : ∀ k : Fin 9, vers.take (k.val + 1) = vers.take k.val ++ [((k.val + 1 : Nat) : Int)] := by decide
theorem refTo_succ (s : StateD) (j : JobD) (set : Int) (k : Nat) (h : k < 9) : refTo s j set (k + 1) = refStep s j set (refTo s j set k) ((k + 1 : Nat) : Int) := by
  unfold refTo
  rw [vers_get ⟨k, h⟩, List.foldl_append]; rfl
def pk9S (s : StateD) (j : JobD) (set : Int) (k : Nat) : St := ⟨[(2, .int set), (3, .ptr 0 0), (4, .ptr 1 0), (8, .int (refTo s j set k).1), (9, .int (refTo s j set k).2), (10, .int ((k + 1 : Nat) : Int))], [some (boxS s), some (boxJ j)]⟩
def pk9L (of : Int) (j : JobD) (s : StateD) (k : Nat) : St := ⟨[(4, .ptr 1 0), (12, .int of), (13, .int (lowR of j.max k)), (14, .int (2 ^ k)), (15, .int k)], [some (boxS s), some (boxJ j)]⟩
theorem lowR_rng (of mx : Int) : ∀ k : Nat, k ≤ 6 → 0 ≤ lowR of mx k ∧ lowR of mx k < 2 ^ k
  | 0, _ => by simp [lowR]
  | k + 1, h => by
    have := lowR_rng of mx k (by omega)
    have hp : (2 : Int) ^ (k + 1) = 2 ^ k * 2 := Int.pow_succ 2 k
    rw [lowR]
    split <;> omega
set_option maxHeartbeats 8000000 in
theorem pick15_tri (s : StateD) (j : JobD) (set : Int) (hn : s.nodes.length ≤ 6) (hmx : 0 ≤ j.max ∧ j.max ≤ 6) : Tri Try.prog G 29 [stateV s, jobV j, .int set] [] (.tup [.int (pickR s j set).1, .bool (pickR s j set).2]) [] := by
  refine tri_W0 Try.func29 (by decide) irOk29 (Nat.le_of_ble_eq_true rfl) rfl ?_
  simp only [ir29, go_sem, ↓reduceIte, zA, zB, zC, zD, zE, zF, reduceCtorEq, zG, zH, zI, zJ, zK, zL, zM, zN, zO, zP]
  refine W_loopI [2, 3, 4, 8, 9, 10] [] (fun k : Nat => k ≤ 9) (fun k => 9 - k) (pk9S s j set) 0 ?_ (by omega) (fun k hk => ?_)
  · simp only [pk9S, boxS, boxJ, refTo, List.foldl_nil, Nat.zero_add, Int.natCast_one, go_sem, ↓reduceIte, zA, zB, zC, zD, zE, zF, reduceCtorEq, zG, zH, zI, zJ, zK, zL, zM, zN, zO, zP]
  simp only [pk9S, boxS, boxJ, go_sem, ↓reduceIte, zA, zB, zC, zD, zE, zF, reduceCtorEq, zG, zH, zI, zJ, zK, zL, zM, zN, zO, zP]
  by_cases hlt : k < 9
  case pos =>
    have hst := refTo_succ s j set k hlt
    simp only [decide_eq_true (show ((k + 1 : Nat) : Int) ≤ 9 by omega), go_sem, ↓reduceIte, zA, zB, zC, zD, zE, zF, reduceCtorEq, zG, zH, zI, zJ, zK, zL, zM, zN, zO, zP]
    refine W_calld (of15_tri s set ((k + 1 : Nat) : Int) hn) rfl rfl rfl rfl ?_; simp only [go_sem, ↓reduceIte, zA, zB, zC, zD, zE, zF, reduceCtorEq, zG, zH, zI, zJ, zK, zL, zM, zN, zO, zP]
    refine W_calld (many9_tri (readyS s set ((k + 1 : Nat) : Int))) rfl rfl rfl rfl ?_; simp only [go_sem, ↓reduceIte, zA, zB, zC, zD, zE, zF, reduceCtorEq, zG, zH, zI, zJ, zK, zL, zM, zN, zO, zP]
    generalize hp : refTo s j set k = p at hst
    obtain ⟨best, version⟩ := p
    obtain ⟨n, hnn⟩ : ∃ n, many (readyS s set ((k + 1 : Nat) : Int)) = n := ⟨_, rfl⟩
    simp only [refStep, capK, hnn] at hst
    simp only [hnn, go_sem, ↓reduceIte, zA, zB, zC, zD, zE, zF, reduceCtorEq, zG, zH, zI, zJ, zK, zL, zM, zN, zO, zP]
    by_cases h1 : n < j.min
    · rw [if_pos (Or.inl h1)] at hst
      simp only [decide_eq_true h1, go_sem, ↓reduceIte, zA, zB, zC, zD, zE, zF, reduceCtorEq, zG, zH, zI, zJ, zK, zL, zM, zN, zO, zP]
      refine W_lpI (k + 1) ?_ ?_ (by omega) (by omega)
      · simp only [go_sem, ↓reduceIte, zA, zB, zC, zD, zE, zF, reduceCtorEq, zG, zH, zI, zJ, zK, zL, zM, zN, zO, zP]
      · simp only [pk9S, boxS, boxJ, hst, wrap_succ (show k + 1 < 9223372036854775807 by omega), go_sem, ↓reduceIte, zA, zB, zC, zD, zE, zF, reduceCtorEq, zG, zH, zI, zJ, zK, zL, zM, zN, zO, zP]
    simp only [decide_eq_false h1, go_sem, ↓reduceIte, zA, zB, zC, zD, zE, zF, reduceCtorEq, zG, zH, zI, zJ, zK, zL, zM, zN, zO, zP]
    by_cases h2 : 0 < j.pin ∧ j.pin ≠ ((k + 1 : Nat) : Int)
    · rw [if_pos (Or.inr h2)] at hst
      simp only [decide_eq_true (show j.pin > 0 from h2.1), show (j.pin != ((k + 1 : Nat) : Int)) = true from bne_iff_ne.2 h2.2, go_sem, ↓reduceIte, zA, zB, zC, zD, zE, zF, reduceCtorEq, zG, zH, zI, zJ, zK, zL, zM, zN, zO, zP]
      refine W_lpI (k + 1) ?_ ?_ (by omega) (by omega)
      · simp only [go_sem, ↓reduceIte, zA, zB, zC, zD, zE, zF, reduceCtorEq, zG, zH, zI, zJ, zK, zL, zM, zN, zO, zP]
      · simp only [pk9S, boxS, boxJ, hst, wrap_succ (show k + 1 < 9223372036854775807 by omega), go_sem, ↓reduceIte, zA, zB, zC, zD, zE, zF, reduceCtorEq, zG, zH, zI, zJ, zK, zL, zM, zN, zO, zP]
    rw [if_neg (not_or.2 ⟨h1, h2⟩)] at hst
    by_cases hp0 : j.pin > 0
    case' pos => simp only [decide_eq_true hp0, show (j.pin != ((k + 1 : Nat) : Int)) = false from (bne_eq_false_iff_eq.2 (Decidable.not_not.1 fun h => h2 ⟨hp0, h⟩)), go_sem, ↓reduceIte, zA, zB, zC, zD, zE, zF, reduceCtorEq, zG, zH, zI, zJ, zK, zL, zM, zN, zO, zP]
    case' neg => simp only [decide_eq_false hp0, go_sem, ↓reduceIte, zA, zB, zC, zD, zE, zF, reduceCtorEq, zG, zH, zI, zJ, zK, zL, zM, zN, zO, zP]
    all_goals
      by_cases h4 : j.max < n
      · rw [if_pos h4] at hst
        simp only [decide_eq_true (show n > j.max from h4), go_sem, ↓reduceIte, zA, zB, zC, zD, zE, zF, reduceCtorEq, zG, zH, zI, zJ, zK, zL, zM, zN, zO, zP]
        by_cases h5 : best < j.max
        · rw [if_pos (Or.inl h5)] at hst
          simp only [decide_eq_true (show j.max > best from h5), go_sem, ↓reduceIte, zA, zB, zC, zD, zE, zF, reduceCtorEq, zG, zH, zI, zJ, zK, zL, zM, zN, zO, zP]
          refine W_lpI (k + 1) ?_ ?_ (by omega) (by omega)
          · simp only [go_sem, ↓reduceIte, zA, zB, zC, zD, zE, zF, reduceCtorEq, zG, zH, zI, zJ, zK, zL, zM, zN, zO, zP]
          · simp only [pk9S, boxS, boxJ, hst, wrap_succ (show k + 1 < 9223372036854775807 by omega), go_sem, ↓reduceIte, zA, zB, zC, zD, zE, zF, reduceCtorEq, zG, zH, zI, zJ, zK, zL, zM, zN, zO, zP]
        · simp only [decide_eq_false (show ¬ j.max > best from h5), go_sem, ↓reduceIte, zA, zB, zC, zD, zE, zF, reduceCtorEq, zG, zH, zI, zJ, zK, zL, zM, zN, zO, zP]
          by_cases h6 : j.max = best
          · simp only [show (j.max == best) = true from beq_iff_eq.2 h6, go_sem, ↓reduceIte, zA, zB, zC, zD, zE, zF, reduceCtorEq, zG, zH, zI, zJ, zK, zL, zM, zN, zO, zP]
            refine W_calld (meant9_tri s) rfl rfl rfl rfl ?_; simp only [go_sem, ↓reduceIte, zA, zB, zC, zD, zE, zF, reduceCtorEq, zG, zH, zI, zJ, zK, zL, zM, zN, zO, zP]
            by_cases h7 : ((k + 1 : Nat) : Int) = meant s
            · rw [if_pos (Or.inr ⟨h6, h7⟩)] at hst
              simp only [show (((k + 1 : Nat) : Int) == meant s) = true from beq_iff_eq.2 h7, go_sem, ↓reduceIte, zA, zB, zC, zD, zE, zF, reduceCtorEq, zG, zH, zI, zJ, zK, zL, zM, zN, zO, zP]
              refine W_lpI (k + 1) ?_ ?_ (by omega) (by omega)
              · simp only [go_sem, ↓reduceIte, zA, zB, zC, zD, zE, zF, reduceCtorEq, zG, zH, zI, zJ, zK, zL, zM, zN, zO, zP]
              · simp only [pk9S, boxS, boxJ, hst, wrap_succ (show k + 1 < 9223372036854775807 by omega), go_sem, ↓reduceIte, zA, zB, zC, zD, zE, zF, reduceCtorEq, zG, zH, zI, zJ, zK, zL, zM, zN, zO, zP]
            · rw [if_neg (by rintro (h | ⟨_, h⟩); exact h5 h; exact h7 h)] at hst
              simp only [show (((k + 1 : Nat) : Int) == meant s) = false from beq_eq_false_iff_ne.2 h7, go_sem, ↓reduceIte, zA, zB, zC, zD, zE, zF, reduceCtorEq, zG, zH, zI, zJ, zK, zL, zM, zN, zO, zP]
              refine W_lpI (k + 1) ?_ ?_ (by omega) (by omega)
              · simp only [go_sem, ↓reduceIte, zA, zB, zC, zD, zE, zF, reduceCtorEq, zG, zH, zI, zJ, zK, zL, zM, zN, zO, zP]
              · simp only [pk9S, boxS, boxJ, hst, wrap_succ (show k + 1 < 9223372036854775807 by omega), go_sem, ↓reduceIte, zA, zB, zC, zD, zE, zF, reduceCtorEq, zG, zH, zI, zJ, zK, zL, zM, zN, zO, zP]
          · rw [if_neg (by rintro (h | ⟨h, _⟩); exact h5 h; exact h6 h)] at hst
            simp only [show (j.max == best) = false from beq_eq_false_iff_ne.2 h6, go_sem, ↓reduceIte, zA, zB, zC, zD, zE, zF, reduceCtorEq, zG, zH, zI, zJ, zK, zL, zM, zN, zO, zP]
            refine W_lpI (k + 1) ?_ ?_ (by omega) (by omega)
            · simp only [go_sem, ↓reduceIte, zA, zB, zC, zD, zE, zF, reduceCtorEq, zG, zH, zI, zJ, zK, zL, zM, zN, zO, zP]
            · simp only [pk9S, boxS, boxJ, hst, wrap_succ (show k + 1 < 9223372036854775807 by omega), go_sem, ↓reduceIte, zA, zB, zC, zD, zE, zF, reduceCtorEq, zG, zH, zI, zJ, zK, zL, zM, zN, zO, zP]
      · rw [if_neg h4] at hst
        simp only [decide_eq_false (show ¬ n > j.max from h4), go_sem, ↓reduceIte, zA, zB, zC, zD, zE, zF, reduceCtorEq, zG, zH, zI, zJ, zK, zL, zM, zN, zO, zP]
        by_cases h5 : best < n
        · rw [if_pos (Or.inl h5)] at hst
          simp only [decide_eq_true (show n > best from h5), go_sem, ↓reduceIte, zA, zB, zC, zD, zE, zF, reduceCtorEq, zG, zH, zI, zJ, zK, zL, zM, zN, zO, zP]
          refine W_lpI (k + 1) ?_ ?_ (by omega) (by omega)
          · simp only [go_sem, ↓reduceIte, zA, zB, zC, zD, zE, zF, reduceCtorEq, zG, zH, zI, zJ, zK, zL, zM, zN, zO, zP]
          · simp only [pk9S, boxS, boxJ, hst, wrap_succ (show k + 1 < 9223372036854775807 by omega), go_sem, ↓reduceIte, zA, zB, zC, zD, zE, zF, reduceCtorEq, zG, zH, zI, zJ, zK, zL, zM, zN, zO, zP]
        · simp only [decide_eq_false (show ¬ n > best from h5), go_sem, ↓reduceIte, zA, zB, zC, zD, zE, zF, reduceCtorEq, zG, zH, zI, zJ, zK, zL, zM, zN, zO, zP]
          by_cases h6 : n = best
          · simp only [show (n == best) = true from beq_iff_eq.2 h6, go_sem, ↓reduceIte, zA, zB, zC, zD, zE, zF, reduceCtorEq, zG, zH, zI, zJ, zK, zL, zM, zN, zO, zP]
            refine W_calld (meant9_tri s) rfl rfl rfl rfl ?_; simp only [go_sem, ↓reduceIte, zA, zB, zC, zD, zE, zF, reduceCtorEq, zG, zH, zI, zJ, zK, zL, zM, zN, zO, zP]
            by_cases h7 : ((k + 1 : Nat) : Int) = meant s
            · rw [if_pos (Or.inr ⟨h6, h7⟩)] at hst
              simp only [show (((k + 1 : Nat) : Int) == meant s) = true from beq_iff_eq.2 h7, go_sem, ↓reduceIte, zA, zB, zC, zD, zE, zF, reduceCtorEq, zG, zH, zI, zJ, zK, zL, zM, zN, zO, zP]
              refine W_lpI (k + 1) ?_ ?_ (by omega) (by omega)
              · simp only [go_sem, ↓reduceIte, zA, zB, zC, zD, zE, zF, reduceCtorEq, zG, zH, zI, zJ, zK, zL, zM, zN, zO, zP]
              · simp only [pk9S, boxS, boxJ, hst, wrap_succ (show k + 1 < 9223372036854775807 by omega), go_sem, ↓reduceIte, zA, zB, zC, zD, zE, zF, reduceCtorEq, zG, zH, zI, zJ, zK, zL, zM, zN, zO, zP]
            · rw [if_neg (by rintro (h | ⟨_, h⟩); exact h5 h; exact h7 h)] at hst
              simp only [show (((k + 1 : Nat) : Int) == meant s) = false from beq_eq_false_iff_ne.2 h7, go_sem, ↓reduceIte, zA, zB, zC, zD, zE, zF, reduceCtorEq, zG, zH, zI, zJ, zK, zL, zM, zN, zO, zP]
              refine W_lpI (k + 1) ?_ ?_ (by omega) (by omega)
              · simp only [go_sem, ↓reduceIte, zA, zB, zC, zD, zE, zF, reduceCtorEq, zG, zH, zI, zJ, zK, zL, zM, zN, zO, zP]
              · simp only [pk9S, boxS, boxJ, hst, wrap_succ (show k + 1 < 9223372036854775807 by omega), go_sem, ↓reduceIte, zA, zB, zC, zD, zE, zF, reduceCtorEq, zG, zH, zI, zJ, zK, zL, zM, zN, zO, zP]
          · rw [if_neg (by rintro (h | ⟨h, _⟩); exact h5 h; exact h6 h)] at hst
            simp only [show (n == best) = false from beq_eq_false_iff_ne.2 h6, go_sem, ↓reduceIte, zA, zB, zC, zD, zE, zF, reduceCtorEq, zG, zH, zI, zJ, zK, zL, zM, zN, zO, zP]
            refine W_lpI (k + 1) ?_ ?_ (by omega) (by omega)
            · simp only [go_sem, ↓reduceIte, zA, zB, zC, zD, zE, zF, reduceCtorEq, zG, zH, zI, zJ, zK, zL, zM, zN, zO, zP]
            · simp only [pk9S, boxS, boxJ, hst, wrap_succ (show k + 1 < 9223372036854775807 by omega), go_sem, ↓reduceIte, zA, zB, zC, zD, zE, zF, reduceCtorEq, zG, zH, zI, zJ, zK, zL, zM, zN, zO, zP]
  case neg =>
    obtain rfl : k = 9 := by omega
    have hfin : refTo s j set 9 = refBest s j set := rfl
    simp only [hfin, show decide ((((9 + 1 : Nat)) : Int) ≤ 9) = false from rfl, show decide ((((10 : Nat)) : Int) ≤ 9) = false from rfl, go_sem, ↓reduceIte, zA, zB, zC, zD, zE, zF, reduceCtorEq, zG, zH, zI, zJ, zK, zL, zM, zN, zO, zP]
    unfold pickR
    generalize refBest s j set = p
    obtain ⟨best, version⟩ := p
    by_cases hb : best < 0
    · simp only [decide_eq_true hb, hb, if_true, go_sem, ↓reduceIte, zA, zB, zC, zD, zE, zF, reduceCtorEq, zG, zH, zI, zJ, zK, zL, zM, zN, zO, zP]
    simp only [decide_eq_false hb, hb, if_false, go_sem, ↓reduceIte, zA, zB, zC, zD, zE, zF, reduceCtorEq, zG, zH, zI, zJ, zK, zL, zM, zN, zO, zP]
    refine W_calld (of15_tri s set version hn) rfl rfl rfl rfl ?_; simp only [go_sem, ↓reduceIte, zA, zB, zC, zD, zE, zF, reduceCtorEq, zG, zH, zI, zJ, zK, zL, zM, zN, zO, zP]
    generalize readyS s set version = of
    refine W_loopI [4, 12, 13, 14, 15] [] (fun i : Nat => i ≤ 6) (fun i => 6 - i) (pk9L of j s) 0 ?_ (by omega) (fun i hi => ?_)
    · simp only [pk9L, boxS, boxJ, lowR, Int.natCast_zero, Int.pow_zero, go_sem, ↓reduceIte, zA, zB, zC, zD, zE, zF, reduceCtorEq, zG, zH, zI, zJ, zK, zL, zM, zN, zO, zP]
    simp only [pk9L, boxS, boxJ, go_sem, ↓reduceIte, zA, zB, zC, zD, zE, zF, reduceCtorEq, zG, zH, zI, zJ, zK, zL, zM, zN, zO, zP]
    by_cases hli : i < 6
    case neg =>
      obtain rfl : i = 6 := by omega
      simp only [show decide ((((6 : Nat)) : Int) < 6) = false from rfl, go_sem, ↓reduceIte, zA, zB, zC, zD, zE, zF, reduceCtorEq, zG, zH, zI, zJ, zK, zL, zM, zN, zO, zP]
    simp only [decide_eq_true (show ((i : Nat) : Int) < 6 by omega), go_sem, ↓reduceIte, zA, zB, zC, zD, zE, zF, reduceCtorEq, zG, zH, zI, zJ, zK, zL, zM, zN, zO, zP]
    have hd := dbl i (by omega)
    have hr := lowR_rng of j.max i (by omega)
    have hpw := pow6 i (by omega)
    have hsum : IntKind.i64.wrap (lowR of j.max i + 2 ^ i) = lowR of j.max i + 2 ^ i := wrap_in (by omega) (by omega)
    have hst : lowR of j.max (i + 1) = if hasB of i = true ∧ many (lowR of j.max i) < j.max then lowR of j.max i + 2 ^ i else lowR of j.max i := rfl
    refine WD_calld (has9_tri of i (by omega)) rfl rfl rfl rfl ?_; simp only [go_sem, ↓reduceIte, zA, zB, zC, zD, zE, zF, reduceCtorEq, zG, zH, zI, zJ, zK, zL, zM, zN, zO, zP]
    cases hh : hasB of i with
    | false =>
      rw [if_neg (by rw [hh]; rintro ⟨h, _⟩; cases h)] at hst
      simp only [hd, go_sem, ↓reduceIte, zA, zB, zC, zD, zE, zF, reduceCtorEq, zG, zH, zI, zJ, zK, zL, zM, zN, zO, zP]
      refine W_lpI (i + 1) ?_ ?_ (by omega) (by omega)
      · simp only [go_sem, ↓reduceIte, zA, zB, zC, zD, zE, zF, reduceCtorEq, zG, zH, zI, zJ, zK, zL, zM, zN, zO, zP]
      · simp only [pk9L, boxS, boxJ, hst, wrap_succ (show i < 9223372036854775807 by omega), go_sem, ↓reduceIte, zA, zB, zC, zD, zE, zF, reduceCtorEq, zG, zH, zI, zJ, zK, zL, zM, zN, zO, zP]
    | true =>
      simp only [go_sem, ↓reduceIte, zA, zB, zC, zD, zE, zF, reduceCtorEq, zG, zH, zI, zJ, zK, zL, zM, zN, zO, zP]
      refine WD_calld (many9_tri (lowR of j.max i)) rfl rfl rfl rfl ?_; simp only [go_sem, ↓reduceIte, zA, zB, zC, zD, zE, zF, reduceCtorEq, zG, zH, zI, zJ, zK, zL, zM, zN, zO, zP]
      by_cases hlm : many (lowR of j.max i) < j.max
      · rw [if_pos ⟨hh, hlm⟩] at hst
        simp only [decide_eq_true hlm, hd, hsum, go_sem, ↓reduceIte, zA, zB, zC, zD, zE, zF, reduceCtorEq, zG, zH, zI, zJ, zK, zL, zM, zN, zO, zP]
        refine W_lpI (i + 1) ?_ ?_ (by omega) (by omega)
        · simp only [go_sem, ↓reduceIte, zA, zB, zC, zD, zE, zF, reduceCtorEq, zG, zH, zI, zJ, zK, zL, zM, zN, zO, zP]
        · simp only [pk9L, boxS, boxJ, hst, wrap_succ (show i < 9223372036854775807 by omega), go_sem, ↓reduceIte, zA, zB, zC, zD, zE, zF, reduceCtorEq, zG, zH, zI, zJ, zK, zL, zM, zN, zO, zP]
      · rw [if_neg (fun h => hlm h.2)] at hst
        simp only [decide_eq_false hlm, hd, go_sem, ↓reduceIte, zA, zB, zC, zD, zE, zF, reduceCtorEq, zG, zH, zI, zJ, zK, zL, zM, zN, zO, zP]
        refine W_lpI (i + 1) ?_ ?_ (by omega) (by omega)
        · simp only [go_sem, ↓reduceIte, zA, zB, zC, zD, zE, zF, reduceCtorEq, zG, zH, zI, zJ, zK, zL, zM, zN, zO, zP]
        · simp only [pk9L, boxS, boxJ, hst, wrap_succ (show i < 9223372036854775807 by omega), go_sem, ↓reduceIte, zA, zB, zC, zD, zE, zF, reduceCtorEq, zG, zH, zI, zJ, zK, zL, zM, zN, zO, zP]
end Dv
