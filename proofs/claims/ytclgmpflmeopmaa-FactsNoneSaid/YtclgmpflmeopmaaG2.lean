/- The facts' contracts: what a job's nodes tell, what a node tells, what is next. -/
import Derived.Test.YtclgmpflmeopmaaG1
set_option linter.unusedVariables false
set_option linter.unusedSimpArgs false
namespace Dv
open Go Go.Proofs
open Nat renaming reduceEqDiff → zA, reduceAdd → zB, reduceSub → zC, reduceMul → zD, reduceLT → zE, reduceLeDiff → zF
open Int renaming reduceLE → zG, reduceLT → zH, reduceToNat → zI, reduceBEq → zJ, reduceBNe → zK, reduceEq → zL, reduceAdd → zM, reduceSub → zN, reduceMul → zO, reduceNeg → zP
attribute [local go_sem] argEnv W_nil W_seq W_skip W_ret W_exit W_scope W_block W_blk W_reg W_regD W_cond WC_t WC_f WC_any Wx_c Wx_ops Wx_lp Wx_blk W_ops_nil W_opsD_q W_guard W_guardD WG_tt WG_ff WG_tf WG_ft WG_u WGD_tt WGD_ff WGD_tf WGD_ft WGD_u WE_some WED_some W_mv W_pick W_new W_box W_build W_bsl W_ld1 W_ldn W_st W_nck W_bin W_eqb W_not W_cvt W_fad W_fld1 W_fldn W_ixa W_ixr W_ix1 W_ixs W_len W_lens W_mkf W_ext W_app W_min W_isnp W_isns W_eqs W_neg W_ixn W_sli W_sls WD_mv WD_pick WD_new WD_box WD_build WD_bsl WD_ld1 WD_ldn WD_st WD_nck WD_bin WD_eqb WD_not WD_cvt WD_fad WD_fld1 WD_fldn WD_ixa WD_ixr WD_ix1 WD_ixs WD_len WD_lens WD_mkf WD_ext WD_app WD_min WD_isnp WD_isns WD_eqs WD_neg WD_ixn WD_sli WD_sls effF Opd.ev getE putE binV LV.int LV.bool LV.undef Go.undef LV.cells LV.toD LV.toDs splice fillL rowsOf srcRows updL objL Eff.owned nwp St.get St.obj St.put Value.oneCell' Ends adopt Ad.ap isNil St.keep St.okKeep okObj idl idlL idlO RVs.of RV.of oneOr Ends0 EndsO_iff frzs rn rnL rnO piOf eqCells eqV boundV Option.map_some Option.map_none List.append_nil List.nil_append List.cons_append List.map_nil List.map_cons List.length_nil List.length_cons List.set_cons_zero List.set_cons_succ List.take_succ_cons List.take_zero List.take_nil List.drop_succ_cons List.drop_zero List.drop_nil List.getElem?_cons_zero List.getElem?_cons_succ List.getElem?_nil List.isEmpty_nil List.isEmpty_cons List.all_cons List.all_nil List.isEmpty_nil cond_true cond_false Bool.true_and Bool.false_and Bool.and_true Bool.and_false Bool.not_true Bool.not_false Bool.or_true Bool.true_or Bool.or_false Bool.false_or true_and and_true true_or or_true Option.some.injEq LV.d.injEq DV.val.injEq Value.bool.injEq Value.int.injEq decide_true decide_false and_self Nat.zero_add Nat.add_zero if_true if_false Int.toNat_zero beq_self_eq_true Nat.zero_lt_succ Int.toNat_natCast Int.natCast_nonneg List.length_map i64 bl List.zip_cons_cons List.zip_nil_left List.zip_nil_right nwp confV stateV nodeV jobV nodesV jobsV opV msgV nodeR jobR opR msgR zeroOp zeroMsg msgsV
variable {G : Nat → Option (List DV)}

/-- facts.gang -/
def ir47 : Nat × C × List RV := (61,
(.seq (.reg [⟨(some 4), .box 33 (.t 0), none, []⟩,
 ⟨(some 5), .box 48 (.t 1), none, []⟩,
 ⟨(some 6), .box 3 (.t 2), none, []⟩,
 ⟨(some 8), .new 42 [(.val (.int .i64 0)), (.val (.int .i64 0)), (.val (.int .i64 0)), (.val (.int .i64 0)), (.val (.int .i64 0)), (.val (.int .i64 0)), (.val (.int .i64 0))], none, []⟩,
 ⟨(some 9), .mv (.c (.val (.bool false))), none, []⟩])
 (.seq (.reg [⟨(some 15), .fad 1 (.t 4), none, []⟩,
 ⟨(some 16), .ld1 (.t 15), none, []⟩,
 ⟨(some 17), .ld1 (.t 6), none, []⟩,
 ⟨(some 18), .bin .sub (.t 17) (.c (.val (.int .i64 1))), none, []⟩,
 ⟨(some 19), .ixa 12 (.t 16) (.t 18), none, []⟩,
 ⟨(some 20), .ldn 12 (.t 19), none, []⟩,
 ⟨(some 10), .new 47 [(.val (.int .i64 0)), (.val (.int .i64 0)), (.val (.int .i64 0)), (.val (.int .i64 0)), (.val (.int .i64 0)), (.val (.int .i64 0)), (.val (.int .i64 0)), (.val (.int .i64 0)), (.val (.int .i64 0)), (.val (.int .i64 0)), (.val (.int .i64 0)), (.val (.int .i64 0))], none, []⟩,
 ⟨none, .st 12 (.t 10) (.t 20), none, []⟩])
 (.seq (.reg [⟨(some 21), .mkf (.func 58) [] [(.t 4), (.t 5), (.t 6)], none, []⟩,
 ⟨(some 11), .new 80 [(.val .nilFunc)], none, []⟩,
 ⟨none, .st 1 (.t 11) (.t 21), none, []⟩])
 (.seq (.seq (.reg [⟨(some 22), .fad 6 (.t 10), none, []⟩,
 ⟨(some 23), .ld1 (.t 22), none, []⟩])
 (.block 0 (.seq (.reg [⟨(some 25), .bin .eql (.t 23) (.c (.val (.int .i64 1))), none, []⟩,
 ⟨(some 24), .mv (.t 25), none, []⟩])
 (.cond (.t 24) (.seq (.reg [⟨(some 26), .ldn 12 (.t 10), none, []⟩,
 ⟨(some 27), .mkf (.func 61) [] [(.t 11)], none, []⟩,
 ⟨(some 28), .call (.f 60) [(.t 26), (.t 27)], none, []⟩,
 ⟨(some 12), .mv (.t 28), none, []⟩])
 (.seq (.reg [⟨(some 29), .ld1 (.t 6), none, []⟩,
 ⟨(some 30), .mv (.t 3), none, []⟩,
 ⟨(some 31), .build [(.val (.int .i64 0)), (.val (.int .i64 0)), (.val (.int .i64 0)), (.val (.int .i64 0)), (.val (.int .i64 0)), (.val (.int .i64 0)), (.val (.int .i64 0))] [(0, 1, (.c (.val (.int .i64 10)))), (1, 1, (.t 29)), (2, 1, (.t 30))], none, []⟩,
 ⟨(some 32), .mv (.t 12), none, []⟩,
 ⟨none, .st 7 (.t 8) (.t 31), none, []⟩,
 ⟨(some 9), .mv (.t 32), none, []⟩])
 .ret))
 (.seq (.reg [⟨(some 34), .bin .eql (.t 23) (.c (.val (.int .i64 2))), none, []⟩,
 ⟨(some 33), .mv (.t 34), none, []⟩])
 (.cond (.t 33) (.seq (.reg [⟨(some 35), .ldn 12 (.t 10), none, []⟩,
 ⟨(some 36), .mkf (.func 62) [] [(.t 11), (.t 5), (.t 10)], none, []⟩,
 ⟨(some 37), .call (.f 60) [(.t 35), (.t 36)], none, []⟩,
 ⟨(some 13), .mv (.t 37), none, []⟩])
 (.seq (.reg [⟨(some 38), .ld1 (.t 6), none, []⟩,
 ⟨(some 39), .build [(.val (.int .i64 0)), (.val (.int .i64 0)), (.val (.int .i64 0)), (.val (.int .i64 0)), (.val (.int .i64 0)), (.val (.int .i64 0)), (.val (.int .i64 0))] [(0, 1, (.c (.val (.int .i64 15)))), (1, 1, (.t 38))], none, []⟩,
 ⟨(some 40), .mv (.t 13), none, []⟩,
 ⟨none, .st 7 (.t 8) (.t 39), none, []⟩,
 ⟨(some 9), .mv (.t 40), none, []⟩])
 .ret))
 (.seq (.reg [⟨(some 42), .bin .eql (.t 23) (.c (.val (.int .i64 3))), none, []⟩,
 ⟨(some 41), .mv (.t 42), none, []⟩])
 (.cond (.t 41) (.seq (.regD [⟨(some 43), .ldn 12 (.t 10), none, []⟩,
 ⟨(some 44), .ld1 (.t 11), none, []⟩,
 ⟨(some 45), .call (.t 44) [(.c (.val (.int .i64 3)))], none, [1]⟩,
 ⟨(some 46), .call (.f 60) [(.t 43), (.t 45)], none, [0, 2, 1]⟩,
 ⟨(some 14), .mv (.t 46), none, [3, 0, 2, 1]⟩])
 (.seq (.seq (.reg [⟨(some 47), .fad 11 (.t 10), none, []⟩,
 ⟨(some 48), .ld1 (.t 47), none, []⟩,
 ⟨(some 49), .fad 7 (.t 10), none, []⟩,
 ⟨(some 50), .ld1 (.t 49), none, []⟩,
 ⟨(some 51), .bin .lss (.t 48) (.t 50), none, []⟩])
 (.cond (.t 51) (.seq (.reg [⟨(some 52), .ld1 (.t 6), none, []⟩,
 ⟨(some 53), .fad 7 (.t 10), none, []⟩,
 ⟨(some 54), .ld1 (.t 53), none, []⟩,
 ⟨(some 55), .build [(.val (.int .i64 0)), (.val (.int .i64 0)), (.val (.int .i64 0)), (.val (.int .i64 0)), (.val (.int .i64 0)), (.val (.int .i64 0)), (.val (.int .i64 0))] [(0, 1, (.c (.val (.int .i64 13)))), (1, 1, (.t 52)), (2, 1, (.t 54))], none, []⟩,
 ⟨(some 56), .mv (.t 14), none, []⟩,
 ⟨none, .st 7 (.t 8) (.t 55), none, []⟩,
 ⟨(some 9), .mv (.t 56), none, []⟩])
 .ret)
 .skip))
 (.seq (.reg [⟨(some 57), .ld1 (.t 6), none, []⟩,
 ⟨(some 58), .build [(.val (.int .i64 0)), (.val (.int .i64 0)), (.val (.int .i64 0)), (.val (.int .i64 0)), (.val (.int .i64 0)), (.val (.int .i64 0)), (.val (.int .i64 0))] [(0, 1, (.c (.val (.int .i64 14)))), (1, 1, (.t 57))], none, []⟩,
 ⟨(some 59), .mv (.t 14), none, []⟩,
 ⟨none, .st 7 (.t 8) (.t 58), none, []⟩,
 ⟨(some 9), .mv (.t 59), none, []⟩])
 .ret)))
 .skip))))))))
 (.seq (.reg [⟨(some 60), .build [(.val (.int .i64 0)), (.val (.int .i64 0)), (.val (.int .i64 0)), (.val (.int .i64 0)), (.val (.int .i64 0)), (.val (.int .i64 0)), (.val (.int .i64 0))] [], none, []⟩,
 ⟨none, .st 7 (.t 8) (.t 60), none, []⟩,
 ⟨(some 9), .mv (.c (.val (.bool false))), none, []⟩])
 .ret))))),
[(.cn 8 7), (.t 9)])
theorem irOk47 : convFn Try.prog Try.f47 = some ir47 := by kernel_rfl
/-- facts.Gang -/
def ir31 : Nat × C × List RV := (30,
(.seq (.reg [⟨(some 3), .box 33 (.t 0), none, []⟩,
 ⟨(some 6), .new 42 [(.val (.int .i64 0)), (.val (.int .i64 0)), (.val (.int .i64 0)), (.val (.int .i64 0)), (.val (.int .i64 0)), (.val (.int .i64 0)), (.val (.int .i64 0))], none, []⟩,
 ⟨(some 7), .mv (.c (.val (.bool false))), none, []⟩])
 (.seq (.seq (.reg [⟨(some 10), .mv (.t 2), none, []⟩,
 ⟨(some 11), .bin .lss (.t 10) (.c (.val (.int .i64 1))), none, []⟩,
 ⟨(some 12), .mv (.t 11), none, []⟩,
 ⟨(some 13), .mv (.t 2), (some (12, false)), []⟩,
 ⟨(some 14), .fad 1 (.t 3), (some (12, false)), []⟩,
 ⟨(some 15), .ld1 (.t 14), (some (12, false)), []⟩,
 ⟨(some 16), .len (.t 15), (some (12, false)), []⟩,
 ⟨(some 17), .bin .gtr (.t 13) (.t 16), (some (12, false)), []⟩,
 ⟨(some 18), .pick (.t 12) (.c (.val (.bool true))) (.t 17), none, []⟩])
 (.cond (.t 18) (.seq (.reg [⟨(some 19), .build [(.val (.int .i64 0)), (.val (.int .i64 0)), (.val (.int .i64 0)), (.val (.int .i64 0)), (.val (.int .i64 0)), (.val (.int .i64 0)), (.val (.int .i64 0))] [], none, []⟩,
 ⟨none, .st 7 (.t 6) (.t 19), none, []⟩,
 ⟨(some 7), .mv (.c (.val (.bool false))), none, []⟩])
 .ret)
 .skip))
 (.seq (.seq (.reg [⟨(some 21), .ldn 6 (.t 3), none, []⟩,
 ⟨(some 22), .mv (.t 1), none, []⟩,
 ⟨(some 23), .mv (.t 2), none, []⟩,
 ⟨(some 24), .call (.f 47) [(.t 21), (.t 22), (.t 23), (.c (.val (.int .i64 0)))], none, []⟩,
 ⟨(some 20), .mv (.t 24), none, []⟩,
 ⟨(some 25), .ext (.t 20) 0, none, []⟩,
 ⟨(some 26), .ext (.t 20) 1, none, []⟩,
 ⟨(some 8), .new 42 [(.val (.int .i64 0)), (.val (.int .i64 0)), (.val (.int .i64 0)), (.val (.int .i64 0)), (.val (.int .i64 0)), (.val (.int .i64 0)), (.val (.int .i64 0))], none, []⟩,
 ⟨none, .st 7 (.t 8) (.t 25), none, []⟩,
 ⟨(some 9), .mv (.t 26), none, []⟩])
 (.seq (.reg [⟨(some 27), .mv (.t 9), none, []⟩])
 (.cond (.t 27) (.seq (.reg [⟨(some 28), .ldn 7 (.t 8), none, []⟩,
 ⟨none, .st 7 (.t 6) (.t 28), none, []⟩,
 ⟨(some 7), .mv (.c (.val (.bool true))), none, []⟩])
 .ret)
 .skip)))
 (.seq (.reg [⟨(some 29), .build [(.val (.int .i64 0)), (.val (.int .i64 0)), (.val (.int .i64 0)), (.val (.int .i64 0)), (.val (.int .i64 0)), (.val (.int .i64 0)), (.val (.int .i64 0))] [], none, []⟩,
 ⟨none, .st 7 (.t 6) (.t 29), none, []⟩,
 ⟨(some 7), .mv (.c (.val (.bool false))), none, []⟩])
 .ret)))),
[(.cn 6 7), (.t 7)])
theorem irOk31 : convFn Try.prog Try.f31 = some ir31 := by kernel_rfl
/-- facts.node -/
def ir46 : Nat × C × List RV := (55,
(.seq (.reg [⟨(some 3), .box 33 (.t 0), none, []⟩,
 ⟨(some 6), .new 42 [(.val (.int .i64 0)), (.val (.int .i64 0)), (.val (.int .i64 0)), (.val (.int .i64 0)), (.val (.int .i64 0)), (.val (.int .i64 0)), (.val (.int .i64 0))], none, []⟩,
 ⟨(some 7), .mv (.c (.val (.bool false))), none, []⟩])
 (.seq (.regD [⟨(some 10), .fad 0 (.t 3), none, []⟩,
 ⟨(some 11), .ld1 (.t 10), none, [0]⟩,
 ⟨(some 12), .mv (.t 2), none, []⟩,
 ⟨(some 13), .ixa 5 (.t 11) (.t 12), none, [1, 0, 2]⟩,
 ⟨(some 14), .ldn 5 (.t 13), none, [3, 1, 0, 2]⟩,
 ⟨(some 15), .mv (.t 1), none, []⟩,
 ⟨(some 16), .mv (.t 2), none, []⟩,
 ⟨(some 17), .call (.f 49) [(.t 15), (.t 16)], none, [5, 6]⟩,
 ⟨(some 8), .new 55 [(.val (.bool false)), (.val (.bool false)), (.val (.bool false)), (.val (.int .i64 0)), (.val (.int .i64 0))], none, []⟩,
 ⟨(some 9), .new 53 [(.val (.int .i64 0)), (.val (.int .i64 0)), (.val (.int .i64 0)), (.val (.int .i64 0)), (.val (.int .i64 0)), (.val (.int .i64 0)), (.val (.int .i64 0)), (.val (.int .i64 0)), (.val (.int .i64 0)), (.val (.int .i64 0)), (.val (.int .i64 0))], none, []⟩,
 ⟨none, .st 5 (.t 8) (.t 14), none, [8, 4, 3, 1, 0, 2, 7, 5, 6, 9]⟩,
 ⟨none, .st 11 (.t 9) (.t 17), none, [9, 7, 5, 6, 10, 8, 4, 3, 1, 0, 2]⟩])
 (.seq (.block 0 (.seq (.reg [⟨(some 19), .ldn 11 (.t 9), none, []⟩,
 ⟨(some 20), .call (.f 57) [(.t 19)], none, []⟩,
 ⟨(some 21), .not (.t 20), none, []⟩,
 ⟨(some 18), .mv (.t 21), none, []⟩])
 (.cond (.t 18) .skip
 (.seq (.reg [⟨(some 23), .fad 0 (.t 8), none, []⟩,
 ⟨(some 24), .ld1 (.t 23), none, []⟩,
 ⟨(some 25), .not (.t 24), none, []⟩,
 ⟨(some 26), .mv (.t 25), none, []⟩,
 ⟨(some 27), .fad 6 (.t 9), (some (26, true)), []⟩,
 ⟨(some 28), .ld1 (.t 27), (some (26, true)), []⟩,
 ⟨(some 29), .bin .geq (.t 28) (.c (.val (.int .i64 1))), (some (26, true)), []⟩,
 ⟨(some 30), .pick (.t 26) (.t 29) (.c (.val (.bool false))), none, []⟩,
 ⟨(some 31), .mv (.t 30), none, []⟩,
 ⟨(some 32), .fad 6 (.t 9), (some (31, true)), []⟩,
 ⟨(some 33), .ld1 (.t 32), (some (31, true)), []⟩,
 ⟨(some 34), .bin .leq (.t 33) (.c (.val (.int .i64 9))), (some (31, true)), []⟩,
 ⟨(some 35), .pick (.t 31) (.t 34) (.c (.val (.bool false))), none, []⟩,
 ⟨(some 22), .mv (.t 35), none, []⟩])
 (.cond (.t 22) (.seq (.reg [⟨(some 36), .mv (.t 2), none, []⟩,
 ⟨(some 37), .fad 6 (.t 9), none, []⟩,
 ⟨(some 38), .ld1 (.t 37), none, []⟩,
 ⟨(some 39), .build [(.val (.int .i64 0)), (.val (.int .i64 0)), (.val (.int .i64 0)), (.val (.int .i64 0)), (.val (.int .i64 0)), (.val (.int .i64 0)), (.val (.int .i64 0))] [(0, 1, (.c (.val (.int .i64 8)))), (1, 1, (.t 36)), (2, 1, (.t 38))], none, []⟩,
 ⟨none, .st 7 (.t 6) (.t 39), none, []⟩,
 ⟨(some 7), .mv (.c (.val (.bool true))), none, []⟩])
 .ret)
 (.seq (.regD [⟨(some 41), .fad 2 (.t 8), none, []⟩,
 ⟨(some 42), .ld1 (.t 41), none, [0]⟩,
 ⟨(some 43), .mv (.t 42), none, [1, 0]⟩,
 ⟨(some 44), .fad 6 (.t 9), (some (43, true)), [2, 1, 0]⟩,
 ⟨(some 45), .ld1 (.t 44), (some (43, true)), [3, 2, 1, 0]⟩,
 ⟨(some 46), .ldn 6 (.t 3), (some (43, true)), [2, 1, 0]⟩,
 ⟨(some 47), .call (.f 28) [(.t 46)], (some (43, true)), [5, 2, 1, 0]⟩,
 ⟨(some 48), .bin .eql (.t 45) (.t 47), (some (43, true)), [4, 3, 2, 1, 0, 6, 5]⟩,
 ⟨(some 49), .pick (.t 43) (.t 48) (.c (.val (.bool false))), none, [2, 1, 0, 7, 4, 3, 6, 5]⟩,
 ⟨(some 40), .mv (.t 49), none, [8, 2, 1, 0, 7, 4, 3, 6, 5]⟩])
 (.cond (.t 40) (.seq (.reg [⟨(some 50), .mv (.t 2), none, []⟩,
 ⟨(some 51), .fad 6 (.t 9), none, []⟩,
 ⟨(some 52), .ld1 (.t 51), none, []⟩,
 ⟨(some 53), .build [(.val (.int .i64 0)), (.val (.int .i64 0)), (.val (.int .i64 0)), (.val (.int .i64 0)), (.val (.int .i64 0)), (.val (.int .i64 0)), (.val (.int .i64 0))] [(0, 1, (.c (.val (.int .i64 19)))), (1, 1, (.t 50)), (2, 1, (.t 52))], none, []⟩,
 ⟨none, .st 7 (.t 6) (.t 53), none, []⟩,
 ⟨(some 7), .mv (.c (.val (.bool true))), none, []⟩])
 .ret)
 .skip)))))))
 (.seq (.reg [⟨(some 54), .build [(.val (.int .i64 0)), (.val (.int .i64 0)), (.val (.int .i64 0)), (.val (.int .i64 0)), (.val (.int .i64 0)), (.val (.int .i64 0)), (.val (.int .i64 0))] [], none, []⟩,
 ⟨none, .st 7 (.t 6) (.t 54), none, []⟩,
 ⟨(some 7), .mv (.c (.val (.bool false))), none, []⟩])
 .ret)))),
[(.cn 6 7), (.t 7)])
theorem irOk46 : convFn Try.prog Try.f46 = some ir46 := by kernel_rfl
/-- facts.Next -/
def ir29 : Nat × C × List RV := (63,
(.seq (.reg [⟨(some 3), .box 33 (.t 0), none, []⟩,
 ⟨(some 6), .new 42 [(.val (.int .i64 0)), (.val (.int .i64 0)), (.val (.int .i64 0)), (.val (.int .i64 0)), (.val (.int .i64 0)), (.val (.int .i64 0)), (.val (.int .i64 0))], none, []⟩,
 ⟨(some 7), .mv (.c (.val (.bool false))), none, []⟩])
 (.seq (.seq (.reg [⟨(some 17), .build [(.val (.bool false)), (.val (.bool false))] [(0, 1, (.c (.val (.bool false)))), (1, 1, (.c (.val (.bool true))))], none, []⟩,
 ⟨(some 18), .mv (.c (.val (.int .i64 0))), none, []⟩])
 (.block 0 (.loop (.seq (.reg [⟨(some 19), .bin .lss (.t 18) (.c (.val (.int .i64 2))), none, []⟩])
 (.seq (.cond (.t 19) .skip
 (.exit 0))
 (.seq (.block 1 (.seq (.reg [⟨(some 20), .ix1 2 (.t 17) (.t 18), none, []⟩,
 ⟨(some 9), .mv (.t 20), none, []⟩])
 (.seq (.reg [⟨(some 21), .fad 0 (.t 3), none, []⟩,
 ⟨(some 22), .ld1 (.t 21), none, []⟩,
 ⟨(some 23), .len (.t 22), none, []⟩,
 ⟨(some 24), .mv (.c (.val (.int .i64 0))), none, []⟩])
 (.block 2 (.loop (.seq (.reg [⟨(some 25), .bin .lss (.t 24) (.t 23), none, []⟩])
 (.seq (.cond (.t 25) .skip
 (.exit 2))
 (.seq (.block 3 (.seq (.reg [⟨(some 26), .mv (.t 24), none, []⟩,
 ⟨(some 27), .ixa 5 (.t 22) (.t 24), none, []⟩,
 ⟨(some 28), .ldn 5 (.t 27), none, []⟩,
 ⟨(some 11), .new 55 [(.val (.bool false)), (.val (.bool false)), (.val (.bool false)), (.val (.int .i64 0)), (.val (.int .i64 0))], none, []⟩,
 ⟨(some 10), .mv (.t 26), none, []⟩,
 ⟨none, .st 5 (.t 11) (.t 28), none, []⟩])
 (.seq (.seq (.reg [⟨(some 29), .fad 0 (.t 11), none, []⟩,
 ⟨(some 30), .ld1 (.t 29), none, []⟩,
 ⟨(some 31), .mv (.t 9), none, []⟩,
 ⟨(some 32), .eqb true (.t 30) (.t 31), none, []⟩])
 (.cond (.t 32) (.exit 3)
 .skip))
 (.seq (.reg [⟨(some 34), .ldn 6 (.t 3), none, []⟩,
 ⟨(some 35), .mv (.t 1), none, []⟩,
 ⟨(some 36), .mv (.t 10), none, []⟩,
 ⟨(some 37), .call (.f 46) [(.t 34), (.t 35), (.t 36)], none, []⟩,
 ⟨(some 33), .mv (.t 37), none, []⟩,
 ⟨(some 38), .ext (.t 33) 0, none, []⟩,
 ⟨(some 39), .ext (.t 33) 1, none, []⟩,
 ⟨(some 12), .new 42 [(.val (.int .i64 0)), (.val (.int .i64 0)), (.val (.int .i64 0)), (.val (.int .i64 0)), (.val (.int .i64 0)), (.val (.int .i64 0)), (.val (.int .i64 0))], none, []⟩,
 ⟨none, .st 7 (.t 12) (.t 38), none, []⟩,
 ⟨(some 13), .mv (.t 39), none, []⟩])
 (.seq (.reg [⟨(some 40), .mv (.t 13), none, []⟩])
 (.cond (.t 40) (.seq (.reg [⟨(some 41), .ldn 7 (.t 12), none, []⟩,
 ⟨none, .st 7 (.t 6) (.t 41), none, []⟩,
 ⟨(some 7), .mv (.c (.val (.bool true))), none, []⟩])
 .ret)
 .skip))))))
 (.reg [⟨(some 42), .bin .add (.t 24) (.c (.val (.int .i64 1))), none, []⟩,
 ⟨(some 24), .mv (.t 42), none, []⟩])))))))))
 (.reg [⟨(some 43), .bin .add (.t 18) (.c (.val (.int .i64 1))), none, []⟩,
 ⟨(some 18), .mv (.t 43), none, []⟩])))))))
 (.seq (.seq (.reg [⟨(some 44), .fad 1 (.t 3), none, []⟩,
 ⟨(some 45), .ld1 (.t 44), none, []⟩,
 ⟨(some 46), .len (.t 45), none, []⟩,
 ⟨(some 47), .mv (.c (.val (.int .i64 0))), none, []⟩])
 (.block 4 (.loop (.seq (.reg [⟨(some 48), .bin .lss (.t 47) (.t 46), none, []⟩])
 (.seq (.cond (.t 48) .skip
 (.exit 4))
 (.seq (.block 5 (.seq (.reg [⟨(some 49), .mv (.t 47), none, []⟩,
 ⟨(some 14), .mv (.t 49), none, []⟩])
 (.seq (.reg [⟨(some 51), .ldn 6 (.t 3), none, []⟩,
 ⟨(some 52), .mv (.t 1), none, []⟩,
 ⟨(some 53), .mv (.t 14), none, []⟩,
 ⟨(some 54), .bin .add (.t 53) (.c (.val (.int .i64 1))), none, []⟩,
 ⟨(some 55), .mv (.t 2), none, []⟩,
 ⟨(some 56), .call (.f 47) [(.t 51), (.t 52), (.t 54), (.t 55)], none, []⟩,
 ⟨(some 50), .mv (.t 56), none, []⟩,
 ⟨(some 57), .ext (.t 50) 0, none, []⟩,
 ⟨(some 58), .ext (.t 50) 1, none, []⟩,
 ⟨(some 15), .new 42 [(.val (.int .i64 0)), (.val (.int .i64 0)), (.val (.int .i64 0)), (.val (.int .i64 0)), (.val (.int .i64 0)), (.val (.int .i64 0)), (.val (.int .i64 0))], none, []⟩,
 ⟨none, .st 7 (.t 15) (.t 57), none, []⟩,
 ⟨(some 16), .mv (.t 58), none, []⟩])
 (.seq (.reg [⟨(some 59), .mv (.t 16), none, []⟩])
 (.cond (.t 59) (.seq (.reg [⟨(some 60), .ldn 7 (.t 15), none, []⟩,
 ⟨none, .st 7 (.t 6) (.t 60), none, []⟩,
 ⟨(some 7), .mv (.c (.val (.bool true))), none, []⟩])
 .ret)
 .skip)))))
 (.reg [⟨(some 61), .bin .add (.t 47) (.c (.val (.int .i64 1))), none, []⟩,
 ⟨(some 47), .mv (.t 61), none, []⟩])))))))
 (.seq (.reg [⟨(some 62), .build [(.val (.int .i64 0)), (.val (.int .i64 0)), (.val (.int .i64 0)), (.val (.int .i64 0)), (.val (.int .i64 0)), (.val (.int .i64 0)), (.val (.int .i64 0))] [], none, []⟩,
 ⟨none, .st 7 (.t 6) (.t 62), none, []⟩,
 ⟨(some 7), .mv (.c (.val (.bool false))), none, []⟩])
 .ret)))),
[(.cn 6 7), (.t 7)])
theorem irOk29 : convFn Try.prog Try.f29 = some ir29 := by kernel_rfl
/-- facts.Silent -/
def ir11 : Nat × C × List RV := (34,
(.seq (.reg [⟨(some 8), .mv (.c (.val (.int .i64 0))), none, []⟩])
 (.seq (.seq (.reg [⟨(some 10), .mv (.t 0), none, []⟩,
 ⟨(some 11), .len (.t 10), none, []⟩,
 ⟨(some 12), .mv (.t 1), none, []⟩,
 ⟨(some 13), .len (.t 12), none, []⟩,
 ⟨(some 14), .min (.t 11) (.t 13), none, []⟩,
 ⟨(some 15), .mv (.c (.val (.int .i64 0))), none, []⟩])
 (.block 0 (.loop (.seq (.reg [⟨(some 16), .bin .lss (.t 15) (.t 14), none, []⟩])
 (.seq (.cond (.t 16) .skip
 (.exit 0))
 (.seq (.block 1 (.seq (.reg [⟨(some 17), .mv (.t 15), none, []⟩,
 ⟨(some 9), .mv (.t 17), none, []⟩])
 (.seq (.reg [⟨(some 18), .mv (.t 0), none, []⟩,
 ⟨(some 19), .mv (.t 9), none, []⟩,
 ⟨(some 20), .ixa 1 (.t 18) (.t 19), none, []⟩,
 ⟨(some 21), .ld1 (.t 20), none, []⟩,
 ⟨(some 22), .mv (.t 21), none, []⟩,
 ⟨(some 23), .mv (.t 3), (some (22, true)), []⟩,
 ⟨(some 24), .mv (.t 1), (some (22, true)), []⟩,
 ⟨(some 25), .mv (.t 9), (some (22, true)), []⟩,
 ⟨(some 26), .ixa 1 (.t 24) (.t 25), (some (22, true)), []⟩,
 ⟨(some 27), .ld1 (.t 26), (some (22, true)), []⟩,
 ⟨(some 28), .mv (.t 2), (some (22, true)), []⟩,
 ⟨(some 29), .bin .add (.t 27) (.t 28), (some (22, true)), []⟩,
 ⟨(some 30), .bin .geq (.t 23) (.t 29), (some (22, true)), []⟩,
 ⟨(some 31), .pick (.t 22) (.t 30) (.c (.val (.bool false))), none, []⟩])
 (.cond (.t 31) (.seq (.reg [⟨(some 32), .mv (.t 9), none, []⟩,
 ⟨(some 8), .mv (.t 32), none, []⟩])
 .ret)
 .skip))))
 (.reg [⟨(some 33), .bin .add (.t 15) (.c (.val (.int .i64 1))), none, []⟩,
 ⟨(some 15), .mv (.t 33), none, []⟩])))))))
 (.seq (.reg [⟨(some 8), .mv (.c (.val (.int .i64 (-1)))), none, []⟩])
 .ret))),
[(.t 8)])
theorem irOk11 : convFn Try.prog Try.f11 = some ir11 := by kernel_rfl

attribute [local go_sem] stateB rB intB saysX jobB

theorem everyF_eq (m : Int) (tk : Nat → Bool) : everyF m (fun i => tk i.val) = everyB m tk := by
  simp only [everyF, everyB, bitsTo, show List.range 6 = [0, 1, 2, 3, 4, 5] from rfl, List.all_cons, List.all_nil, List.all_append]
  simp only [show (0 : Nat) < 6 from by decide, show (1 : Nat) < 6 from by decide, show (2 : Nat) < 6 from by decide, show (3 : Nat) < 6 from by decide, show (4 : Nat) < 6 from by decide, show (5 : Nat) < 6 from by decide, dite_true]
  cases hasB m 0 <;> cases hasB m 1 <;> cases hasB m 2 <;> cases hasB m 3 <;> cases hasB m 4 <;> cases hasB m 5 <;> (first | rfl | (simp only [Bool.and_true, Bool.true_and, Bool.false_or, Bool.not_true, Bool.not_false, Bool.true_or, List.all_cons, List.all_nil, Bool.and_assoc, if_true, Bool.false_eq_true, if_false, ite_true, ite_false] <;> rfl))
theorem every2_tri (j : JobD) (t : Nat) (first caps : List LV) (objs : List LObj) (tk : Nat → Bool) (hT : ∀ i : Nat, Tri Try.prog G t (first ++ [.int i] ++ caps) objs (.bool (tk i)) objs) :
    Tri Try.prog G 60 [jobV j, .fn (.func t) first caps] objs (.bool (everyB j.nodes tk)) objs := by
  rw [← everyF_eq]
  exact every_tri j t first caps objs (fun i => tk i.val) (fun i => hT i.val)

theorem gang_tri (s : StateD) (r : List MsgD) (job now : Int) (hl : s.jobs.length ≤ 1000) (h1 : 1 ≤ job) (h2 : job ≤ s.jobs.length) :
    Tri Try.prog G 47 [stateV s, msgsV r, .int job, .int now] [] (.tup [opV (gangT s r job now (s.jobs.getD (job - 1).toNat zeroJob)).1, .bool (gangT s r job now (s.jobs.getD (job - 1).toNat zeroJob)).2]) [] := by
  have hg := get_mapD (f := jobR) zeroJob (show (job - 1).toNat < s.jobs.length by omega)
  generalize s.jobs.getD (job - 1).toNat zeroJob = j at *
  have h4' : 0 ≤ job - 1 := by omega
  have hw : IntKind.i64.wrap (job - 1) = job - 1 := wrap_in (by omega) (by omega)
  have hold := every2_tri (G := G) j 61 [] [.ptr 3 0] [stateB s, rB r, intB job, saysX] _ (fun i => fHold_tri s r i job hl)
  have work := every2_tri (G := G) j 62 [] [.ptr 3 0, .ptr 1 0, .ptr 4 0] [stateB s, rB r, intB job, saysX, jobB j] _ (fun i => fWork_tri s r i job j hl)
  have kept := every2_tri (G := G) j 59 [] [.ptr 0 0, .ptr 1 0, .ptr 3 0, .ptr 2 0] [stateB s, rB r, intB job, intB 3] _ (fun i => says11_tri s r i 3 job hl)
  unfold gangT
  generalize everyB j.nodes (fun i => saysB s r i 1 job || saysB s r i 2 job) = e1 at *
  generalize everyB j.nodes (fun i => saysB s r i 2 job && decide (j.work ≤ (reportM r i).work)) = e2 at *
  generalize everyB j.nodes (fun i => saysB s r i 3 job) = e3 at *
  refine tri_W0 Try.func47 (by decide) irOk47 (Nat.le_of_ble_eq_true rfl) rfl ?_
  simp only [ir47, go_sem, ↓reduceIte, zA, zB, zC, zD, zE, zF, reduceCtorEq, zG, zH, zI, zJ, zK, zL, zM, zN, zO, zP]
  simp only [hw, hg, h4', go_sem, ↓reduceIte, zA, zB, zC, zD, zE, zF, reduceCtorEq, zG, zH, zI, zJ, zK, zL, zM, zN, zO, zP]
  cases hp1 : (j.phase == 1) with
  | true =>
    have hp1' : j.phase = 1 := by simpa using hp1
    rw [if_pos hp1']
    simp only [go_sem, ↓reduceIte, zA, zB, zC, zD, zE, zF, reduceCtorEq, zG, zH, zI, zJ, zK, zL, zM, zN, zO, zP]
    refine W_callo [0, 1, 2, 5] (hold) rfl (by simp only [argRs, argR, List.map_cons, List.map_nil, go_sem, ↓reduceIte, zA, zB, zC, zD, zE, zF, reduceCtorEq, zG, zH, zI, zJ, zK, zL, zM, zN, zO, zP]) (by decide) (by simp only [go_sem, ↓reduceIte, zA, zB, zC, zD, zE, zF, reduceCtorEq, zG, zH, zI, zJ, zK, zL, zM, zN, zO, zP]) (by simp only [go_sem, ↓reduceIte, zA, zB, zC, zD, zE, zF, reduceCtorEq, zG, zH, zI, zJ, zK, zL, zM, zN, zO, zP, List.all_cons, List.all_nil]) (by simp) ?_; simp only [go_sem, ↓reduceIte, zA, zB, zC, zD, zE, zF, reduceCtorEq, zG, zH, zI, zJ, zK, zL, zM, zN, zO, zP]
  | false =>
  have hp1' : ¬ j.phase = 1 := by simpa using hp1
  rw [if_neg hp1']
  simp only [go_sem, ↓reduceIte, zA, zB, zC, zD, zE, zF, reduceCtorEq, zG, zH, zI, zJ, zK, zL, zM, zN, zO, zP]
  cases hp2 : (j.phase == 2) with
  | true =>
    have hp2' : j.phase = 2 := by simpa using hp2
    rw [if_pos hp2']
    simp only [go_sem, ↓reduceIte, zA, zB, zC, zD, zE, zF, reduceCtorEq, zG, zH, zI, zJ, zK, zL, zM, zN, zO, zP]
    refine W_callo [0, 1, 2, 5, 4] (work) rfl (by simp only [argRs, argR, List.map_cons, List.map_nil, go_sem, ↓reduceIte, zA, zB, zC, zD, zE, zF, reduceCtorEq, zG, zH, zI, zJ, zK, zL, zM, zN, zO, zP]) (by decide) (by simp only [go_sem, ↓reduceIte, zA, zB, zC, zD, zE, zF, reduceCtorEq, zG, zH, zI, zJ, zK, zL, zM, zN, zO, zP]) (by simp only [go_sem, ↓reduceIte, zA, zB, zC, zD, zE, zF, reduceCtorEq, zG, zH, zI, zJ, zK, zL, zM, zN, zO, zP, List.all_cons, List.all_nil]) (by simp) ?_; simp only [go_sem, ↓reduceIte, zA, zB, zC, zD, zE, zF, reduceCtorEq, zG, zH, zI, zJ, zK, zL, zM, zN, zO, zP]
  | false =>
  have hp2' : ¬ j.phase = 2 := by simpa using hp2
  rw [if_neg hp2']
  simp only [go_sem, ↓reduceIte, zA, zB, zC, zD, zE, zF, reduceCtorEq, zG, zH, zI, zJ, zK, zL, zM, zN, zO, zP]
  cases hp3 : (j.phase == 3) with
  | true =>
    have hp3' : j.phase = 3 := by simpa using hp3
    rw [if_pos hp3']
    simp only [go_sem, ↓reduceIte, zA, zB, zC, zD, zE, zF, reduceCtorEq, zG, zH, zI, zJ, zK, zL, zM, zN, zO, zP]
    refine WD_callo [0, 1, 2] (says1_tri s r 3 job) rfl (by simp only [argRs, argR, List.map_cons, List.map_nil, go_sem, ↓reduceIte, zA, zB, zC, zD, zE, zF, reduceCtorEq, zG, zH, zI, zJ, zK, zL, zM, zN, zO, zP]) (by decide) (by simp only [go_sem, ↓reduceIte, zA, zB, zC, zD, zE, zF, reduceCtorEq, zG, zH, zI, zJ, zK, zL, zM, zN, zO, zP]) (by simp only [go_sem, ↓reduceIte, zA, zB, zC, zD, zE, zF, reduceCtorEq, zG, zH, zI, zJ, zK, zL, zM, zN, zO, zP, List.all_cons, List.all_nil]) (by simp) ?_; simp only [go_sem, ↓reduceIte, zA, zB, zC, zD, zE, zF, reduceCtorEq, zG, zH, zI, zJ, zK, zL, zM, zN, zO, zP]
    refine WD_callo [0, 1, 2, 6] (kept) rfl (by simp only [argRs, argR, List.map_cons, List.map_nil, go_sem, ↓reduceIte, zA, zB, zC, zD, zE, zF, reduceCtorEq, zG, zH, zI, zJ, zK, zL, zM, zN, zO, zP]) (by decide) (by simp only [go_sem, ↓reduceIte, zA, zB, zC, zD, zE, zF, reduceCtorEq, zG, zH, zI, zJ, zK, zL, zM, zN, zO, zP]) (by simp only [go_sem, ↓reduceIte, zA, zB, zC, zD, zE, zF, reduceCtorEq, zG, zH, zI, zJ, zK, zL, zM, zN, zO, zP, List.all_cons, List.all_nil]) (by simp) ?_; simp only [go_sem, ↓reduceIte, zA, zB, zC, zD, zE, zF, reduceCtorEq, zG, zH, zI, zJ, zK, zL, zM, zN, zO, zP]
    refine W_opsD_end (by decide) ?_
    simp only [go_sem, ↓reduceIte, zA, zB, zC, zD, zE, zF, reduceCtorEq, zG, zH, zI, zJ, zK, zL, zM, zN, zO, zP]
    cases he : decide (j.epoch < j.inc) with
    | true =>
      rw [if_pos (of_decide_eq_true he)]
      simp only [go_sem, ↓reduceIte, zA, zB, zC, zD, zE, zF, reduceCtorEq, zG, zH, zI, zJ, zK, zL, zM, zN, zO, zP]
    | false =>
      rw [if_neg (of_decide_eq_false he)]
      simp only [go_sem, ↓reduceIte, zA, zB, zC, zD, zE, zF, reduceCtorEq, zG, zH, zI, zJ, zK, zL, zM, zN, zO, zP]
  | false =>
  have hp3' : ¬ j.phase = 3 := by simpa using hp3
  rw [if_neg hp3']
  simp only [go_sem, ↓reduceIte, zA, zB, zC, zD, zE, zF, reduceCtorEq, zG, zH, zI, zJ, zK, zL, zM, zN, zO, zP]

def optM (o : Option OpD) : LV := .tup [opV (o.getD zeroOp), .bool o.isSome]
theorem someP_opt (p : OpD × Bool) : someP p = if p.2 = true then some p.1 else none := rfl

theorem Gang_tri (s : StateD) (r : List MsgD) (job : Int) (hl : s.jobs.length ≤ 1000) :
    Tri Try.prog G 31 [stateV s, msgsV r, .int job] [] (optM (gangO s r job 0)) [] := by
  have hT : 1 ≤ job → job ≤ s.jobs.length → _ := fun h1 h2 => gang_tri (G := G) s r job 0 hl h1 h2
  unfold gangO
  generalize gangT s r job 0 (s.jobs.getD (job - 1).toNat zeroJob) = p at *
  obtain ⟨⟨o1, o2, o3, o4, o5, o6, o7⟩, b⟩ := p
  refine tri_W0 Try.func31 (by decide) irOk31 (Nat.le_of_ble_eq_true rfl) rfl ?_
  simp only [ir31, go_sem, ↓reduceIte, zA, zB, zC, zD, zE, zF, reduceCtorEq, zG, zH, zI, zJ, zK, zL, zM, zN, zO, zP]
  cases h1 : decide (job < 1) with
  | true =>
    have h1' : job < 1 := of_decide_eq_true h1
    rw [if_pos (.inl h1')]
    simp only [go_sem, ↓reduceIte, zA, zB, zC, zD, zE, zF, reduceCtorEq, zG, zH, zI, zJ, zK, zL, zM, zN, zO, zP, optM, Option.getD_none, Option.isSome_none]
  | false =>
  have h1' : ¬ job < 1 := of_decide_eq_false h1
  simp only [go_sem, ↓reduceIte, zA, zB, zC, zD, zE, zF, reduceCtorEq, zG, zH, zI, zJ, zK, zL, zM, zN, zO, zP]
  cases h2 : decide (job > (s.jobs.length : Int)) with
  | true =>
    have h2' : (s.jobs.length : Int) < job := of_decide_eq_true h2
    rw [if_pos (.inr h2')]
    simp only [go_sem, ↓reduceIte, zA, zB, zC, zD, zE, zF, reduceCtorEq, zG, zH, zI, zJ, zK, zL, zM, zN, zO, zP, optM, Option.getD_none, Option.isSome_none]
  | false =>
  have h2' : ¬ (s.jobs.length : Int) < job := of_decide_eq_false h2
  rw [if_neg (by omega)]
  simp only [go_sem, ↓reduceIte, zA, zB, zC, zD, zE, zF, reduceCtorEq, zG, zH, zI, zJ, zK, zL, zM, zN, zO, zP]
  have hT := hT (by omega) (by omega)
  refine W_calld (hT) rfl rfl rfl rfl ?_; simp only [go_sem, ↓reduceIte, zA, zB, zC, zD, zE, zF, reduceCtorEq, zG, zH, zI, zJ, zK, zL, zM, zN, zO, zP]
  unfold someP
  cases b with
  | true => simp only [go_sem, ↓reduceIte, zA, zB, zC, zD, zE, zF, reduceCtorEq, zG, zH, zI, zJ, zK, zL, zM, zN, zO, zP, optM, Option.getD_some, Option.isSome_some]
  | false => simp only [Bool.false_eq_true, go_sem, ↓reduceIte, zA, zB, zC, zD, zE, zF, reduceCtorEq, zG, zH, zI, zJ, zK, zL, zM, zN, zO, zP, optM, Option.getD_none, Option.isSome_none]

theorem node_tri (s : StateD) (r : List MsgD) (k : Nat) (hk : k < s.nodes.length) :
    Tri Try.prog G 46 [stateV s, msgsV r, .int k] [] (optM (tellN s (reportM r k) (s.nodes.getD k zeroNode) k)) [] := by
  have hg := get_mapD (f := nodeR) zeroNode hk
  have hT := report_tri (G := G) r k
  generalize s.nodes.getD k zeroNode = n at *
  generalize reportM r k = m at *
  obtain ⟨up, co, mo, ve, jo⟩ := n
  have hM := meant_tri (G := G) s
  unfold tellN
  generalize meant s = ms at *
  refine tri_W0 Try.func46 (by decide) irOk46 (Nat.le_of_ble_eq_true rfl) rfl ?_
  simp only [ir46, go_sem, ↓reduceIte, zA, zB, zC, zD, zE, zF, reduceCtorEq, zG, zH, zI, zJ, zK, zL, zM, zN, zO, zP]
  simp only [hg, go_sem, ↓reduceIte, zA, zB, zC, zD, zE, zF, reduceCtorEq, zG, zH, zI, zJ, zK, zL, zM, zN, zO, zP]
  refine WD_calld (hT) rfl rfl rfl rfl ?_; simp only [go_sem, ↓reduceIte, zA, zB, zC, zD, zE, zF, reduceCtorEq, zG, zH, zI, zJ, zK, zL, zM, zN, zO, zP]
  refine W_opsD_end (by decide) ?_
  simp only [go_sem, ↓reduceIte, zA, zB, zC, zD, zE, zF, reduceCtorEq, zG, zH, zI, zJ, zK, zL, zM, zN, zO, zP]
  refine W_calld (idle_tri m) rfl rfl rfl rfl ?_; simp only [go_sem, ↓reduceIte, zA, zB, zC, zD, zE, zF, reduceCtorEq, zG, zH, zI, zJ, zK, zL, zM, zN, zO, zP]
  generalize idleB m = b at *
  cases b with
  | false => simp only [go_sem, ↓reduceIte, zA, zB, zC, zD, zE, zF, reduceCtorEq, zG, zH, zI, zJ, zK, zL, zM, zN, zO, zP, optM, Option.getD_none, Option.isSome_none]
  | true =>
  have e : ∀ A B : Option OpD, (if true = false then none else if up = false ∧ 1 ≤ m.version ∧ m.version ≤ 9 then A else if mo = true ∧ m.version = ms then B else none) = if (!up && decide (m.version ≥ 1) && decide (m.version ≤ 9)) = true then A else if (mo && (m.version == ms)) = true then B else none := fun A B => by
    simp only [Bool.and_eq_true, Bool.not_eq_true', decide_eq_true_eq, beq_iff_eq, and_assoc, ge_iff_le, Bool.true_eq_false, if_false]
  rw [e]
  cases up <;> cases h2 : decide (m.version ≥ 1) <;> cases h3 : decide (m.version ≤ 9) <;> cases mo <;> simp only [h2, h3, Bool.true_eq_false, Bool.false_eq_true, go_sem, ↓reduceIte, zA, zB, zC, zD, zE, zF, reduceCtorEq, zG, zH, zI, zJ, zK, zL, zM, zN, zO, zP, optM, Option.getD_none, Option.isSome_none, Option.getD_some, Option.isSome_some]
  all_goals
    refine WD_calld (hM) rfl rfl rfl rfl ?_; simp only [go_sem, ↓reduceIte, zA, zB, zC, zD, zE, zF, reduceCtorEq, zG, zH, zI, zJ, zK, zL, zM, zN, zO, zP]
    cases h4 : (m.version == ms) <;> simp only [h4, Bool.true_eq_false, Bool.false_eq_true, go_sem, ↓reduceIte, zA, zB, zC, zD, zE, zF, reduceCtorEq, zG, zH, zI, zJ, zK, zL, zM, zN, zO, zP, optM, Option.getD_none, Option.isSome_none, Option.getD_some, Option.isSome_some]

def silS (up : List Bool) (hs : List Int) (lease now : Int) (k : Nat) : St := ⟨[(0, .d (.lst 1 (up.map fun b => [bl b]))), (1, .d (.lst 1 (hs.map fun h => [i64 h]))), (2, .int lease), (3, .int now), (14, .int (min up.length hs.length : Nat)), (15, .int k)], []⟩
theorem silent_tri (up : List Bool) (hs : List Int) (lease now : Int) (hu : up.length ≤ 50) (hh : hs.length ≤ 50) (hl : 0 ≤ lease ∧ lease ≤ 1000000) (hT : ∀ h ∈ hs, 0 ≤ h ∧ h ≤ 1000000) :
    Tri Try.prog G 11 [.d (.lst 1 (up.map fun b => [bl b])), .d (.lst 1 (hs.map fun h => [i64 h])), .int lease, .int now] [] (.int (silentL lease now up hs 0)) [] := by
  refine tri_W0 Try.func11 (by decide) irOk11 (Nat.le_of_ble_eq_true rfl) rfl ?_
  simp only [ir11, go_sem, ↓reduceIte, zA, zB, zC, zD, zE, zF, reduceCtorEq, zG, zH, zI, zJ, zK, zL, zM, zN, zO, zP]
  generalize hr : silentL lease now up hs 0 = r
  have hm : (if (hs.length : Int) < (up.length : Int) then (hs.length : Int) else (up.length : Int)) = ((min up.length hs.length : Nat) : Int) := by split <;> omega
  refine W_loopI [0, 1, 2, 3, 14, 15] [] (fun k : Nat => k ≤ min up.length hs.length ∧ silentL lease now (up.drop k) (hs.drop k) k = r) (fun k => min up.length hs.length - k) (silS up hs lease now) 0 ?_ ⟨Nat.zero_le _, hr⟩ ?_
  · simp only [silS, go_sem, ↓reduceIte, zA, zB, zC, zD, zE, zF, reduceCtorEq, zG, zH, zI, zJ, zK, zL, zM, zN, zO, zP, hm, Int.natCast_zero]
  rintro k ⟨hk, hF⟩
  simp only [silS, go_sem, ↓reduceIte, zA, zB, zC, zD, zE, zF, reduceCtorEq, zG, zH, zI, zJ, zK, zL, zM, zN, zO, zP]
  refine WC_split (fun h => ?_) (fun h => ?_)
  · have h := lt_of_dec h
    have hk1 : k < up.length := by omega
    have hk2 : k < hs.length := by omega
    rw [List.drop_eq_getElem_cons hk1, List.drop_eq_getElem_cons hk2, silentL] at hF
    have hg1 := get_map (f := fun b : Bool => [bl b]) hk1
    have hg2 := get_map (f := fun h : Int => [i64 h]) hk2
    have hb := hT hs[k] (List.getElem_mem hk2)
    generalize up[k] = u at *
    generalize hs[k] = x at *
    have hw : IntKind.i64.wrap (x + lease) = x + lease := wrap_in (by omega) (by omega)
    simp only [hg1, hg2, go_sem, ↓reduceIte, zA, zB, zC, zD, zE, zF, reduceCtorEq, zG, zH, zI, zJ, zK, zL, zM, zN, zO, zP]
    cases u with
    | false =>
      simp only [Bool.false_eq_true, false_and, if_false] at hF
      simp only [go_sem, ↓reduceIte, zA, zB, zC, zD, zE, zF, reduceCtorEq, zG, zH, zI, zJ, zK, zL, zM, zN, zO, zP]
      refine W_lpI (k + 1) ?_ ?_ ⟨h, by rw [Int.natCast_add]; exact hF⟩ (by omega)
      · simp only [go_sem, ↓reduceIte, zA, zB, zC, zD, zE, zF, reduceCtorEq, zG, zH, zI, zJ, zK, zL, zM, zN, zO, zP]
      · simp only [silS, go_sem, ↓reduceIte, zA, zB, zC, zD, zE, zF, reduceCtorEq, zG, zH, zI, zJ, zK, zL, zM, zN, zO, zP, wrap_succ (show k < 9223372036854775807 by omega)]
    | true =>
      simp only [hw, hg2, go_sem, ↓reduceIte, zA, zB, zC, zD, zE, zF, reduceCtorEq, zG, zH, zI, zJ, zK, zL, zM, zN, zO, zP]
      cases h5 : decide (now ≥ x + lease) with
      | true =>
        have h5' : x + lease ≤ now := of_decide_eq_true h5
        rw [if_pos ⟨rfl, h5'⟩] at hF
        simp only [go_sem, ↓reduceIte, zA, zB, zC, zD, zE, zF, reduceCtorEq, zG, zH, zI, zJ, zK, zL, zM, zN, zO, zP, ← hF]
      | false =>
        have h5' : ¬ x + lease ≤ now := of_decide_eq_false h5
        rw [if_neg (fun h => h5' h.2)] at hF
        simp only [go_sem, ↓reduceIte, zA, zB, zC, zD, zE, zF, reduceCtorEq, zG, zH, zI, zJ, zK, zL, zM, zN, zO, zP]
        refine W_lpI (k + 1) ?_ ?_ ⟨h, by rw [Int.natCast_add]; exact hF⟩ (by omega)
        · simp only [go_sem, ↓reduceIte, zA, zB, zC, zD, zE, zF, reduceCtorEq, zG, zH, zI, zJ, zK, zL, zM, zN, zO, zP]
        · simp only [silS, go_sem, ↓reduceIte, zA, zB, zC, zD, zE, zF, reduceCtorEq, zG, zH, zI, zJ, zK, zL, zM, zN, zO, zP, wrap_succ (show k < 9223372036854775807 by omega)]
  · have hk2 := eq_of_dec h hk
    have : silentL lease now (up.drop k) (hs.drop k) k = -1 := by
      rcases (by omega : up.length ≤ k ∨ hs.length ≤ k) with h | h
      · rw [List.drop_eq_nil_of_le h]; rfl
      · rw [List.drop_eq_nil_of_le h]; cases List.drop k up <;> rfl
    rw [this] at hF
    simp only [go_sem, ↓reduceIte, zA, zB, zC, zD, zE, zF, reduceCtorEq, zG, zH, zI, zJ, zK, zL, zM, zN, zO, zP, ← hF]

def restF (s : StateD) (r : List MsgD) (now : Int) : Nat → Option OpD
  | 0 => match tellU s r false s.nodes 0 with
    | some o => some o
    | none => match tellU s r true s.nodes 0 with
      | some o => some o
      | none => tellG s r now s.jobs 0
  | 1 => match tellU s r true s.nodes 0 with
    | some o => some o
    | none => tellG s r now s.jobs 0
  | _ => tellG s r now s.jobs 0
def upT : Nat → Bool
  | 0 => false
  | _ => true
theorem restF_eq (s : StateD) (r : List MsgD) (now : Int) (i : Nat) (hi : i < 2) : restF s r now i = match tellU s r (upT i) s.nodes 0 with | some o => some o | none => restF s r now (i + 1) := by
  match i, hi with
  | 0, _ => rfl
  | 1, _ => rfl
theorem upT_get (i : Nat) (hi : i < 2) : ([.bool false, .bool true] : List LV)[i]? = some (.bool (upT i)) := by
  match i, hi with
  | 0, _ => rfl
  | 1, _ => rfl
def nextO3 (s : StateD) : List (Option LObj) := [some (stateB s), some (.box 42 [.int 0, .int 0, .int 0, .int 0, .int 0, .int 0, .int 0])]
def nextA (s : StateD) (r : List MsgD) (now : Int) (i : Nat) : St := ⟨[(1, msgsV r), (2, .int now), (3, .ptr 0 0), (6, .ptr 1 0), (7, .bool false), (17, .agg [.bool false, .bool true]), (18, .int i)], nextO3 s⟩
def nextB (s : StateD) (r : List MsgD) (now : Int) (i k : Nat) : St := ⟨[(1, msgsV r), (2, .int now), (3, .ptr 0 0), (6, .ptr 1 0), (7, .bool false), (9, .bool (upT i)), (17, .agg [.bool false, .bool true]), (18, .int i), (22, nodesV s.nodes), (23, .int s.nodes.length), (24, .int k)], nextO3 s⟩
def nextC (s : StateD) (r : List MsgD) (now : Int) (k : Nat) : St := ⟨[(1, msgsV r), (2, .int now), (3, .ptr 0 0), (6, .ptr 1 0), (7, .bool false), (46, .int s.jobs.length), (47, .int k)], nextO3 s⟩

theorem factsNext_tri (s : StateD) (r : List MsgD) (now : Int) (hn : s.nodes.length ≤ 1000) (hl : s.jobs.length ≤ 1000) : Tri Try.prog G 29 [stateV s, msgsV r, .int now] [] (optM (factsF s r now)) [] := by
  rw [show factsF s r now = restF s r now 0 from rfl]
  generalize hr : restF s r now 0 = q
  refine tri_W0 Try.func29 (by decide) irOk29 (Nat.le_of_ble_eq_true rfl) rfl ?_
  simp only [ir29, go_sem, ↓reduceIte, zA, zB, zC, zD, zE, zF, reduceCtorEq, zG, zH, zI, zJ, zK, zL, zM, zN, zO, zP]
  refine W_loopI [1, 2, 3, 6, 7, 17, 18] [] (fun i : Nat => i ≤ 2 ∧ restF s r now i = q) (fun i => 2 - i) (nextA s r now) 0 ?_ ⟨by omega, hr⟩ ?_
  · simp only [nextA, nextO3, go_sem, ↓reduceIte, zA, zB, zC, zD, zE, zF, reduceCtorEq, zG, zH, zI, zJ, zK, zL, zM, zN, zO, zP, Int.natCast_zero]
  clear hr
  rintro i ⟨hi, hr⟩
  simp only [nextA, nextO3, go_sem, ↓reduceIte, zA, zB, zC, zD, zE, zF, reduceCtorEq, zG, zH, zI, zJ, zK, zL, zM, zN, zO, zP]
  cases hlt : decide ((i : Int) < 2) with
  | false =>
    have h3 : i = 2 := by have := of_decide_eq_false hlt; omega
    subst h3
    simp only [restF] at hr
    simp only [go_sem, ↓reduceIte, zA, zB, zC, zD, zE, zF, reduceCtorEq, zG, zH, zI, zJ, zK, zL, zM, zN, zO, zP]
    refine W_loopI [1, 2, 3, 6, 7, 46, 47] [] (fun k : Nat => k ≤ s.jobs.length ∧ tellG s r now (s.jobs.drop k) k = q) (fun k => s.jobs.length - k) (nextC s r now) 0 ?_ ⟨Nat.zero_le _, hr⟩ ?_
    · simp only [nextC, nextO3, go_sem, ↓reduceIte, zA, zB, zC, zD, zE, zF, reduceCtorEq, zG, zH, zI, zJ, zK, zL, zM, zN, zO, zP, Int.natCast_zero]
    clear hr
    rintro k ⟨hk, hF⟩
    simp only [nextC, nextO3, go_sem, ↓reduceIte, zA, zB, zC, zD, zE, zF, reduceCtorEq, zG, zH, zI, zJ, zK, zL, zM, zN, zO, zP]
    refine WC_split (fun h => ?_) (fun h => ?_)
    · have h := lt_of_dec h
      rw [List.drop_eq_getElem_cons h, tellG] at hF
      have hT := gang_tri (G := G) s r ((k + 1 : Nat) : Int) now hl (by omega) (by omega)
      rw [show (((k + 1 : Nat) : Int) - 1).toNat = k by omega, show s.jobs.getD k zeroJob = s.jobs[k] by simp [List.getD, h]] at hT
      rw [show (k : Int) + 1 = ((k + 1 : Nat) : Int) from rfl] at hF
      generalize gangT s r ((k + 1 : Nat) : Int) now s.jobs[k] = p at *
      obtain ⟨⟨o1, o2, o3, o4, o5, o6, o7⟩, b⟩ := p
      unfold someP at hF
      simp only [wrap_succ (show k < 9223372036854775807 by omega), go_sem, ↓reduceIte, zA, zB, zC, zD, zE, zF, reduceCtorEq, zG, zH, zI, zJ, zK, zL, zM, zN, zO, zP]
      refine W_calld (hT) rfl rfl rfl rfl ?_; simp only [go_sem, ↓reduceIte, zA, zB, zC, zD, zE, zF, reduceCtorEq, zG, zH, zI, zJ, zK, zL, zM, zN, zO, zP]
      cases b with
      | true =>
        simp only [if_true] at hF
        subst hF
        simp only [go_sem, ↓reduceIte, zA, zB, zC, zD, zE, zF, reduceCtorEq, zG, zH, zI, zJ, zK, zL, zM, zN, zO, zP, optM, Option.getD_some, Option.isSome_some]
      | false =>
        simp only [Bool.false_eq_true, if_false] at hF
        simp only [go_sem, ↓reduceIte, zA, zB, zC, zD, zE, zF, reduceCtorEq, zG, zH, zI, zJ, zK, zL, zM, zN, zO, zP]
        refine W_lpI (k + 1) ?_ ?_ ⟨h, hF⟩ (by omega)
        · simp only [go_sem, ↓reduceIte, zA, zB, zC, zD, zE, zF, reduceCtorEq, zG, zH, zI, zJ, zK, zL, zM, zN, zO, zP]
        · simp only [nextC, nextO3, go_sem, ↓reduceIte, zA, zB, zC, zD, zE, zF, reduceCtorEq, zG, zH, zI, zJ, zK, zL, zM, zN, zO, zP, wrap_succ (show k < 9223372036854775807 by omega)]
    · obtain rfl := eq_of_dec h hk
      rw [List.drop_length, tellG] at hF
      subst hF
      simp only [go_sem, ↓reduceIte, zA, zB, zC, zD, zE, zF, reduceCtorEq, zG, zH, zI, zJ, zK, zL, zM, zN, zO, zP, optM, Option.getD_none, Option.isSome_none]
  | true =>
  have h3 : i < 2 := by have := of_decide_eq_true hlt; omega
  rw [restF_eq s r now i h3] at hr
  have hg := upT_get i h3
  simp only [go_sem, ↓reduceIte, zA, zB, zC, zD, zE, zF, reduceCtorEq, zG, zH, zI, zJ, zK, zL, zM, zN, zO, zP] at hg
  simp only [go_sem, ↓reduceIte, zA, zB, zC, zD, zE, zF, reduceCtorEq, zG, zH, zI, zJ, zK, zL, zM, zN, zO, zP, hg, h3]
  generalize hF0 : tellU s r (upT i) s.nodes 0 = q2 at hr
  refine W_loopI [1, 2, 3, 6, 7, 9, 17, 18, 22, 23, 24] [] (fun k : Nat => k ≤ s.nodes.length ∧ tellU s r (upT i) (s.nodes.drop k) k = q2) (fun k => s.nodes.length - k) (nextB s r now i) 0 ?_ ⟨Nat.zero_le _, hF0⟩ ?_
  · simp only [nextB, nextO3, go_sem, ↓reduceIte, zA, zB, zC, zD, zE, zF, reduceCtorEq, zG, zH, zI, zJ, zK, zL, zM, zN, zO, zP, Int.natCast_zero]
  clear hF0
  rintro k ⟨hk, hF⟩
  simp only [nextB, nextO3, go_sem, ↓reduceIte, zA, zB, zC, zD, zE, zF, reduceCtorEq, zG, zH, zI, zJ, zK, zL, zM, zN, zO, zP]
  refine WC_split (fun h => ?_) (fun h => ?_)
  · have h := lt_of_dec h
    rw [List.drop_eq_getElem_cons h, tellU] at hF
    have hT := node_tri (G := G) s r k h
    rw [show s.nodes.getD k zeroNode = s.nodes[k] by simp [List.getD, h]] at hT
    have hg := get_map (f := nodeR) h
    generalize tellN s (reportM r k) s.nodes[k] k = p at *
    generalize s.nodes[k] = n at *
    obtain ⟨up, co, mo, ve, jo⟩ := n
    simp only [hg, go_sem, ↓reduceIte, zA, zB, zC, zD, zE, zF, reduceCtorEq, zG, zH, zI, zJ, zK, zL, zM, zN, zO, zP]
    cases hu : (up == upT i) with
    | false =>
      have hu' : ¬ up = upT i := by simpa using hu
      rw [if_neg hu'] at hF
      simp only [go_sem, ↓reduceIte, zA, zB, zC, zD, zE, zF, reduceCtorEq, zG, zH, zI, zJ, zK, zL, zM, zN, zO, zP]
      refine W_lpI (k + 1) ?_ ?_ ⟨h, hF⟩ (by omega)
      · simp only [go_sem, ↓reduceIte, zA, zB, zC, zD, zE, zF, reduceCtorEq, zG, zH, zI, zJ, zK, zL, zM, zN, zO, zP]
      · simp only [nextB, nextO3, go_sem, ↓reduceIte, zA, zB, zC, zD, zE, zF, reduceCtorEq, zG, zH, zI, zJ, zK, zL, zM, zN, zO, zP, wrap_succ (show k < 9223372036854775807 by omega)]
    | true =>
    have hu' : up = upT i := by simpa using hu
    rw [if_pos hu'] at hF
    simp only [go_sem, ↓reduceIte, zA, zB, zC, zD, zE, zF, reduceCtorEq, zG, zH, zI, zJ, zK, zL, zM, zN, zO, zP]
    cases p with
    | none =>
      replace hF : tellU s r (upT i) (List.drop (k + 1) s.nodes) (k + 1) = q2 := hF
      replace hT : Tri Try.prog G 46 [stateV s, msgsV r, .int k] [] (.tup [opV zeroOp, .bool false]) [] := hT
      refine W_calld (hT) rfl rfl rfl rfl ?_; simp only [go_sem, ↓reduceIte, zA, zB, zC, zD, zE, zF, reduceCtorEq, zG, zH, zI, zJ, zK, zL, zM, zN, zO, zP]
      refine W_lpI (k + 1) ?_ ?_ ⟨h, hF⟩ (by omega)
      · simp only [go_sem, ↓reduceIte, zA, zB, zC, zD, zE, zF, reduceCtorEq, zG, zH, zI, zJ, zK, zL, zM, zN, zO, zP]
      · simp only [nextB, nextO3, go_sem, ↓reduceIte, zA, zB, zC, zD, zE, zF, reduceCtorEq, zG, zH, zI, zJ, zK, zL, zM, zN, zO, zP, wrap_succ (show k < 9223372036854775807 by omega)]
    | some o =>
      replace hF : some o = q2 := hF
      subst hF
      replace hr : some o = q := hr
      subst hr
      replace hT : Tri Try.prog G 46 [stateV s, msgsV r, .int k] [] (.tup [opV o, .bool true]) [] := hT
      obtain ⟨o1, o2, o3, o4, o5, o6, o7⟩ := o
      refine W_calld (hT) rfl rfl rfl rfl ?_; simp only [go_sem, ↓reduceIte, zA, zB, zC, zD, zE, zF, reduceCtorEq, zG, zH, zI, zJ, zK, zL, zM, zN, zO, zP]
      simp only [go_sem, ↓reduceIte, zA, zB, zC, zD, zE, zF, reduceCtorEq, zG, zH, zI, zJ, zK, zL, zM, zN, zO, zP, optM, Option.getD_some, Option.isSome_some]
  · obtain rfl := eq_of_dec h hk
    rw [List.drop_length, tellU] at hF
    subst hF
    simp only [go_sem, ↓reduceIte, zA, zB, zC, zD, zE, zF, reduceCtorEq, zG, zH, zI, zJ, zK, zL, zM, zN, zO, zP]
    refine W_lpI (i + 1) ?_ ?_ ⟨h3, hr⟩ (by omega)
    · simp only [go_sem, ↓reduceIte, zA, zB, zC, zD, zE, zF, reduceCtorEq, zG, zH, zI, zJ, zK, zL, zM, zN, zO, zP]
    · simp only [nextA, nextO3, go_sem, ↓reduceIte, zA, zB, zC, zD, zE, zF, reduceCtorEq, zG, zH, zI, zJ, zK, zL, zM, zN, zO, zP, wrap_succ (show i < 9223372036854775807 by omega)]
end Dv
