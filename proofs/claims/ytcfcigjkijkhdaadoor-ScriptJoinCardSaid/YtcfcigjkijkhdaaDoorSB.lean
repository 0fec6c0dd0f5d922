/- The logical machine and its plain laws: parts S1, S2, proved sound. -/
import Derived.Test.YtcfcigjkijkhdaaDoorO9
set_option linter.unusedVariables false
set_option linter.unusedSimpArgs false
namespace Dv
open Go Go.Proofs
open Nat renaming reduceEqDiff → zA, reduceAdd → zB, reduceSub → zC, reduceMul → zD, reduceLT → zE, reduceLeDiff → zF
open Int renaming reduceLE → zG, reduceLT → zH, reduceToNat → zI, reduceBEq → zJ, reduceBNe → zK, reduceEq → zL, reduceAdd → zM, reduceSub → zN, reduceMul → zO, reduceNeg → zP
attribute [local go_sem] argEnv W_nil W_seq W_skip W_ret W_exit W_scope W_block W_blk W_reg W_regD W_cond WC_t WC_f WC_any Wx_c Wx_ops Wx_lp Wx_blk W_ops_nil W_opsD_q W_guard W_guardD WG_tt WG_ff WG_tf WG_ft WG_u WGD_tt WGD_ff WGD_tf WGD_ft WGD_u WE_some WED_some W_more W_mv W_pick W_new W_box W_build W_bsl W_ld1 W_ldn W_st W_nck W_bin W_eqb W_not W_cvt W_fad W_fld1 W_fldn W_ixa W_ixr W_ix1 W_ixs W_len W_lens W_mkf W_ext W_app W_min W_isnp W_isns W_eqs W_neg W_ixn W_sli W_sls WD_more WD_mv WD_pick WD_new WD_box WD_build WD_bsl WD_ld1 WD_ldn WD_st WD_nck WD_bin WD_eqb WD_not WD_cvt WD_fad WD_fld1 WD_fldn WD_ixa WD_ixr WD_ix1 WD_ixs WD_len WD_lens WD_mkf WD_ext WD_app WD_min WD_isnp WD_isns WD_eqs WD_neg WD_ixn WD_sli WD_sls effF effM bytesOf Opd.ev getE putE binV LV.int LV.bool LV.undef Go.undef LV.cells LV.toD LV.toDs splice fillL rowsOf boxOf srcRows updL objL Eff.owned nwp St.get St.obj St.put Value.oneCell' Ends adopt Ad.ap isNil St.keep St.okKeep okObj idl idlL idlO RVs.of RV.of oneOr Ends0 EndsO_iff frzs rn rnL rnO piOf eqCells eqV boundV Option.map_some Option.map_none List.append_nil List.nil_append List.cons_append List.map_nil List.map_cons List.length_nil List.length_cons List.set_cons_zero List.set_cons_succ List.take_succ_cons List.take_zero List.take_nil List.drop_succ_cons List.drop_zero List.drop_nil List.getElem?_cons_zero List.getElem?_cons_succ List.getElem?_nil List.isEmpty_nil List.isEmpty_cons List.all_cons List.all_nil List.isEmpty_nil cond_true cond_false Bool.true_and Bool.false_and Bool.and_true Bool.and_false Bool.not_true Bool.not_false Bool.or_true Bool.true_or Bool.or_false Bool.false_or true_and and_true true_or or_true Option.some.injEq LV.d.injEq DV.val.injEq Value.bool.injEq Value.int.injEq decide_true decide_false and_self Nat.zero_add Nat.add_zero if_true if_false Int.toNat_zero beq_self_eq_true Nat.zero_lt_succ Int.toNat_natCast Int.natCast_nonneg List.length_map i64 bl List.zip_cons_cons List.zip_nil_left List.zip_nil_right nwp confV stateV nodeV jobV nodesV jobsV opV msgV nodeR jobR opR msgR zeroOp zeroMsg msgsV
variable {G : Nat → Option (List DV)}

/-- script.kinds -/
def ir21 : Nat × C × List RV := (16,
(.seq (.reg [⟨(some 0), .new 45 [(.val (.string ⟨#[]⟩)), (.val (.int .i64 0)), (.val (.bool false)), (.val (.string ⟨#[]⟩)), (.val (.int .i64 0)), (.val (.bool false)), (.val (.string ⟨#[]⟩)), (.val (.int .i64 0)), (.val (.bool false)), (.val (.string ⟨#[]⟩)), (.val (.int .i64 0)), (.val (.bool false)), (.val (.string ⟨#[]⟩)), (.val (.int .i64 0)), (.val (.bool false)), (.val (.string ⟨#[]⟩)), (.val (.int .i64 0)), (.val (.bool false)), (.val (.string ⟨#[]⟩)), (.val (.int .i64 0)), (.val (.bool false)), (.val (.string ⟨#[]⟩)), (.val (.int .i64 0)), (.val (.bool false)), (.val (.string ⟨#[]⟩)), (.val (.int .i64 0)), (.val (.bool false)), (.val (.string ⟨#[]⟩)), (.val (.int .i64 0)), (.val (.bool false)), (.val (.string ⟨#[]⟩)), (.val (.int .i64 0)), (.val (.bool false)), (.val (.string ⟨#[]⟩)), (.val (.int .i64 0)), (.val (.bool false)), (.val (.string ⟨#[]⟩)), (.val (.int .i64 0)), (.val (.bool false)), (.val (.string ⟨#[]⟩)), (.val (.int .i64 0)), (.val (.bool false)), (.val (.string ⟨#[]⟩)), (.val (.int .i64 0)), (.val (.bool false))], none, []⟩])
 (.seq (.reg [⟨(some 1), .build [(.val (.string ⟨#[]⟩)), (.val (.int .i64 0)), (.val (.bool false))] [(0, 1, (.c (.val (.string ⟨#[116, 105, 99, 107]⟩)))), (1, 1, (.c (.val (.int .i64 0)))), (2, 1, (.c (.val (.bool false))))], none, []⟩,
 ⟨(some 2), .build [(.val (.string ⟨#[]⟩)), (.val (.int .i64 0)), (.val (.bool false))] [(0, 1, (.c (.val (.string ⟨#[99, 111, 110, 116, 114, 111, 108]⟩)))), (1, 1, (.c (.val (.int .i64 0)))), (2, 1, (.c (.val (.bool false))))], none, []⟩,
 ⟨(some 3), .build [(.val (.string ⟨#[]⟩)), (.val (.int .i64 0)), (.val (.bool false))] [(0, 1, (.c (.val (.string ⟨#[97, 99, 116, 115]⟩)))), (1, 1, (.c (.val (.int .i64 1)))), (2, 1, (.c (.val (.bool false))))], none, []⟩,
 ⟨(some 4), .build [(.val (.string ⟨#[]⟩)), (.val (.int .i64 0)), (.val (.bool false))] [(0, 1, (.c (.val (.string ⟨#[116, 101, 108, 108, 115]⟩)))), (1, 1, (.c (.val (.int .i64 1)))), (2, 1, (.c (.val (.bool false))))], none, []⟩,
 ⟨(some 5), .build [(.val (.string ⟨#[]⟩)), (.val (.int .i64 0)), (.val (.bool false))] [(0, 1, (.c (.val (.string ⟨#[100, 101, 108, 105, 118, 101, 114]⟩)))), (1, 1, (.c (.val (.int .i64 1)))), (2, 1, (.c (.val (.bool false))))], none, []⟩,
 ⟨(some 6), .build [(.val (.string ⟨#[]⟩)), (.val (.int .i64 0)), (.val (.bool false))] [(0, 1, (.c (.val (.string ⟨#[100, 114, 111, 112]⟩)))), (1, 1, (.c (.val (.int .i64 1)))), (2, 1, (.c (.val (.bool false))))], none, []⟩,
 ⟨(some 7), .build [(.val (.string ⟨#[]⟩)), (.val (.int .i64 0)), (.val (.bool false))] [(0, 1, (.c (.val (.string ⟨#[116, 119, 105, 99, 101]⟩)))), (1, 1, (.c (.val (.int .i64 1)))), (2, 1, (.c (.val (.bool false))))], none, []⟩,
 ⟨(some 8), .build [(.val (.string ⟨#[]⟩)), (.val (.int .i64 0)), (.val (.bool false))] [(0, 1, (.c (.val (.string ⟨#[102, 108, 105, 112]⟩)))), (1, 1, (.c (.val (.int .i64 2)))), (2, 1, (.c (.val (.bool false))))], none, []⟩,
 ⟨(some 9), .build [(.val (.string ⟨#[]⟩)), (.val (.int .i64 0)), (.val (.bool false))] [(0, 1, (.c (.val (.string ⟨#[102, 97, 105, 108]⟩)))), (1, 1, (.c (.val (.int .i64 1)))), (2, 1, (.c (.val (.bool false))))], none, []⟩,
 ⟨(some 10), .build [(.val (.string ⟨#[]⟩)), (.val (.int .i64 0)), (.val (.bool false))] [(0, 1, (.c (.val (.string ⟨#[98, 97, 99, 107]⟩)))), (1, 1, (.c (.val (.int .i64 1)))), (2, 1, (.c (.val (.bool false))))], none, []⟩,
 ⟨(some 11), .build [(.val (.string ⟨#[]⟩)), (.val (.int .i64 0)), (.val (.bool false))] [(0, 1, (.c (.val (.string ⟨#[97, 115, 107]⟩)))), (1, 1, (.c (.val (.int .i64 0)))), (2, 1, (.c (.val (.bool true))))], none, []⟩,
 ⟨(some 12), .build [(.val (.string ⟨#[]⟩)), (.val (.int .i64 0)), (.val (.bool false))] [(0, 1, (.c (.val (.string ⟨#[99, 114, 97, 115, 104]⟩)))), (1, 1, (.c (.val (.int .i64 1)))), (2, 1, (.c (.val (.bool false))))], none, []⟩,
 ⟨(some 13), .build [(.val (.string ⟨#[]⟩)), (.val (.int .i64 0)), (.val (.bool false))] [(0, 1, (.c (.val (.string ⟨#[116, 111, 114, 110]⟩)))), (1, 1, (.c (.val (.int .i64 1)))), (2, 1, (.c (.val (.bool true))))], none, []⟩,
 ⟨(some 14), .build [(.val (.string ⟨#[]⟩)), (.val (.int .i64 0)), (.val (.bool false))] [(0, 1, (.c (.val (.string ⟨#[98, 111, 111, 116, 117, 112]⟩)))), (1, 1, (.c (.val (.int .i64 0)))), (2, 1, (.c (.val (.bool false))))], none, []⟩,
 ⟨(some 15), .build [(.val (.string ⟨#[]⟩)), (.val (.int .i64 0)), (.val (.bool false)), (.val (.string ⟨#[]⟩)), (.val (.int .i64 0)), (.val (.bool false)), (.val (.string ⟨#[]⟩)), (.val (.int .i64 0)), (.val (.bool false)), (.val (.string ⟨#[]⟩)), (.val (.int .i64 0)), (.val (.bool false)), (.val (.string ⟨#[]⟩)), (.val (.int .i64 0)), (.val (.bool false)), (.val (.string ⟨#[]⟩)), (.val (.int .i64 0)), (.val (.bool false)), (.val (.string ⟨#[]⟩)), (.val (.int .i64 0)), (.val (.bool false)), (.val (.string ⟨#[]⟩)), (.val (.int .i64 0)), (.val (.bool false)), (.val (.string ⟨#[]⟩)), (.val (.int .i64 0)), (.val (.bool false)), (.val (.string ⟨#[]⟩)), (.val (.int .i64 0)), (.val (.bool false)), (.val (.string ⟨#[]⟩)), (.val (.int .i64 0)), (.val (.bool false)), (.val (.string ⟨#[]⟩)), (.val (.int .i64 0)), (.val (.bool false)), (.val (.string ⟨#[]⟩)), (.val (.int .i64 0)), (.val (.bool false)), (.val (.string ⟨#[]⟩)), (.val (.int .i64 0)), (.val (.bool false)), (.val (.string ⟨#[]⟩)), (.val (.int .i64 0)), (.val (.bool false))] [(3, 3, (.t 1)), (6, 3, (.t 2)), (9, 3, (.t 3)), (12, 3, (.t 4)), (15, 3, (.t 5)), (18, 3, (.t 6)), (21, 3, (.t 7)), (24, 3, (.t 8)), (27, 3, (.t 9)), (30, 3, (.t 10)), (33, 3, (.t 11)), (36, 3, (.t 12)), (39, 3, (.t 13)), (42, 3, (.t 14))], none, []⟩,
 ⟨none, .st 45 (.t 0) (.t 15), none, []⟩])
 .ret)),
[(.cn 0 45)])
theorem irOk21 : convFn Tryd.prog Tryd.f21 = some ir21 := by kernel_rfl
/-- script.fits -/
def ir29 : Nat × C × List RV := (18,
(.seq (.reg [⟨(some 4), .mv (.c (.val (.bool false))), none, []⟩])
 (.seq (.reg [⟨(some 5), .mv (.t 0), none, []⟩,
 ⟨(some 6), .bin .eql (.t 5) (.c (.val (.int .i64 0))), none, []⟩,
 ⟨(some 7), .mv (.t 6), none, []⟩,
 ⟨(some 8), .mv (.t 1), (some (7, false)), []⟩,
 ⟨(some 9), .mv (.t 8), (some (7, false)), []⟩,
 ⟨(some 10), .mv (.t 0), (some (9, true)), []⟩,
 ⟨(some 11), .bin .gtr (.t 10) (.c (.val (.int .i64 0))), (some (9, true)), []⟩,
 ⟨(some 12), .pick (.t 9) (.t 11) (.c (.val (.bool false))), (some (7, false)), []⟩,
 ⟨(some 13), .mv (.t 12), (some (7, false)), []⟩,
 ⟨(some 14), .mv (.t 0), (some (13, true)), []⟩,
 ⟨(some 15), .bin .leq (.t 14) (.c (.val (.int .i64 1000000))), (some (13, true)), []⟩,
 ⟨(some 16), .pick (.t 13) (.t 15) (.c (.val (.bool false))), (some (7, false)), []⟩,
 ⟨(some 17), .pick (.t 7) (.c (.val (.bool true))) (.t 16), none, []⟩,
 ⟨(some 4), .mv (.t 17), none, []⟩])
 .ret)),
[(.t 4)])
theorem irOk29 : convFn Tryd.prog Tryd.f29 = some ir29 := by kernel_rfl
/-- script.Right -/
def ir10 : Nat × C × List RV := (47,
(.seq (.reg [⟨(some 1), .box 25 (.t 0), none, []⟩,
 ⟨(some 2), .mv (.c (.val (.bool false))), none, []⟩])
 (.seq (.seq (.reg [⟨(some 4), .fad 0 (.t 1), none, []⟩,
 ⟨(some 5), .ld1 (.t 4), none, []⟩,
 ⟨(some 6), .bin .lss (.t 5) (.c (.val (.int .i64 1))), none, []⟩,
 ⟨(some 7), .mv (.t 6), none, []⟩,
 ⟨(some 8), .fad 0 (.t 1), (some (7, false)), []⟩,
 ⟨(some 9), .ld1 (.t 8), (some (7, false)), []⟩,
 ⟨(some 10), .bin .gtr (.t 9) (.c (.val (.int .i64 14))), (some (7, false)), []⟩,
 ⟨(some 11), .pick (.t 7) (.c (.val (.bool true))) (.t 10), none, []⟩])
 (.cond (.t 11) (.seq (.reg [⟨(some 2), .mv (.c (.val (.bool false))), none, []⟩])
 .ret)
 .skip))
 (.seq (.regD [⟨(some 12), .call (.f 21) [], none, []⟩,
 ⟨(some 13), .fad 0 (.t 1), none, []⟩,
 ⟨(some 14), .ld1 (.t 13), none, [1]⟩,
 ⟨(some 15), .ixn 15 3 (.t 12) (.t 14), none, [0, 2, 1]⟩,
 ⟨(some 3), .new 44 [(.val (.string ⟨#[]⟩)), (.val (.int .i64 0)), (.val (.bool false))], none, []⟩,
 ⟨none, .st 3 (.t 3) (.t 15), none, [4, 3, 0, 2, 1]⟩])
 (.seq (.seq (.regD [⟨(some 16), .fad 2 (.t 3), none, []⟩,
 ⟨(some 17), .ld1 (.t 16), none, [0]⟩,
 ⟨(some 18), .fad 3 (.t 1), none, []⟩,
 ⟨(some 19), .ldn 7 (.t 18), none, [2]⟩,
 ⟨(some 20), .call (.f 28) [(.t 19)], none, [3, 2]⟩,
 ⟨(some 21), .eqb true (.t 17) (.t 20), none, [1, 0, 4, 3, 2]⟩,
 ⟨(some 22), .mv (.t 21), none, [5, 1, 0, 4, 3, 2]⟩,
 ⟨(some 23), .fad 2 (.t 3), (some (22, false)), [6, 5, 1, 0, 4, 3, 2]⟩,
 ⟨(some 24), .ld1 (.t 23), (some (22, false)), [7, 6, 5, 1, 0, 4, 3, 2]⟩,
 ⟨(some 25), .not (.t 24), (some (22, false)), [8, 7, 6, 5, 1, 0, 4, 3, 2]⟩,
 ⟨(some 26), .mv (.t 25), (some (22, false)), [9, 8, 7, 6, 5, 1, 0, 4, 3, 2]⟩,
 ⟨(some 27), .fad 3 (.t 1), (some (26, true)), [10, 9, 8, 7, 6, 5, 1, 0, 4, 3, 2]⟩,
 ⟨(some 28), .ldn 7 (.t 27), (some (26, true)), [11, 10, 9, 8, 7, 6, 5, 1, 0, 4, 3, 2]⟩,
 ⟨(some 29), .build [(.val (.int .i64 0)), (.val (.int .i64 0)), (.val (.int .i64 0)), (.val (.int .i64 0)), (.val (.int .i64 0)), (.val (.int .i64 0)), (.val (.int .i64 0))] [], (some (26, true)), [10, 9, 8, 7, 6, 5, 1, 0, 4, 3, 2]⟩,
 ⟨(some 30), .eqs true [0, 0, 0, 0, 0, 0, 0] (.t 28) (.t 29), (some (26, true)), [12, 11, 10, 9, 8, 7, 6, 5, 1, 0, 4, 3, 2, 13]⟩,
 ⟨(some 31), .pick (.t 26) (.t 30) (.c (.val (.bool false))), (some (22, false)), [10, 9, 8, 7, 6, 5, 1, 0, 4, 3, 2, 14, 12, 11, 13]⟩,
 ⟨(some 32), .pick (.t 22) (.c (.val (.bool true))) (.t 31), none, [6, 5, 1, 0, 4, 3, 2, 15, 10, 9, 8, 7, 14, 12, 11, 13]⟩])
 (.cond (.t 32) (.seq (.reg [⟨(some 2), .mv (.c (.val (.bool false))), none, []⟩])
 .ret)
 .skip))
 (.seq (.reg [⟨(some 33), .fad 1 (.t 1), none, []⟩,
 ⟨(some 34), .ld1 (.t 33), none, []⟩,
 ⟨(some 35), .fad 1 (.t 3), none, []⟩,
 ⟨(some 36), .ld1 (.t 35), none, []⟩,
 ⟨(some 37), .bin .geq (.t 36) (.c (.val (.int .i64 1))), none, []⟩,
 ⟨(some 38), .call (.f 29) [(.t 34), (.t 37)], none, []⟩,
 ⟨(some 39), .mv (.t 38), none, []⟩,
 ⟨(some 40), .fad 2 (.t 1), (some (39, true)), []⟩,
 ⟨(some 41), .ld1 (.t 40), (some (39, true)), []⟩,
 ⟨(some 42), .fad 1 (.t 3), (some (39, true)), []⟩,
 ⟨(some 43), .ld1 (.t 42), (some (39, true)), []⟩,
 ⟨(some 44), .bin .geq (.t 43) (.c (.val (.int .i64 2))), (some (39, true)), []⟩,
 ⟨(some 45), .call (.f 29) [(.t 41), (.t 44)], (some (39, true)), []⟩,
 ⟨(some 46), .pick (.t 39) (.t 45) (.c (.val (.bool false))), none, []⟩,
 ⟨(some 2), .mv (.t 46), none, []⟩])
 .ret))))),
[(.t 2)])
theorem irOk10 : convFn Tryd.prog Tryd.f10 = some ir10 := by kernel_rfl
/-- dunnageref23.Right -/
def ir11 : Nat × C × List RV := (66,
(.seq (.reg [⟨(some 1), .box 25 (.t 0), none, []⟩,
 ⟨(some 2), .mv (.c (.val (.bool false))), none, []⟩])
 (.seq (.seq (.reg [⟨(some 3), .fad 0 (.t 1), none, []⟩,
 ⟨(some 4), .ld1 (.t 3), none, []⟩,
 ⟨(some 5), .bin .lss (.t 4) (.c (.val (.int .i64 1))), none, []⟩,
 ⟨(some 6), .mv (.t 5), none, []⟩,
 ⟨(some 7), .fad 0 (.t 1), (some (6, false)), []⟩,
 ⟨(some 8), .ld1 (.t 7), (some (6, false)), []⟩,
 ⟨(some 9), .bin .gtr (.t 8) (.c (.val (.int .i64 14))), (some (6, false)), []⟩,
 ⟨(some 10), .pick (.t 6) (.c (.val (.bool true))) (.t 9), none, []⟩,
 ⟨(some 11), .mv (.t 10), none, []⟩,
 ⟨(some 12), .fad 1 (.t 1), (some (11, false)), []⟩,
 ⟨(some 13), .ld1 (.t 12), (some (11, false)), []⟩,
 ⟨(some 14), .bin .lss (.t 13) (.c (.val (.int .i64 0))), (some (11, false)), []⟩,
 ⟨(some 15), .pick (.t 11) (.c (.val (.bool true))) (.t 14), none, []⟩,
 ⟨(some 16), .mv (.t 15), none, []⟩,
 ⟨(some 17), .fad 1 (.t 1), (some (16, false)), []⟩,
 ⟨(some 18), .ld1 (.t 17), (some (16, false)), []⟩,
 ⟨(some 19), .bin .gtr (.t 18) (.c (.val (.int .i64 1000000))), (some (16, false)), []⟩,
 ⟨(some 20), .pick (.t 16) (.c (.val (.bool true))) (.t 19), none, []⟩,
 ⟨(some 21), .mv (.t 20), none, []⟩,
 ⟨(some 22), .fad 2 (.t 1), (some (21, false)), []⟩,
 ⟨(some 23), .ld1 (.t 22), (some (21, false)), []⟩,
 ⟨(some 24), .bin .lss (.t 23) (.c (.val (.int .i64 0))), (some (21, false)), []⟩,
 ⟨(some 25), .pick (.t 21) (.c (.val (.bool true))) (.t 24), none, []⟩,
 ⟨(some 26), .mv (.t 25), none, []⟩,
 ⟨(some 27), .fad 2 (.t 1), (some (26, false)), []⟩,
 ⟨(some 28), .ld1 (.t 27), (some (26, false)), []⟩,
 ⟨(some 29), .bin .gtr (.t 28) (.c (.val (.int .i64 1000000))), (some (26, false)), []⟩,
 ⟨(some 30), .pick (.t 26) (.c (.val (.bool true))) (.t 29), none, []⟩])
 (.cond (.t 30) (.seq (.reg [⟨(some 2), .mv (.c (.val (.bool false))), none, []⟩])
 .ret)
 .skip))
 (.seq (.seq (.reg [⟨(some 31), .fad 0 (.t 1), none, []⟩,
 ⟨(some 32), .ld1 (.t 31), none, []⟩,
 ⟨(some 33), .call (.f 25) [(.t 32)], none, []⟩,
 ⟨(some 34), .bin .lss (.t 33) (.c (.val (.int .i64 2))), none, []⟩,
 ⟨(some 35), .mv (.t 34), none, []⟩,
 ⟨(some 36), .fad 2 (.t 1), (some (35, true)), []⟩,
 ⟨(some 37), .ld1 (.t 36), (some (35, true)), []⟩,
 ⟨(some 38), .bin .neq (.t 37) (.c (.val (.int .i64 0))), (some (35, true)), []⟩,
 ⟨(some 39), .pick (.t 35) (.t 38) (.c (.val (.bool false))), none, []⟩,
 ⟨(some 40), .mv (.t 39), none, []⟩,
 ⟨(some 41), .fad 0 (.t 1), (some (40, false)), []⟩,
 ⟨(some 42), .ld1 (.t 41), (some (40, false)), []⟩,
 ⟨(some 43), .call (.f 25) [(.t 42)], (some (40, false)), []⟩,
 ⟨(some 44), .bin .lss (.t 43) (.c (.val (.int .i64 1))), (some (40, false)), []⟩,
 ⟨(some 45), .mv (.t 44), (some (40, false)), []⟩,
 ⟨(some 46), .fad 1 (.t 1), (some (45, true)), []⟩,
 ⟨(some 47), .ld1 (.t 46), (some (45, true)), []⟩,
 ⟨(some 48), .bin .neq (.t 47) (.c (.val (.int .i64 0))), (some (45, true)), []⟩,
 ⟨(some 49), .pick (.t 45) (.t 48) (.c (.val (.bool false))), (some (40, false)), []⟩,
 ⟨(some 50), .pick (.t 40) (.c (.val (.bool true))) (.t 49), none, []⟩])
 (.cond (.t 50) (.seq (.reg [⟨(some 2), .mv (.c (.val (.bool false))), none, []⟩])
 .ret)
 .skip))
 (.seq (.seq (.reg [⟨(some 51), .fad 0 (.t 1), none, []⟩,
 ⟨(some 52), .ld1 (.t 51), none, []⟩,
 ⟨(some 53), .bin .eql (.t 52) (.c (.val (.int .i64 11))), none, []⟩,
 ⟨(some 54), .mv (.t 53), none, []⟩,
 ⟨(some 55), .fad 0 (.t 1), (some (54, false)), []⟩,
 ⟨(some 56), .ld1 (.t 55), (some (54, false)), []⟩,
 ⟨(some 57), .bin .eql (.t 56) (.c (.val (.int .i64 13))), (some (54, false)), []⟩,
 ⟨(some 58), .pick (.t 54) (.c (.val (.bool true))) (.t 57), none, []⟩])
 (.cond (.t 58) (.seq (.reg [⟨(some 59), .fad 3 (.t 1), none, []⟩,
 ⟨(some 60), .ldn 7 (.t 59), none, []⟩,
 ⟨(some 61), .call (.f 30) [(.t 60)], none, []⟩,
 ⟨(some 2), .mv (.t 61), none, []⟩])
 .ret)
 .skip))
 (.seq (.reg [⟨(some 62), .fad 3 (.t 1), none, []⟩,
 ⟨(some 63), .ldn 7 (.t 62), none, []⟩,
 ⟨(some 64), .build [(.val (.int .i64 0)), (.val (.int .i64 0)), (.val (.int .i64 0)), (.val (.int .i64 0)), (.val (.int .i64 0)), (.val (.int .i64 0)), (.val (.int .i64 0))] [], none, []⟩,
 ⟨(some 65), .eqs false [0, 0, 0, 0, 0, 0, 0] (.t 63) (.t 64), none, []⟩,
 ⟨(some 2), .mv (.t 65), none, []⟩])
 .ret))))),
[(.t 2)])
theorem irOk11 : convFn Tryd.prog Tryd.f11 = some ir11 := by kernel_rfl
/-- dunnageref23.Word -/
def ir24 : Nat × C × List RV := (15,
(.seq (.reg [⟨(some 2), .mv (.c (.val (.string ⟨#[]⟩))), none, []⟩])
 (.seq (.reg [⟨(some 4), .bsl 9 1 [(.c (.val (.string ⟨#[]⟩))), (.c (.val (.string ⟨#[116, 105, 99, 107]⟩))), (.c (.val (.string ⟨#[99, 111, 110, 116, 114, 111, 108]⟩))), (.c (.val (.string ⟨#[97, 99, 116, 115]⟩))), (.c (.val (.string ⟨#[116, 101, 108, 108, 115]⟩))), (.c (.val (.string ⟨#[100, 101, 108, 105, 118, 101, 114]⟩))), (.c (.val (.string ⟨#[100, 114, 111, 112]⟩))), (.c (.val (.string ⟨#[116, 119, 105, 99, 101]⟩))), (.c (.val (.string ⟨#[102, 108, 105, 112]⟩))), (.c (.val (.string ⟨#[102, 97, 105, 108]⟩))), (.c (.val (.string ⟨#[98, 97, 99, 107]⟩))), (.c (.val (.string ⟨#[97, 115, 107]⟩))), (.c (.val (.string ⟨#[99, 114, 97, 115, 104]⟩))), (.c (.val (.string ⟨#[116, 111, 114, 110]⟩))), (.c (.val (.string ⟨#[98, 111, 111, 116, 117, 112]⟩)))], none, []⟩,
 ⟨(some 3), .mv (.t 4), none, []⟩])
 (.seq (.seq (.reg [⟨(some 5), .mv (.t 0), none, []⟩,
 ⟨(some 6), .bin .lss (.t 5) (.c (.val (.int .i64 0))), none, []⟩,
 ⟨(some 7), .mv (.t 6), none, []⟩,
 ⟨(some 8), .mv (.t 0), (some (7, false)), []⟩,
 ⟨(some 9), .bin .gtr (.t 8) (.c (.val (.int .i64 14))), (some (7, false)), []⟩,
 ⟨(some 10), .pick (.t 7) (.c (.val (.bool true))) (.t 9), none, []⟩])
 (.cond (.t 10) (.seq (.reg [⟨(some 2), .mv (.c (.val (.string ⟨#[]⟩))), none, []⟩])
 .ret)
 .skip))
 (.seq (.reg [⟨(some 11), .mv (.t 3), none, []⟩,
 ⟨(some 12), .mv (.t 0), none, []⟩,
 ⟨(some 13), .ixa 1 (.t 11) (.t 12), none, []⟩,
 ⟨(some 14), .ld1 (.t 13), none, []⟩,
 ⟨(some 2), .mv (.t 14), none, []⟩])
 .ret)))),
[(.t 2)])
theorem irOk24 : convFn Tryd.prog Tryd.f24 = some ir24 := by kernel_rfl
/-- dunnageref23.Many -/
def ir25 : Nat × C × List RV := (11,
(.seq (.reg [⟨(some 2), .mv (.c (.val (.int .i64 0))), none, []⟩])
 (.seq (.seq (.reg [⟨(some 3), .mv (.t 0), none, []⟩])
 (.block 0 (.seq (.reg [⟨(some 5), .bin .eql (.t 3) (.c (.val (.int .i64 8))), none, []⟩,
 ⟨(some 4), .mv (.t 5), none, []⟩])
 (.cond (.t 4) (.seq (.reg [⟨(some 2), .mv (.c (.val (.int .i64 2))), none, []⟩])
 .ret)
 (.seq (.seq (.reg [⟨(some 7), .bin .eql (.t 3) (.c (.val (.int .i64 1))), none, []⟩,
 ⟨(some 6), .mv (.t 7), none, []⟩])
 (.cond (.t 6) .skip
 (.seq (.reg [⟨(some 8), .bin .eql (.t 3) (.c (.val (.int .i64 2))), none, []⟩,
 ⟨(some 6), .mv (.t 8), none, []⟩])
 (.cond (.t 6) .skip
 (.seq (.reg [⟨(some 9), .bin .eql (.t 3) (.c (.val (.int .i64 11))), none, []⟩,
 ⟨(some 6), .mv (.t 9), none, []⟩])
 (.cond (.t 6) .skip
 (.reg [⟨(some 10), .bin .eql (.t 3) (.c (.val (.int .i64 14))), none, []⟩,
 ⟨(some 6), .mv (.t 10), none, []⟩])))))))
 (.cond (.t 6) (.seq (.reg [⟨(some 2), .mv (.c (.val (.int .i64 0))), none, []⟩])
 .ret)
 .skip))))))
 (.seq (.reg [⟨(some 2), .mv (.c (.val (.int .i64 1))), none, []⟩])
 .ret))),
[(.t 2)])
theorem irOk25 : convFn Tryd.prog Tryd.f25 = some ir25 := by kernel_rfl


structure EntD where
  kind : Int
  a : Int
  b : Int
  op : OpD
deriving DecidableEq
@[reducible] def entV (e : EntD) : LV := .agg [.int e.kind, .int e.a, .int e.b, .int e.op.kind, .int e.op.a, .int e.op.b, .int e.op.c, .int e.op.d, .int e.op.e, .int e.op.f]
def entR (e : EntD) : List DV := [i64 e.kind, i64 e.a, i64 e.b, i64 e.op.kind, i64 e.op.a, i64 e.op.b, i64 e.op.c, i64 e.op.d, i64 e.op.e, i64 e.op.f]
def zeroEnt : EntD := ⟨0, 0, 0, zeroOp⟩
def wordsK : List ByteArray := [⟨#[]⟩, ⟨#[116, 105, 99, 107]⟩, ⟨#[99, 111, 110, 116, 114, 111, 108]⟩, ⟨#[97, 99, 116, 115]⟩, ⟨#[116, 101, 108, 108, 115]⟩, ⟨#[100, 101, 108, 105, 118, 101, 114]⟩, ⟨#[100, 114, 111, 112]⟩, ⟨#[116, 119, 105, 99, 101]⟩, ⟨#[102, 108, 105, 112]⟩, ⟨#[102, 97, 105, 108]⟩, ⟨#[98, 97, 99, 107]⟩, ⟨#[97, 115, 107]⟩, ⟨#[99, 114, 97, 115, 104]⟩, ⟨#[116, 111, 114, 110]⟩, ⟨#[98, 111, 111, 116, 117, 112]⟩]
def wordE (k : Int) : ByteArray := if 1 ≤ k ∧ k ≤ 14 then wordsK.getD k.toNat ⟨#[]⟩ else ⟨#[]⟩
def manyE (k : Int) : Nat := if k = 8 then 2 else if k = 0 ∨ k = 1 ∨ k = 2 ∨ k = 11 ∨ k = 14 then 0 else 1
def hasOp (k : Int) : Bool := decide (k = 11 ∨ k = 13)
def kindsC : List LV := (List.range 15).flatMap fun (k : Nat) => [.d (.val (.string (wordE (k : Int)))), .int ((manyE (k : Int) : Nat) : Int), .bool (hasOp (k : Int))]
def fitsE (n : Int) (has : Bool) : Bool := decide (n = 0) || has && decide (0 < n ∧ n ≤ 1000000)
def entOkB (e : EntD) : Bool := decide (1 ≤ e.kind ∧ e.kind ≤ 14) && (if hasOp e.kind = true then opOkB e.op else decide (e.op = zeroOp)) && fitsE e.a (decide (1 ≤ manyE e.kind)) && fitsE e.b (decide (2 ≤ manyE e.kind))

set_option maxHeartbeats 1000000 in
set_option maxRecDepth 10000 in
theorem kinds_tri : Tri Tryd.prog G 21 [] [] (.agg kindsC) [] := by
  refine tri_W0 Tryd.func21 (by decide) irOk21 (Nat.le_of_ble_eq_true rfl) rfl ?_
  simp only [ir21, go_sem, ↓reduceIte, zA, zB, zC, zD, zE, zF, reduceCtorEq, zG, zH, zI, zJ, zK, zL, zM, zN, zO, zP]
  rfl
theorem kind_at (k : Int) (h : 0 ≤ k ∧ k ≤ 14) : (kindsC.drop (k.toNat * 3)).take 3 = [.d (.val (.string (wordE k))), .int ((manyE k : Nat) : Int), .bool (hasOp k)] := by
  have h : k = 0 ∨ k = 1 ∨ k = 2 ∨ k = 3 ∨ k = 4 ∨ k = 5 ∨ k = 6 ∨ k = 7 ∨ k = 8 ∨ k = 9 ∨ k = 10 ∨ k = 11 ∨ k = 12 ∨ k = 13 ∨ k = 14 := by omega
  rcases h with h | h | h | h | h | h | h | h | h | h | h | h | h | h | h <;> subst h <;> rfl
theorem fits_tri (n : Int) (has : Bool) : Tri Tryd.prog G 29 [.int n, .bool has] [] (.bool (fitsE n has)) [] := by
  refine tri_W0 Tryd.func29 (by decide) irOk29 (Nat.le_of_ble_eq_true rfl) rfl ?_
  simp only [ir29, go_sem, ↓reduceIte, zA, zB, zC, zD, zE, zF, reduceCtorEq, zG, zH, zI, zJ, zK, zL, zM, zN, zO, zP]
  unfold fitsE
  by_cases h0 : n = 0
  · subst h0; simp only [go_sem, ↓reduceIte, zA, zB, zC, zD, zE, zF, reduceCtorEq, zG, zH, zI, zJ, zK, zL, zM, zN, zO, zP]; try rfl
  have e : (n == 0) = false := beq_eq_false_iff_ne.2 h0
  cases has with
  | false => simp only [e, decide_eq_false h0, Bool.false_and, Bool.or_false, go_sem, ↓reduceIte, zA, zB, zC, zD, zE, zF, reduceCtorEq, zG, zH, zI, zJ, zK, zL, zM, zN, zO, zP]
  | true =>
    by_cases h1 : 0 < n
    · have h2 : decide (0 < n ∧ n ≤ 1000000) = decide (n ≤ 1000000) := by rw [decide_eq_decide]; omega
      simp only [e, decide_eq_false h0, decide_eq_true (show n > 0 from h1), h2, Bool.true_and, Bool.false_or, go_sem, ↓reduceIte, zA, zB, zC, zD, zE, zF, reduceCtorEq, zG, zH, zI, zJ, zK, zL, zM, zN, zO, zP]
    · have h2 : decide (0 < n ∧ n ≤ 1000000) = false := decide_eq_false (by omega)
      simp only [e, decide_eq_false h0, decide_eq_false (show ¬ n > 0 from h1), h2, Bool.and_false, Bool.or_false, go_sem, ↓reduceIte, zA, zB, zC, zD, zE, zF, reduceCtorEq, zG, zH, zI, zJ, zK, zL, zM, zN, zO, zP]
theorem zop_eq (o : OpD) : (o.kind == 0 && (o.a == 0 && (o.b == 0 && (o.c == 0 && (o.d == 0 && (o.e == 0 && o.f == 0)))))) = decide (o = zeroOp) := by
  obtain ⟨k, a, b, c, d, e, f⟩ := o
  rw [Bool.eq_iff_iff]
  simp [zeroOp]
theorem nb_tf : (!(true == false)) = true := rfl
theorem nb_ft : (!(false == true)) = true := rfl
theorem nb_tt : (!(true == true)) = false := rfl
theorem nb_ff : (!(false == false)) = false := rfl
theorem zeroOp_bad : opOkB zeroOp = false := by decide
set_option maxHeartbeats 1000000 in
theorem entRight_tri (hB : ∀ g row, bookG g = some row → G g = some row) (e : EntD) : Tri Tryd.prog G 10 [entV e] [] (.bool (entOkB e)) [] := by
  refine tri_W0 Tryd.func10 (by decide) irOk10 (Nat.le_of_ble_eq_true rfl) rfl ?_
  simp only [ir10, go_sem, ↓reduceIte, zA, zB, zC, zD, zE, zF, reduceCtorEq, zG, zH, zI, zJ, zK, zL, zM, zN, zO, zP]
  generalize hq : entOkB e = q
  unfold entOkB at hq
  by_cases hlo : e.kind < 1
  · rw [decide_eq_false (by omega)] at hq
    simp only [Bool.false_and] at hq
    subst hq
    simp only [decide_eq_true hlo, go_sem, ↓reduceIte, zA, zB, zC, zD, zE, zF, reduceCtorEq, zG, zH, zI, zJ, zK, zL, zM, zN, zO, zP]
  by_cases hhi : e.kind > 14
  · rw [decide_eq_false (by omega)] at hq
    simp only [Bool.false_and] at hq
    subst hq
    simp only [decide_eq_false hlo, decide_eq_true hhi, go_sem, ↓reduceIte, zA, zB, zC, zD, zE, zF, reduceCtorEq, zG, zH, zI, zJ, zK, zL, zM, zN, zO, zP]
  rw [decide_eq_true (by omega), Bool.true_and] at hq
  have hk0 : 0 ≤ e.kind := by omega
  have hk1 : e.kind.toNat < 15 := by omega
  simp only [decide_eq_false hlo, decide_eq_false hhi, go_sem, ↓reduceIte, zA, zB, zC, zD, zE, zF, reduceCtorEq, zG, zH, zI, zJ, zK, zL, zM, zN, zO, zP]
  refine WD_calld (kinds_tri) rfl rfl rfl rfl ?_; simp only [go_sem, ↓reduceIte, zA, zB, zC, zD, zE, zF, reduceCtorEq, zG, zH, zI, zJ, zK, zL, zM, zN, zO, zP]
  simp only [hk0, hk1, kind_at e.kind (by omega), List.length_cons, List.length_nil, go_sem, ↓reduceIte, zA, zB, zC, zD, zE, zF, reduceCtorEq, zG, zH, zI, zJ, zK, zL, zM, zN, zO, zP]
  refine W_opsD_end (by decide) ?_
  simp only [go_sem, ↓reduceIte, zA, zB, zC, zD, zE, zF, reduceCtorEq, zG, zH, zI, zJ, zK, zL, zM, zN, zO, zP]
  refine WD_calld ((opsRight_tri e.op).up hB) rfl rfl rfl rfl ?_; simp only [go_sem, ↓reduceIte, zA, zB, zC, zD, zE, zF, reduceCtorEq, zG, zH, zI, zJ, zK, zL, zM, zN, zO, zP]
  cases hh : hasOp e.kind with
  | true =>
    rw [if_pos hh] at hq
    cases hr : opOkB e.op with
    | false =>
      rw [hr] at hq
      simp only [Bool.false_and] at hq
      subst hq
      simp only [nb_tf, nb_ft, nb_tt, nb_ff, go_sem, ↓reduceIte, zA, zB, zC, zD, zE, zF, reduceCtorEq, zG, zH, zI, zJ, zK, zL, zM, zN, zO, zP]
    | true =>
      rw [hr, Bool.true_and] at hq
      simp only [nb_tf, nb_ft, nb_tt, nb_ff, go_sem, ↓reduceIte, zA, zB, zC, zD, zE, zF, reduceCtorEq, zG, zH, zI, zJ, zK, zL, zM, zN, zO, zP]
      have w1 : decide (((manyE e.kind : Nat) : Int) ≥ 1) = decide (1 ≤ manyE e.kind) := by rw [decide_eq_decide]; omega
      have w2 : decide (((manyE e.kind : Nat) : Int) ≥ 2) = decide (2 ≤ manyE e.kind) := by rw [decide_eq_decide]; omega
      simp only [w1, go_sem, ↓reduceIte, zA, zB, zC, zD, zE, zF, reduceCtorEq, zG, zH, zI, zJ, zK, zL, zM, zN, zO, zP]
      refine W_calld (fits_tri e.a (decide (1 ≤ manyE e.kind))) rfl rfl rfl rfl ?_; simp only [go_sem, ↓reduceIte, zA, zB, zC, zD, zE, zF, reduceCtorEq, zG, zH, zI, zJ, zK, zL, zM, zN, zO, zP]
      cases hf : fitsE e.a (decide (1 ≤ manyE e.kind)) with
      | false =>
        rw [hf] at hq
        simp only [Bool.false_and, Bool.true_and] at hq
        subst hq
        simp only [go_sem, ↓reduceIte, zA, zB, zC, zD, zE, zF, reduceCtorEq, zG, zH, zI, zJ, zK, zL, zM, zN, zO, zP]
      | true =>
        rw [hf] at hq
        simp only [Bool.true_and] at hq
        simp only [w2, go_sem, ↓reduceIte, zA, zB, zC, zD, zE, zF, reduceCtorEq, zG, zH, zI, zJ, zK, zL, zM, zN, zO, zP]
        refine W_calld (fits_tri e.b (decide (2 ≤ manyE e.kind))) rfl rfl rfl rfl ?_; simp only [go_sem, ↓reduceIte, zA, zB, zC, zD, zE, zF, reduceCtorEq, zG, zH, zI, zJ, zK, zL, zM, zN, zO, zP]
        simp only [hq, go_sem, ↓reduceIte, zA, zB, zC, zD, zE, zF, reduceCtorEq, zG, zH, zI, zJ, zK, zL, zM, zN, zO, zP]
  | false =>
    rw [if_neg (by rw [hh]; decide)] at hq
    cases hr : opOkB e.op with
    | true =>
      rw [decide_eq_false (fun h => by rw [h, zeroOp_bad] at hr; cases hr)] at hq
      simp only [Bool.false_and] at hq
      subst hq
      simp only [nb_tf, nb_ft, nb_tt, nb_ff, go_sem, ↓reduceIte, zA, zB, zC, zD, zE, zF, reduceCtorEq, zG, zH, zI, zJ, zK, zL, zM, zN, zO, zP]
    | false =>
      simp only [nb_tf, nb_ft, nb_tt, nb_ff, go_sem, ↓reduceIte, zA, zB, zC, zD, zE, zF, reduceCtorEq, zG, zH, zI, zJ, zK, zL, zM, zN, zO, zP]
      rw [zop_eq]
      generalize hz : decide (e.op = zeroOp) = z at *
      cases z with
      | false =>
        simp only [Bool.false_and] at hq
        subst hq
        simp only [go_sem, ↓reduceIte, zA, zB, zC, zD, zE, zF, reduceCtorEq, zG, zH, zI, zJ, zK, zL, zM, zN, zO, zP]
      | true =>
      rw [Bool.true_and] at hq
      simp only [go_sem, ↓reduceIte, zA, zB, zC, zD, zE, zF, reduceCtorEq, zG, zH, zI, zJ, zK, zL, zM, zN, zO, zP]
      have w1 : decide (((manyE e.kind : Nat) : Int) ≥ 1) = decide (1 ≤ manyE e.kind) := by rw [decide_eq_decide]; omega
      have w2 : decide (((manyE e.kind : Nat) : Int) ≥ 2) = decide (2 ≤ manyE e.kind) := by rw [decide_eq_decide]; omega
      simp only [w1, go_sem, ↓reduceIte, zA, zB, zC, zD, zE, zF, reduceCtorEq, zG, zH, zI, zJ, zK, zL, zM, zN, zO, zP]
      refine W_calld (fits_tri e.a (decide (1 ≤ manyE e.kind))) rfl rfl rfl rfl ?_; simp only [go_sem, ↓reduceIte, zA, zB, zC, zD, zE, zF, reduceCtorEq, zG, zH, zI, zJ, zK, zL, zM, zN, zO, zP]
      cases hf : fitsE e.a (decide (1 ≤ manyE e.kind)) with
      | false =>
        rw [hf] at hq
        simp only [Bool.false_and, Bool.true_and] at hq
        subst hq
        simp only [go_sem, ↓reduceIte, zA, zB, zC, zD, zE, zF, reduceCtorEq, zG, zH, zI, zJ, zK, zL, zM, zN, zO, zP]
      | true =>
        rw [hf] at hq
        simp only [Bool.true_and] at hq
        simp only [w2, go_sem, ↓reduceIte, zA, zB, zC, zD, zE, zF, reduceCtorEq, zG, zH, zI, zJ, zK, zL, zM, zN, zO, zP]
        refine W_calld (fits_tri e.b (decide (2 ≤ manyE e.kind))) rfl rfl rfl rfl ?_; simp only [go_sem, ↓reduceIte, zA, zB, zC, zD, zE, zF, reduceCtorEq, zG, zH, zI, zJ, zK, zL, zM, zN, zO, zP]
        simp only [hq, go_sem, ↓reduceIte, zA, zB, zC, zD, zE, zF, reduceCtorEq, zG, zH, zI, zJ, zK, zL, zM, zN, zO, zP]
/-! the document's -/
theorem word23_at (k : Int) (h : 0 ≤ k ∧ k ≤ 14) : (wordsK.map fun s => [DV.val (.string s)])[k.toNat]? = some [.val (.string (wordE k))] := by
  have h : k = 0 ∨ k = 1 ∨ k = 2 ∨ k = 3 ∨ k = 4 ∨ k = 5 ∨ k = 6 ∨ k = 7 ∨ k = 8 ∨ k = 9 ∨ k = 10 ∨ k = 11 ∨ k = 12 ∨ k = 13 ∨ k = 14 := by omega
  rcases h with h | h | h | h | h | h | h | h | h | h | h | h | h | h | h <;> subst h <;> rfl
theorem word_none (k : Int) (h : ¬ (1 ≤ k ∧ k ≤ 14)) : wordE k = ⟨#[]⟩ := by unfold wordE; rw [if_neg h]
set_option maxHeartbeats 1000000 in
theorem word23_tri (k : Int) : Tri Tryd.prog G 24 [.int k] [] (.d (.val (.string (wordE k)))) [] := by
  refine tri_W0 Tryd.func24 (by decide) irOk24 (Nat.le_of_ble_eq_true rfl) rfl ?_
  simp only [ir24, go_sem, ↓reduceIte, zA, zB, zC, zD, zE, zF, reduceCtorEq, zG, zH, zI, zJ, zK, zL, zM, zN, zO, zP]
  refine WG_split (fun h1 => ?_) (fun h1 => ?_) <;> simp only [h1, go_sem, ↓reduceIte, zA, zB, zC, zD, zE, zF, reduceCtorEq, zG, zH, zI, zJ, zK, zL, zM, zN, zO, zP] <;> (try simp only [beq_iff_eq, beq_eq_false_iff_ne, bne_iff_ne, ne_eq, decide_eq_true_eq, decide_eq_false_iff_not, Bool.not_true, Bool.not_false, Bool.not_eq_true, Bool.not_eq_false, bne_eq_false_iff_eq, Decidable.not_not] at h1)
  · refine WC_split (fun h2 => ?_) (fun h2 => ?_) <;> simp only [h2, go_sem, ↓reduceIte, zA, zB, zC, zD, zE, zF, reduceCtorEq, zG, zH, zI, zJ, zK, zL, zM, zN, zO, zP] <;> (try simp only [beq_iff_eq, beq_eq_false_iff_ne, bne_iff_ne, ne_eq, decide_eq_true_eq, decide_eq_false_iff_not, Bool.not_true, Bool.not_false, Bool.not_eq_true, Bool.not_eq_false, bne_eq_false_iff_eq, Decidable.not_not] at h2)
    · rw [word_none k (by omega)]
    · have h4 : 0 ≤ k ∧ k.toNat < 15 := by omega
      have h5 := word23_at k (by omega)
      simp only [wordsK, List.map_cons, List.map_nil] at h5
      simp only [h4.1, h4.2, h5, and_self, go_sem, ↓reduceIte, zA, zB, zC, zD, zE, zF, reduceCtorEq, zG, zH, zI, zJ, zK, zL, zM, zN, zO, zP]
  · rw [word_none k (by omega)]
theorem many23_tri (k : Int) (h0 : k ≠ 0) : Tri Tryd.prog G 25 [.int k] [] (.int ((manyE k : Nat) : Int)) [] := by
  refine tri_W0 Tryd.func25 (by decide) irOk25 (Nat.le_of_ble_eq_true rfl) rfl ?_
  simp only [ir25, go_sem, ↓reduceIte, zA, zB, zC, zD, zE, zF, reduceCtorEq, zG, zH, zI, zJ, zK, zL, zM, zN, zO, zP]
  have e : ∀ n : Int, (k == n) = decide (k = n) := fun _ => rfl
  unfold manyE
  by_cases h8 : k = 8
  · subst h8; simp only [go_sem, ↓reduceIte, zA, zB, zC, zD, zE, zF, reduceCtorEq, zG, zH, zI, zJ, zK, zL, zM, zN, zO, zP]; rfl
  by_cases h1 : k = 1
  · subst h1; simp only [go_sem, ↓reduceIte, zA, zB, zC, zD, zE, zF, reduceCtorEq, zG, zH, zI, zJ, zK, zL, zM, zN, zO, zP]; rfl
  by_cases h2 : k = 2
  · subst h2; simp only [go_sem, ↓reduceIte, zA, zB, zC, zD, zE, zF, reduceCtorEq, zG, zH, zI, zJ, zK, zL, zM, zN, zO, zP]; rfl
  by_cases h11 : k = 11
  · subst h11; simp only [go_sem, ↓reduceIte, zA, zB, zC, zD, zE, zF, reduceCtorEq, zG, zH, zI, zJ, zK, zL, zM, zN, zO, zP]; rfl
  by_cases h14 : k = 14
  · subst h14; simp only [go_sem, ↓reduceIte, zA, zB, zC, zD, zE, zF, reduceCtorEq, zG, zH, zI, zJ, zK, zL, zM, zN, zO, zP]; rfl
  simp only [e, h0, h1, h2, h8, h11, h14, or_self, go_sem, ↓reduceIte, zA, zB, zC, zD, zE, zF, reduceCtorEq, zG, zH, zI, zJ, zK, zL, zM, zN, zO, zP]
  rfl
end Dv

namespace Dv
open Go Go.Proofs
open Nat renaming reduceEqDiff → zA, reduceAdd → zB, reduceSub → zC, reduceMul → zD, reduceLT → zE, reduceLeDiff → zF
open Int renaming reduceLE → zG, reduceLT → zH, reduceToNat → zI, reduceBEq → zJ, reduceBNe → zK, reduceEq → zL, reduceAdd → zM, reduceSub → zN, reduceMul → zO, reduceNeg → zP
attribute [local go_sem] argEnv W_nil W_seq W_skip W_ret W_exit W_scope W_block W_blk W_reg W_regD W_cond WC_t WC_f WC_any Wx_c Wx_ops Wx_lp Wx_blk W_ops_nil W_opsD_q W_guard W_guardD WG_tt WG_ff WG_tf WG_ft WG_u WGD_tt WGD_ff WGD_tf WGD_ft WGD_u WE_some WED_some W_more W_mv W_pick W_new W_box W_build W_bsl W_ld1 W_ldn W_st W_nck W_bin W_eqb W_not W_cvt W_fad W_fld1 W_fldn W_ixa W_ixr W_ix1 W_ixs W_len W_lens W_mkf W_ext W_app W_min W_isnp W_isns W_eqs W_neg W_ixn W_sli W_sls WD_more WD_mv WD_pick WD_new WD_box WD_build WD_bsl WD_ld1 WD_ldn WD_st WD_nck WD_bin WD_eqb WD_not WD_cvt WD_fad WD_fld1 WD_fldn WD_ixa WD_ixr WD_ix1 WD_ixs WD_len WD_lens WD_mkf WD_ext WD_app WD_min WD_isnp WD_isns WD_eqs WD_neg WD_ixn WD_sli WD_sls effF effM bytesOf Opd.ev getE putE binV LV.int LV.bool LV.undef Go.undef LV.cells LV.toD LV.toDs splice fillL rowsOf boxOf srcRows updL objL Eff.owned nwp St.get St.obj St.put Value.oneCell' Ends adopt Ad.ap isNil St.keep St.okKeep okObj idl idlL idlO RVs.of RV.of oneOr Ends0 EndsO_iff frzs rn rnL rnO piOf eqCells eqV boundV Option.map_some Option.map_none List.append_nil List.nil_append List.cons_append List.map_nil List.map_cons List.length_nil List.length_cons List.set_cons_zero List.set_cons_succ List.take_succ_cons List.take_zero List.take_nil List.drop_succ_cons List.drop_zero List.drop_nil List.getElem?_cons_zero List.getElem?_cons_succ List.getElem?_nil List.isEmpty_nil List.isEmpty_cons List.all_cons List.all_nil List.isEmpty_nil cond_true cond_false Bool.true_and Bool.false_and Bool.and_true Bool.and_false Bool.not_true Bool.not_false Bool.or_true Bool.true_or Bool.or_false Bool.false_or true_and and_true true_or or_true Option.some.injEq LV.d.injEq DV.val.injEq Value.bool.injEq Value.int.injEq decide_true decide_false and_self Nat.zero_add Nat.add_zero if_true if_false Int.toNat_zero beq_self_eq_true Nat.zero_lt_succ Int.toNat_natCast Int.natCast_nonneg List.length_map i64 bl List.zip_cons_cons List.zip_nil_left List.zip_nil_right nwp confV stateV nodeV jobV nodesV jobsV opV msgV nodeR jobR opR msgR zeroOp zeroMsg msgsV
variable {G : Nat → Option (List DV)}

/-- dunnageref23.digits -/
def ir33 : Nat × C × List RV := (17,
(.seq (.reg [⟨(some 2), .mv (.c (.val (.string ⟨#[]⟩))), none, []⟩])
 (.seq (.seq (.reg [⟨(some 3), .mv (.t 0), none, []⟩,
 ⟨(some 4), .bin .lss (.t 3) (.c (.val (.int .i64 10))), none, []⟩])
 (.cond (.t 4) (.seq (.reg [⟨(some 5), .mv (.t 0), none, []⟩,
 ⟨(some 6), .bin .add (.c (.val (.int .i64 48))) (.t 5), none, []⟩,
 ⟨(some 7), .cvt .u8 (.t 6), none, []⟩,
 ⟨(some 8), .bsl 5 1 [(.t 7)], none, []⟩,
 ⟨(some 9), .more (.b2s (.t 8)), none, []⟩,
 ⟨(some 2), .mv (.t 9), none, []⟩])
 .ret)
 .skip))
 (.seq (.reg [⟨(some 10), .mv (.t 0), none, []⟩,
 ⟨(some 11), .bin .quo (.t 10) (.c (.val (.int .i64 10))), none, []⟩,
 ⟨(some 12), .call (.f 33) [(.t 11)], none, []⟩,
 ⟨(some 13), .mv (.t 0), none, []⟩,
 ⟨(some 14), .bin .rem (.t 13) (.c (.val (.int .i64 10))), none, []⟩,
 ⟨(some 15), .call (.f 33) [(.t 14)], none, []⟩,
 ⟨(some 16), .bin .add (.t 12) (.t 15), none, []⟩,
 ⟨(some 2), .mv (.t 16), none, []⟩])
 .ret))),
[(.t 2)])
theorem irOk33 : convFn Tryd.prog Tryd.f33 = some ir33 := by kernel_rfl
/-- dunnageref23.value -/
def ir26 : Nat × C × List RV := (34,
(.seq (.reg [⟨(some 2), .mv (.c (.val (.int .i64 0))), none, []⟩])
 (.seq (.reg [⟨(some 3), .mv (.c (.val (.int .i64 0))), none, []⟩])
 (.seq (.seq (.reg [⟨(some 4), .mv (.c (.val (.int .i64 0))), none, []⟩])
 (.block 0 (.loop (.seq (.seq (.reg [⟨(some 5), .mv (.t 4), none, []⟩,
 ⟨(some 6), .mv (.t 0), none, []⟩,
 ⟨(some 7), .lens (.t 6), none, []⟩,
 ⟨(some 8), .bin .lss (.t 5) (.t 7), none, []⟩,
 ⟨(some 9), .mv (.t 8), none, []⟩,
 ⟨(some 10), .mv (.t 4), (some (9, true)), []⟩,
 ⟨(some 11), .bin .lss (.t 10) (.c (.val (.int .i64 8))), (some (9, true)), []⟩,
 ⟨(some 12), .pick (.t 9) (.t 11) (.c (.val (.bool false))), none, []⟩])
 (.cond (.t 12) .skip
 (.exit 0)))
 (.seq (.block 1 (.seq (.reg [⟨(some 15), .mv (.t 0), none, []⟩,
 ⟨(some 16), .mv (.t 4), none, []⟩,
 ⟨(some 17), .ixs (.t 15) (.t 16), none, []⟩,
 ⟨(some 18), .bin .geq (.t 17) (.c (.val (.int .u8 48))), none, []⟩,
 ⟨(some 19), .mv (.t 18), none, []⟩,
 ⟨(some 20), .mv (.t 0), (some (19, true)), []⟩,
 ⟨(some 21), .mv (.t 4), (some (19, true)), []⟩,
 ⟨(some 22), .ixs (.t 20) (.t 21), (some (19, true)), []⟩,
 ⟨(some 23), .bin .leq (.t 22) (.c (.val (.int .u8 57))), (some (19, true)), []⟩,
 ⟨(some 24), .pick (.t 19) (.t 23) (.c (.val (.bool false))), none, []⟩])
 (.cond (.t 24) (.reg [⟨(some 25), .mv (.t 3), none, []⟩,
 ⟨(some 26), .bin .mul (.t 25) (.c (.val (.int .i64 10))), none, []⟩,
 ⟨(some 27), .mv (.t 0), none, []⟩,
 ⟨(some 28), .mv (.t 4), none, []⟩,
 ⟨(some 29), .ixs (.t 27) (.t 28), none, []⟩,
 ⟨(some 30), .cvt .i64 (.t 29), none, []⟩,
 ⟨(some 31), .bin .add (.t 26) (.t 30), none, []⟩,
 ⟨(some 32), .bin .sub (.t 31) (.c (.val (.int .i64 48))), none, []⟩,
 ⟨(some 3), .mv (.t 32), none, []⟩])
 .skip)))
 (.reg [⟨(some 13), .mv (.t 4), none, []⟩,
 ⟨(some 14), .bin .add (.t 13) (.c (.val (.int .i64 1))), none, []⟩,
 ⟨(some 4), .mv (.t 14), none, []⟩]))))))
 (.seq (.reg [⟨(some 33), .mv (.t 3), none, []⟩,
 ⟨(some 2), .mv (.t 33), none, []⟩])
 .ret)))),
[(.t 2)])
theorem irOk26 : convFn Tryd.prog Tryd.f26 = some ir26 := by kernel_rfl
/-- script.number -/
def ir39 : Nat × C × List RV := (46,
(.seq (.reg [⟨(some 2), .mv (.c (.val (.int .i64 0))), none, []⟩])
 (.seq (.seq (.reg [⟨(some 5), .mv (.t 0), none, []⟩,
 ⟨(some 6), .bin .eql (.t 5) (.c (.val (.string ⟨#[]⟩))), none, []⟩,
 ⟨(some 7), .mv (.t 6), none, []⟩,
 ⟨(some 8), .mv (.t 0), (some (7, false)), []⟩,
 ⟨(some 9), .lens (.t 8), (some (7, false)), []⟩,
 ⟨(some 10), .bin .gtr (.t 9) (.c (.val (.int .i64 7))), (some (7, false)), []⟩,
 ⟨(some 11), .pick (.t 7) (.c (.val (.bool true))) (.t 10), none, []⟩,
 ⟨(some 12), .mv (.t 11), none, []⟩,
 ⟨(some 13), .mv (.t 0), (some (12, false)), []⟩,
 ⟨(some 14), .ixs (.t 13) (.c (.val (.int .i64 0))), (some (12, false)), []⟩,
 ⟨(some 15), .bin .eql (.t 14) (.c (.val (.int .u8 48))), (some (12, false)), []⟩,
 ⟨(some 16), .mv (.t 15), (some (12, false)), []⟩,
 ⟨(some 17), .mv (.t 0), (some (16, true)), []⟩,
 ⟨(some 18), .bin .neq (.t 17) (.c (.val (.string ⟨#[48]⟩))), (some (16, true)), []⟩,
 ⟨(some 19), .pick (.t 16) (.t 18) (.c (.val (.bool false))), (some (12, false)), []⟩,
 ⟨(some 20), .pick (.t 12) (.c (.val (.bool true))) (.t 19), none, []⟩])
 (.cond (.t 20) (.seq (.reg [⟨(some 2), .mv (.c (.val (.int .i64 (-1)))), none, []⟩])
 .ret)
 .skip))
 (.seq (.reg [⟨(some 3), .mv (.c (.val (.int .i64 0))), none, []⟩])
 (.seq (.seq (.reg [⟨(some 21), .mv (.t 0), none, []⟩,
 ⟨(some 22), .lens (.t 21), none, []⟩,
 ⟨(some 23), .mv (.c (.val (.int .i64 0))), none, []⟩])
 (.block 0 (.loop (.seq (.reg [⟨(some 24), .bin .lss (.t 23) (.t 22), none, []⟩])
 (.seq (.cond (.t 24) .skip
 (.exit 0))
 (.seq (.block 1 (.seq (.reg [⟨(some 25), .mv (.t 23), none, []⟩,
 ⟨(some 4), .mv (.t 25), none, []⟩])
 (.seq (.seq (.reg [⟨(some 26), .mv (.t 0), none, []⟩,
 ⟨(some 27), .mv (.t 4), none, []⟩,
 ⟨(some 28), .ixs (.t 26) (.t 27), none, []⟩,
 ⟨(some 29), .bin .lss (.t 28) (.c (.val (.int .u8 48))), none, []⟩,
 ⟨(some 30), .mv (.t 29), none, []⟩,
 ⟨(some 31), .mv (.t 0), (some (30, false)), []⟩,
 ⟨(some 32), .mv (.t 4), (some (30, false)), []⟩,
 ⟨(some 33), .ixs (.t 31) (.t 32), (some (30, false)), []⟩,
 ⟨(some 34), .bin .gtr (.t 33) (.c (.val (.int .u8 57))), (some (30, false)), []⟩,
 ⟨(some 35), .pick (.t 30) (.c (.val (.bool true))) (.t 34), none, []⟩])
 (.cond (.t 35) (.seq (.reg [⟨(some 2), .mv (.c (.val (.int .i64 (-1)))), none, []⟩])
 .ret)
 .skip))
 (.reg [⟨(some 36), .mv (.t 3), none, []⟩,
 ⟨(some 37), .bin .mul (.c (.val (.int .i64 10))) (.t 36), none, []⟩,
 ⟨(some 38), .mv (.t 0), none, []⟩,
 ⟨(some 39), .mv (.t 4), none, []⟩,
 ⟨(some 40), .ixs (.t 38) (.t 39), none, []⟩,
 ⟨(some 41), .bin .sub (.t 40) (.c (.val (.int .u8 48))), none, []⟩,
 ⟨(some 42), .cvt .i64 (.t 41), none, []⟩,
 ⟨(some 43), .bin .add (.t 37) (.t 42), none, []⟩,
 ⟨(some 3), .mv (.t 43), none, []⟩]))))
 (.reg [⟨(some 44), .bin .add (.t 23) (.c (.val (.int .i64 1))), none, []⟩,
 ⟨(some 23), .mv (.t 44), none, []⟩])))))))
 (.seq (.reg [⟨(some 45), .mv (.t 3), none, []⟩,
 ⟨(some 2), .mv (.t 45), none, []⟩])
 .ret))))),
[(.t 2)])
theorem irOk39 : convFn Tryd.prog Tryd.f39 = some ir39 := by kernel_rfl


def opPart (e : EntD) : Bool := if hasOp e.kind = true then opOkB e.op else decide (e.op = zeroOp)
theorem fitsE_iff (n : Int) (has : Bool) : fitsE n has = true ↔ 0 ≤ n ∧ n ≤ 1000000 ∧ (has = false → n = 0) := by
  unfold fitsE
  cases has <;> simp <;> omega
theorem entOk_eq (e : EntD) : entOkB e = (decide (1 ≤ e.kind ∧ e.kind ≤ 14 ∧ 0 ≤ e.a ∧ e.a ≤ 1000000 ∧ 0 ≤ e.b ∧ e.b ≤ 1000000 ∧ (manyE e.kind < 2 → e.b = 0) ∧ (manyE e.kind < 1 → e.a = 0)) && opPart e) := by
  rw [Bool.eq_iff_iff]
  unfold entOkB
  rw [show (if hasOp e.kind = true then opOkB e.op else decide (e.op = zeroOp)) = opPart e from rfl]
  simp only [Bool.and_eq_true, fitsE_iff, decide_eq_true_eq, decide_eq_false_iff_not]
  constructor
  · rintro ⟨⟨⟨h1, h2⟩, h3⟩, h4⟩
    exact ⟨⟨h1.1, h1.2, h3.1, h3.2.1, h4.1, h4.2.1, fun h => h4.2.2 (by omega), fun h => h3.2.2 (by omega)⟩, h2⟩
  · rintro ⟨⟨a1, a2, a3, a4, a5, a6, a7, a8⟩, h2⟩
    exact ⟨⟨⟨⟨a1, a2⟩, h2⟩, a3, a4, fun h => a8 (by omega)⟩, a5, a6, fun h => a7 (by omega)⟩
theorem hasOp_eq (k : Int) : hasOp k = (decide (k = 11) || decide (k = 13)) := by unfold hasOp; rw [Bool.eq_iff_iff]; simp
set_option maxHeartbeats 2000000 in
theorem entRight23_tri (e : EntD) : Tri Tryd.prog G 11 [entV e] [] (.bool (entOkB e)) [] := by
  refine tri_W0 Tryd.func11 (by decide) irOk11 (Nat.le_of_ble_eq_true rfl) rfl ?_
  simp only [ir11, go_sem, ↓reduceIte, zA, zB, zC, zD, zE, zF, reduceCtorEq, zG, zH, zI, zJ, zK, zL, zM, zN, zO, zP]
  generalize hq : entOkB e = q
  rw [entOk_eq] at hq
  have off : ¬ (1 ≤ e.kind ∧ e.kind ≤ 14 ∧ 0 ≤ e.a ∧ e.a ≤ 1000000 ∧ 0 ≤ e.b ∧ e.b ≤ 1000000 ∧ (manyE e.kind < 2 → e.b = 0) ∧ (manyE e.kind < 1 → e.a = 0)) → q = false := fun h => by rw [← hq, decide_eq_false h, Bool.false_and]
  by_cases c1 : e.kind < 1
  · obtain rfl := off (fun h => by omega)
    simp only [decide_eq_true c1, go_sem, ↓reduceIte, zA, zB, zC, zD, zE, zF, reduceCtorEq, zG, zH, zI, zJ, zK, zL, zM, zN, zO, zP]
  by_cases c2 : e.kind > 14
  · obtain rfl := off (fun h => by omega)
    simp only [decide_eq_false c1, decide_eq_true c2, go_sem, ↓reduceIte, zA, zB, zC, zD, zE, zF, reduceCtorEq, zG, zH, zI, zJ, zK, zL, zM, zN, zO, zP]
  by_cases c3 : e.a < 0
  · obtain rfl := off (fun h => by omega)
    simp only [decide_eq_false c1, decide_eq_false c2, decide_eq_true c3, go_sem, ↓reduceIte, zA, zB, zC, zD, zE, zF, reduceCtorEq, zG, zH, zI, zJ, zK, zL, zM, zN, zO, zP]
  by_cases c4 : e.a > 1000000
  · obtain rfl := off (fun h => by omega)
    simp only [decide_eq_false c1, decide_eq_false c2, decide_eq_false c3, decide_eq_true c4, go_sem, ↓reduceIte, zA, zB, zC, zD, zE, zF, reduceCtorEq, zG, zH, zI, zJ, zK, zL, zM, zN, zO, zP]
  by_cases c5 : e.b < 0
  · obtain rfl := off (fun h => by omega)
    simp only [decide_eq_false c1, decide_eq_false c2, decide_eq_false c3, decide_eq_false c4, decide_eq_true c5, go_sem, ↓reduceIte, zA, zB, zC, zD, zE, zF, reduceCtorEq, zG, zH, zI, zJ, zK, zL, zM, zN, zO, zP]
  by_cases c6 : e.b > 1000000
  · obtain rfl := off (fun h => by omega)
    simp only [decide_eq_false c1, decide_eq_false c2, decide_eq_false c3, decide_eq_false c4, decide_eq_false c5, decide_eq_true c6, go_sem, ↓reduceIte, zA, zB, zC, zD, zE, zF, reduceCtorEq, zG, zH, zI, zJ, zK, zL, zM, zN, zO, zP]
  simp only [decide_eq_false c1, decide_eq_false c2, decide_eq_false c3, decide_eq_false c4, decide_eq_false c5, decide_eq_false c6, go_sem, ↓reduceIte, zA, zB, zC, zD, zE, zF, reduceCtorEq, zG, zH, zI, zJ, zK, zL, zM, zN, zO, zP]
  have hk0 : e.kind ≠ 0 := by omega
  refine W_calld (many23_tri e.kind hk0) rfl rfl rfl rfl ?_; simp only [go_sem, ↓reduceIte, zA, zB, zC, zD, zE, zF, reduceCtorEq, zG, zH, zI, zJ, zK, zL, zM, zN, zO, zP]
  have hm : manyE e.kind ≤ 2 := by unfold manyE; (repeat' split) <;> omega
  by_cases m2 : manyE e.kind < 2
  case pos =>
    by_cases b0 : e.b = 0
    case neg =>
      obtain rfl := off (fun h => by omega)
      simp only [decide_eq_true (show ((manyE e.kind : Nat) : Int) < 2 by omega), show (e.b != 0) = true from bne_iff_ne.2 b0, go_sem, ↓reduceIte, zA, zB, zC, zD, zE, zF, reduceCtorEq, zG, zH, zI, zJ, zK, zL, zM, zN, zO, zP]
    simp only [decide_eq_true (show ((manyE e.kind : Nat) : Int) < 2 by omega), show (e.b != 0) = false by rw [b0]; rfl, go_sem, ↓reduceIte, zA, zB, zC, zD, zE, zF, reduceCtorEq, zG, zH, zI, zJ, zK, zL, zM, zN, zO, zP]
    refine W_calld (many23_tri e.kind hk0) rfl rfl rfl rfl ?_; simp only [go_sem, ↓reduceIte, zA, zB, zC, zD, zE, zF, reduceCtorEq, zG, zH, zI, zJ, zK, zL, zM, zN, zO, zP]
    by_cases m1 : manyE e.kind < 1
    case pos =>
      by_cases a0 : e.a = 0
      case neg =>
        obtain rfl := off (fun h => by omega)
        simp only [decide_eq_true (show ((manyE e.kind : Nat) : Int) < 1 by omega), show (e.a != 0) = true from bne_iff_ne.2 a0, go_sem, ↓reduceIte, zA, zB, zC, zD, zE, zF, reduceCtorEq, zG, zH, zI, zJ, zK, zL, zM, zN, zO, zP]
      simp only [decide_eq_true (show ((manyE e.kind : Nat) : Int) < 1 by omega), show (e.a != 0) = false by rw [a0]; rfl, go_sem, ↓reduceIte, zA, zB, zC, zD, zE, zF, reduceCtorEq, zG, zH, zI, zJ, zK, zL, zM, zN, zO, zP]
      have hq2 : opPart e = q := by rw [← hq, decide_eq_true (by omega), Bool.true_and]
      unfold opPart at hq2
      rw [hasOp_eq] at hq2
      by_cases k11 : e.kind = 11
      · rw [decide_eq_true k11, Bool.true_or, if_pos rfl] at hq2
        simp only [show (e.kind == 11) = true from beq_iff_eq.2 k11, go_sem, ↓reduceIte, zA, zB, zC, zD, zE, zF, reduceCtorEq, zG, zH, zI, zJ, zK, zL, zM, zN, zO, zP]
        refine W_calld (ops8Right_tri e.op) rfl rfl rfl rfl ?_; simp only [go_sem, ↓reduceIte, zA, zB, zC, zD, zE, zF, reduceCtorEq, zG, zH, zI, zJ, zK, zL, zM, zN, zO, zP]
        simp only [hq2, go_sem, ↓reduceIte, zA, zB, zC, zD, zE, zF, reduceCtorEq, zG, zH, zI, zJ, zK, zL, zM, zN, zO, zP]
      · by_cases k13 : e.kind = 13
        · rw [decide_eq_true k13, Bool.or_true, if_pos rfl] at hq2
          simp only [show (e.kind == 11) = false from beq_eq_false_iff_ne.2 k11, show (e.kind == 13) = true from beq_iff_eq.2 k13, go_sem, ↓reduceIte, zA, zB, zC, zD, zE, zF, reduceCtorEq, zG, zH, zI, zJ, zK, zL, zM, zN, zO, zP]
          refine W_calld (ops8Right_tri e.op) rfl rfl rfl rfl ?_; simp only [go_sem, ↓reduceIte, zA, zB, zC, zD, zE, zF, reduceCtorEq, zG, zH, zI, zJ, zK, zL, zM, zN, zO, zP]
          simp only [hq2, go_sem, ↓reduceIte, zA, zB, zC, zD, zE, zF, reduceCtorEq, zG, zH, zI, zJ, zK, zL, zM, zN, zO, zP]
        · rw [decide_eq_false k11, decide_eq_false k13, Bool.or_false, if_neg (by decide)] at hq2
          rw [← zop_eq] at hq2
          simp only [show (e.kind == 11) = false from beq_eq_false_iff_ne.2 k11, show (e.kind == 13) = false from beq_eq_false_iff_ne.2 k13, hq2, go_sem, ↓reduceIte, zA, zB, zC, zD, zE, zF, reduceCtorEq, zG, zH, zI, zJ, zK, zL, zM, zN, zO, zP]
    simp only [decide_eq_false (show ¬ ((manyE e.kind : Nat) : Int) < 1 by omega), go_sem, ↓reduceIte, zA, zB, zC, zD, zE, zF, reduceCtorEq, zG, zH, zI, zJ, zK, zL, zM, zN, zO, zP]
    have hq2 : opPart e = q := by rw [← hq, decide_eq_true (by omega), Bool.true_and]
    unfold opPart at hq2
    rw [hasOp_eq] at hq2
    by_cases k11 : e.kind = 11
    · rw [decide_eq_true k11, Bool.true_or, if_pos rfl] at hq2
      simp only [show (e.kind == 11) = true from beq_iff_eq.2 k11, go_sem, ↓reduceIte, zA, zB, zC, zD, zE, zF, reduceCtorEq, zG, zH, zI, zJ, zK, zL, zM, zN, zO, zP]
      refine W_calld (ops8Right_tri e.op) rfl rfl rfl rfl ?_; simp only [go_sem, ↓reduceIte, zA, zB, zC, zD, zE, zF, reduceCtorEq, zG, zH, zI, zJ, zK, zL, zM, zN, zO, zP]
      simp only [hq2, go_sem, ↓reduceIte, zA, zB, zC, zD, zE, zF, reduceCtorEq, zG, zH, zI, zJ, zK, zL, zM, zN, zO, zP]
    · by_cases k13 : e.kind = 13
      · rw [decide_eq_true k13, Bool.or_true, if_pos rfl] at hq2
        simp only [show (e.kind == 11) = false from beq_eq_false_iff_ne.2 k11, show (e.kind == 13) = true from beq_iff_eq.2 k13, go_sem, ↓reduceIte, zA, zB, zC, zD, zE, zF, reduceCtorEq, zG, zH, zI, zJ, zK, zL, zM, zN, zO, zP]
        refine W_calld (ops8Right_tri e.op) rfl rfl rfl rfl ?_; simp only [go_sem, ↓reduceIte, zA, zB, zC, zD, zE, zF, reduceCtorEq, zG, zH, zI, zJ, zK, zL, zM, zN, zO, zP]
        simp only [hq2, go_sem, ↓reduceIte, zA, zB, zC, zD, zE, zF, reduceCtorEq, zG, zH, zI, zJ, zK, zL, zM, zN, zO, zP]
      · rw [decide_eq_false k11, decide_eq_false k13, Bool.or_false, if_neg (by decide)] at hq2
        rw [← zop_eq] at hq2
        simp only [show (e.kind == 11) = false from beq_eq_false_iff_ne.2 k11, show (e.kind == 13) = false from beq_eq_false_iff_ne.2 k13, hq2, go_sem, ↓reduceIte, zA, zB, zC, zD, zE, zF, reduceCtorEq, zG, zH, zI, zJ, zK, zL, zM, zN, zO, zP]
  simp only [decide_eq_false (show ¬ ((manyE e.kind : Nat) : Int) < 2 by omega), go_sem, ↓reduceIte, zA, zB, zC, zD, zE, zF, reduceCtorEq, zG, zH, zI, zJ, zK, zL, zM, zN, zO, zP]
  refine W_calld (many23_tri e.kind hk0) rfl rfl rfl rfl ?_; simp only [go_sem, ↓reduceIte, zA, zB, zC, zD, zE, zF, reduceCtorEq, zG, zH, zI, zJ, zK, zL, zM, zN, zO, zP]
  simp only [decide_eq_false (show ¬ ((manyE e.kind : Nat) : Int) < 1 by omega), go_sem, ↓reduceIte, zA, zB, zC, zD, zE, zF, reduceCtorEq, zG, zH, zI, zJ, zK, zL, zM, zN, zO, zP]
  have hq2 : opPart e = q := by rw [← hq, decide_eq_true (by omega), Bool.true_and]
  unfold opPart at hq2
  rw [hasOp_eq] at hq2
  by_cases k11 : e.kind = 11
  · rw [decide_eq_true k11, Bool.true_or, if_pos rfl] at hq2
    simp only [show (e.kind == 11) = true from beq_iff_eq.2 k11, go_sem, ↓reduceIte, zA, zB, zC, zD, zE, zF, reduceCtorEq, zG, zH, zI, zJ, zK, zL, zM, zN, zO, zP]
    refine W_calld (ops8Right_tri e.op) rfl rfl rfl rfl ?_; simp only [go_sem, ↓reduceIte, zA, zB, zC, zD, zE, zF, reduceCtorEq, zG, zH, zI, zJ, zK, zL, zM, zN, zO, zP]
    simp only [hq2, go_sem, ↓reduceIte, zA, zB, zC, zD, zE, zF, reduceCtorEq, zG, zH, zI, zJ, zK, zL, zM, zN, zO, zP]
  · by_cases k13 : e.kind = 13
    · rw [decide_eq_true k13, Bool.or_true, if_pos rfl] at hq2
      simp only [show (e.kind == 11) = false from beq_eq_false_iff_ne.2 k11, show (e.kind == 13) = true from beq_iff_eq.2 k13, go_sem, ↓reduceIte, zA, zB, zC, zD, zE, zF, reduceCtorEq, zG, zH, zI, zJ, zK, zL, zM, zN, zO, zP]
      refine W_calld (ops8Right_tri e.op) rfl rfl rfl rfl ?_; simp only [go_sem, ↓reduceIte, zA, zB, zC, zD, zE, zF, reduceCtorEq, zG, zH, zI, zJ, zK, zL, zM, zN, zO, zP]
      simp only [hq2, go_sem, ↓reduceIte, zA, zB, zC, zD, zE, zF, reduceCtorEq, zG, zH, zI, zJ, zK, zL, zM, zN, zO, zP]
    · rw [decide_eq_false k11, decide_eq_false k13, Bool.or_false, if_neg (by decide)] at hq2
      rw [← zop_eq] at hq2
      simp only [show (e.kind == 11) = false from beq_eq_false_iff_ne.2 k11, show (e.kind == 13) = false from beq_eq_false_iff_ne.2 k13, hq2, go_sem, ↓reduceIte, zA, zB, zC, zD, zE, zF, reduceCtorEq, zG, zH, zI, zJ, zK, zL, zM, zN, zO, zP]

/-! numbers as words, words as numbers -/
theorem digits23_step (n : Int) (h0 : 0 ≤ n) (h1 : n ≤ 1000000) (ih : ∀ m : Int, 0 ≤ m → m ≤ 1000000 → 10 ≤ n → m.toNat < n.toNat → Tri Tryd.prog G 33 [.int m] [] (.d (.val (.string (itoaB m)))) []) : Tri Tryd.prog G 33 [.int n] [] (.d (.val (.string (itoaB n)))) [] := by
  have hz1 := itoaB_size (n / 10) (by omega) (by omega)
  have hz2 := itoaB_size (n % 10) (by omega) (by omega)
  refine tri_W0 Tryd.func33 (by decide) irOk33 (Nat.le_of_ble_eq_true rfl) rfl ?_
  simp only [ir33, go_sem, ↓reduceIte, zA, zB, zC, zD, zE, zF, reduceCtorEq, zG, zH, zI, zJ, zK, zL, zM, zN, zO, zP]
  by_cases hlt : n < 10
  · have w1 : IntKind.i64.wrap (48 + n) = 48 + n := wrap_in (by omega) (by omega)
    have w2 : IntKind.u8.wrap (48 + n) = 48 + n := by
      simp only [IntKind.wrap, IntKind.bits, IntKind.signed, Bool.false_and, Bool.false_eq_true, if_false]
      omega
    have w5 : (48 + n).toNat = 48 + n.toNat := by omega
    simp only [decide_eq_true hlt, w1, w2, w5, itoaB_lt n h0 hlt, go_sem, ↓reduceIte, zA, zB, zC, zD, zE, zF, reduceCtorEq, zG, zH, zI, zJ, zK, zL, zM, zN, zO, zP]
  · have hq : n.tdiv 10 = n / 10 := Int.tdiv_eq_ediv_of_nonneg h0
    have hr : n.tmod 10 = n % 10 := Int.tmod_eq_emod_of_nonneg h0
    have w3 : IntKind.i64.wrap (n / 10) = n / 10 := wrap_in (by omega) (by omega)
    have w4 : IntKind.i64.wrap (n % 10) = n % 10 := wrap_in (by omega) (by omega)
    have h10 : ((10 : Int) ≠ 0) = True := by simp
    have hadd : (itoaB (n / 10)).size + (itoaB (n % 10)).size ≤ 9223372036854775807 := by omega
    simp only [decide_eq_false hlt, hq, hr, w3, w4, h10, if_true, go_sem, ↓reduceIte, zA, zB, zC, zD, zE, zF, reduceCtorEq, zG, zH, zI, zJ, zK, zL, zM, zN, zO, zP]
    refine W_calld (ih (n / 10) (by omega) (by omega) (by omega) (by omega)) rfl rfl rfl rfl ?_
    simp only [h10, hr, w4, if_true, go_sem, ↓reduceIte, zA, zB, zC, zD, zE, zF, reduceCtorEq, zG, zH, zI, zJ, zK, zL, zM, zN, zO, zP]
    refine W_calld (ih (n % 10) (by omega) (by omega) (by omega) (by omega)) rfl rfl rfl rfl ?_
    rw [itoaB_ge n (by omega)]
    simp only [hadd, if_true, go_sem, ↓reduceIte, zA, zB, zC, zD, zE, zF, reduceCtorEq, zG, zH, zI, zJ, zK, zL, zM, zN, zO, zP]
theorem digits23_triF : ∀ (f : Nat) (n : Int), n.toNat < f → 0 ≤ n → n ≤ 1000000 → Tri Tryd.prog G 33 [.int n] [] (.d (.val (.string (itoaB n)))) []
  | 0, n, hf, _, _ => absurd hf (Nat.not_lt_zero _)
  | f + 1, n, hf, h0, h1 => digits23_step n h0 h1 fun m hm0 hm1 _ hlt => digits23_triF f m (by omega) hm0 hm1
theorem digits23_tri (n : Int) (h0 : 0 ≤ n) (h1 : n ≤ 1000000) : Tri Tryd.prog G 33 [.int n] [] (.d (.val (.string (itoaB n)))) [] := digits23_triF (n.toNat + 1) n (Nat.lt_succ_self _) h0 h1
set_option maxHeartbeats 1000000 in
theorem number23_tri (s : ByteArray) : Tri Tryd.prog G 39 [.d (.val (.string s))] [] (.int (numW s)) [] := by
  have hbl := bs_len s
  generalize hq : numW s = q
  unfold numW at hq
  refine tri_W0 Tryd.func39 (by decide) irOk39 (Nat.le_of_ble_eq_true rfl) rfl ?_
  simp only [ir39, go_sem, ↓reduceIte, zA, zB, zC, zD, zE, zF, reduceCtorEq, zG, zH, zI, zJ, zK, zL, zM, zN, zO, zP]
  simp only [nil_eqb, c48_eqb, go_sem, ↓reduceIte, zA, zB, zC, zD, zE, zF, reduceCtorEq, zG, zH, zI, zJ, zK, zL, zM, zN, zO, zP]
  by_cases h0 : s.size = 0
  · rw [if_pos (.inl h0)] at hq
    simp only [h0, hq, go_sem, ↓reduceIte, zA, zB, zC, zD, zE, zF, reduceCtorEq, zG, zH, zI, zJ, zK, zL, zM, zN, zO, zP]
  by_cases h7 : 7 < s.size
  · rw [if_pos (.inr (.inl h7))] at hq
    simp only [h0, hq, show ((s.size : Nat) : Int) > 7 from by omega, go_sem, ↓reduceIte, zA, zB, zC, zD, zE, zF, reduceCtorEq, zG, zH, zI, zJ, zK, zL, zM, zN, zO, zP]
  have hnn : s.data.toList ≠ [] := by intro h; rw [h] at hbl; simp at hbl; omega
  obtain ⟨b, l, hd⟩ := List.exists_cons_of_ne_nil hnn
  have hb8 : ((b.toNat : Int) == 48) = decide (b = 48) := by
    rw [Bool.eq_iff_iff, beq_iff_eq, decide_eq_true_eq]
    constructor
    · intro h; exact UInt8.toNat_inj.1 (by rw [show b.toNat = 48 by omega]; rfl)
    · intro h; rw [h]; rfl
  simp only [h0, hd, hb8, show ¬ ((s.size : Nat) : Int) > 7 from by omega, go_sem, ↓reduceIte, zA, zB, zC, zD, zE, zF, reduceCtorEq, zG, zH, zI, zJ, zK, zL, zM, zN, zO, zP]
  by_cases hz : b = 48 ∧ s ≠ ⟨#[48]⟩
  · rw [if_pos (.inr (.inr ⟨by rw [hd, hz.1]; rfl, hz.2⟩))] at hq
    simp only [hz.1, hz.2, hq, c48_eqb, go_sem, ↓reduceIte, zA, zB, zC, zD, zE, zF, reduceCtorEq, zG, zH, zI, zJ, zK, zL, zM, zN, zO, zP]
  have hnz : ¬ (s.size = 0 ∨ 7 < s.size ∨ (s.data.toList[0]? = some 48 ∧ s ≠ ⟨#[48]⟩)) := by
    rintro (h | h | ⟨h, h2⟩)
    · exact h0 h
    · exact h7 h
    · exact hz ⟨by rw [hd] at h; exact Option.some.inj h, h2⟩
  rw [if_neg hnz] at hq
  have hz2 : (decide (b = 48)) = true → s = ⟨#[48]⟩ := fun h => Decidable.byContradiction fun h2 => hz ⟨of_decide_eq_true h, h2⟩
  have hgo : (∃ u, b = 48 ∧ s = ⟨#[48]⟩ ∧ u = 0) ∨ b ≠ 48 := by
    by_cases hb : b = 48
    · exact .inl ⟨0, hb, hz2 (decide_eq_true hb), rfl⟩
    · exact .inr hb
  rcases hgo with ⟨_, hb, hs, _⟩ | hb
  · simp only [hb, c48_eqb, decide_eq_true hs, go_sem, ↓reduceIte, zA, zB, zC, zD, zE, zF, reduceCtorEq, zG, zH, zI, zJ, zK, zL, zM, zN, zO, zP]
    refine W_loopI [0, 3, 22, 23] [] (fun p : Nat × Int => p.1 ≤ s.size ∧ 0 ≤ p.2 ∧ p.2 < 10 ^ p.1 ∧ numGo (s.data.toList.drop p.1) p.2 = q) (fun p => s.size - p.1) (nmbS s) (0, 0) ?_ ⟨Nat.zero_le _, Int.le_refl _, by decide, by rw [← hq]; rfl⟩ ?_
    · simp only [nmbS, Int.natCast_zero, go_sem, ↓reduceIte, zA, zB, zC, zD, zE, zF, reduceCtorEq, zG, zH, zI, zJ, zK, zL, zM, zN, zO, zP]
    rintro ⟨i, n⟩ ⟨hi, hn0, hn1, hF⟩
    dsimp only at hi hn0 hn1 hF
    simp only [nmbS, go_sem, ↓reduceIte, zA, zB, zC, zD, zE, zF, reduceCtorEq, zG, zH, zI, zJ, zK, zL, zM, zN, zO, zP]
    by_cases hlt : i < s.size
    case neg =>
      rw [List.drop_eq_nil_of_le (by omega), numGo] at hF
      simp only [decide_eq_false (show ¬ ((i : Nat) : Int) < ((s.size : Nat) : Int) by omega), hF, go_sem, ↓reduceIte, zA, zB, zC, zD, zE, zF, reduceCtorEq, zG, zH, zI, zJ, zK, zL, zM, zN, zO, zP]
    have hdi : s.data.toList.drop i = s.data.toList[i]'(by omega) :: s.data.toList.drop (i + 1) := List.drop_eq_getElem_cons (by omega)
    have hgi := List.getElem?_eq_getElem (show i < s.data.toList.length by omega)
    rw [hdi, numGo] at hF
    generalize s.data.toList[i]'(by omega) = c at *
    have hc := c.toNat_lt
    simp only [decide_eq_true (show ((i : Nat) : Int) < ((s.size : Nat) : Int) by omega), hgi, go_sem, ↓reduceIte, zA, zB, zC, zD, zE, zF, reduceCtorEq, zG, zH, zI, zJ, zK, zL, zM, zN, zO, zP]
    by_cases h48 : c.toNat < 48
    · rw [if_pos (.inl h48)] at hF
      simp only [decide_eq_true (show ((c.toNat : Nat) : Int) < 48 by omega), hF, go_sem, ↓reduceIte, zA, zB, zC, zD, zE, zF, reduceCtorEq, zG, zH, zI, zJ, zK, zL, zM, zN, zO, zP]
    by_cases h57 : 57 < c.toNat
    · rw [if_pos (.inr h57)] at hF
      simp only [decide_eq_false (show ¬ ((c.toNat : Nat) : Int) < 48 by omega), decide_eq_true (show ((c.toNat : Nat) : Int) > 57 by omega), hgi, hF, go_sem, ↓reduceIte, zA, zB, zC, zD, zE, zF, reduceCtorEq, zG, zH, zI, zJ, zK, zL, zM, zN, zO, zP]
    rw [if_neg (by omega)] at hF
    have hp : n < 10 ^ 6 := Int.lt_of_lt_of_le hn1 (by exact_mod_cast Nat.pow_le_pow_right (by decide) (show i ≤ 6 by omega))
    simp only [decide_eq_false (show ¬ ((c.toNat : Nat) : Int) < 48 by omega), decide_eq_false (show ¬ ((c.toNat : Nat) : Int) > 57 by omega), hgi, go_sem, ↓reduceIte, zA, zB, zC, zD, zE, zF, reduceCtorEq, zG, zH, zI, zJ, zK, zL, zM, zN, zO, zP]
    have w1 : IntKind.i64.wrap (10 * n) = 10 * n := wrap_in (by omega) (by omega)
    have w2 : IntKind.u8.wrap ((c.toNat : Int) - 48) = (c.toNat : Int) - 48 := u8_in _ (by omega) (by omega)
    have w3 : IntKind.i64.wrap ((c.toNat : Int) - 48) = (c.toNat : Int) - 48 := wrap_in (by omega) (by omega)
    have w4 : IntKind.i64.wrap (10 * n + ((c.toNat : Int) - 48)) = 10 * n + ((c.toNat : Int) - 48) := wrap_in (by omega) (by omega)
    refine W_lpI (i + 1, 10 * n + ((c.toNat : Int) - 48)) ?_ ?_ ⟨by dsimp only; omega, by dsimp only; omega, by dsimp only; rw [Int.pow_succ]; omega, hF⟩ (by dsimp only; omega)
    · simp only [go_sem, ↓reduceIte, zA, zB, zC, zD, zE, zF, reduceCtorEq, zG, zH, zI, zJ, zK, zL, zM, zN, zO, zP]
    · simp only [nmbS, w1, w2, w3, w4, wrap_succ (show i < 9223372036854775807 by omega), go_sem, ↓reduceIte, zA, zB, zC, zD, zE, zF, reduceCtorEq, zG, zH, zI, zJ, zK, zL, zM, zN, zO, zP]
  · simp only [hb, go_sem, ↓reduceIte, zA, zB, zC, zD, zE, zF, reduceCtorEq, zG, zH, zI, zJ, zK, zL, zM, zN, zO, zP]
    refine W_loopI [0, 3, 22, 23] [] (fun p : Nat × Int => p.1 ≤ s.size ∧ 0 ≤ p.2 ∧ p.2 < 10 ^ p.1 ∧ numGo (s.data.toList.drop p.1) p.2 = q) (fun p => s.size - p.1) (nmbS s) (0, 0) ?_ ⟨Nat.zero_le _, Int.le_refl _, by decide, by rw [← hq]; rfl⟩ ?_
    · simp only [nmbS, Int.natCast_zero, go_sem, ↓reduceIte, zA, zB, zC, zD, zE, zF, reduceCtorEq, zG, zH, zI, zJ, zK, zL, zM, zN, zO, zP]
    rintro ⟨i, n⟩ ⟨hi, hn0, hn1, hF⟩
    dsimp only at hi hn0 hn1 hF
    simp only [nmbS, go_sem, ↓reduceIte, zA, zB, zC, zD, zE, zF, reduceCtorEq, zG, zH, zI, zJ, zK, zL, zM, zN, zO, zP]
    by_cases hlt : i < s.size
    case neg =>
      rw [List.drop_eq_nil_of_le (by omega), numGo] at hF
      simp only [decide_eq_false (show ¬ ((i : Nat) : Int) < ((s.size : Nat) : Int) by omega), hF, go_sem, ↓reduceIte, zA, zB, zC, zD, zE, zF, reduceCtorEq, zG, zH, zI, zJ, zK, zL, zM, zN, zO, zP]
    have hdi : s.data.toList.drop i = s.data.toList[i]'(by omega) :: s.data.toList.drop (i + 1) := List.drop_eq_getElem_cons (by omega)
    have hgi := List.getElem?_eq_getElem (show i < s.data.toList.length by omega)
    rw [hdi, numGo] at hF
    generalize s.data.toList[i]'(by omega) = c at *
    have hc := c.toNat_lt
    simp only [decide_eq_true (show ((i : Nat) : Int) < ((s.size : Nat) : Int) by omega), hgi, go_sem, ↓reduceIte, zA, zB, zC, zD, zE, zF, reduceCtorEq, zG, zH, zI, zJ, zK, zL, zM, zN, zO, zP]
    by_cases h48 : c.toNat < 48
    · rw [if_pos (.inl h48)] at hF
      simp only [decide_eq_true (show ((c.toNat : Nat) : Int) < 48 by omega), hF, go_sem, ↓reduceIte, zA, zB, zC, zD, zE, zF, reduceCtorEq, zG, zH, zI, zJ, zK, zL, zM, zN, zO, zP]
    by_cases h57 : 57 < c.toNat
    · rw [if_pos (.inr h57)] at hF
      simp only [decide_eq_false (show ¬ ((c.toNat : Nat) : Int) < 48 by omega), decide_eq_true (show ((c.toNat : Nat) : Int) > 57 by omega), hgi, hF, go_sem, ↓reduceIte, zA, zB, zC, zD, zE, zF, reduceCtorEq, zG, zH, zI, zJ, zK, zL, zM, zN, zO, zP]
    rw [if_neg (by omega)] at hF
    have hp : n < 10 ^ 6 := Int.lt_of_lt_of_le hn1 (by exact_mod_cast Nat.pow_le_pow_right (by decide) (show i ≤ 6 by omega))
    simp only [decide_eq_false (show ¬ ((c.toNat : Nat) : Int) < 48 by omega), decide_eq_false (show ¬ ((c.toNat : Nat) : Int) > 57 by omega), hgi, go_sem, ↓reduceIte, zA, zB, zC, zD, zE, zF, reduceCtorEq, zG, zH, zI, zJ, zK, zL, zM, zN, zO, zP]
    have w1 : IntKind.i64.wrap (10 * n) = 10 * n := wrap_in (by omega) (by omega)
    have w2 : IntKind.u8.wrap ((c.toNat : Int) - 48) = (c.toNat : Int) - 48 := u8_in _ (by omega) (by omega)
    have w3 : IntKind.i64.wrap ((c.toNat : Int) - 48) = (c.toNat : Int) - 48 := wrap_in (by omega) (by omega)
    have w4 : IntKind.i64.wrap (10 * n + ((c.toNat : Int) - 48)) = 10 * n + ((c.toNat : Int) - 48) := wrap_in (by omega) (by omega)
    refine W_lpI (i + 1, 10 * n + ((c.toNat : Int) - 48)) ?_ ?_ ⟨by dsimp only; omega, by dsimp only; omega, by dsimp only; rw [Int.pow_succ]; omega, hF⟩ (by dsimp only; omega)
    · simp only [go_sem, ↓reduceIte, zA, zB, zC, zD, zE, zF, reduceCtorEq, zG, zH, zI, zJ, zK, zL, zM, zN, zO, zP]
    · simp only [nmbS, w1, w2, w3, w4, wrap_succ (show i < 9223372036854775807 by omega), go_sem, ↓reduceIte, zA, zB, zC, zD, zE, zF, reduceCtorEq, zG, zH, zI, zJ, zK, zL, zM, zN, zO, zP]
def valGo : List UInt8 → Nat → Int → Int
  | [], _, n => n
  | b :: l, 0, n => n
  | b :: l, f + 1, n => valGo l f (if 48 ≤ b.toNat ∧ b.toNat ≤ 57 then n * 10 + ((b.toNat : Int) - 48) else n)
def valW (s : ByteArray) : Int := valGo s.data.toList 8 0
def valS (s : ByteArray) (p : Nat × Int) : St := ⟨[(0, .d (.val (.string s))), (3, .int p.2), (4, .int p.1)], []⟩
set_option maxHeartbeats 1000000 in
theorem value_tri (s : ByteArray) : Tri Tryd.prog G 26 [.d (.val (.string s))] [] (.int (valW s)) [] := by
  have hbl := bs_len s
  generalize hq : valW s = q
  unfold valW at hq
  refine tri_W0 Tryd.func26 (by decide) irOk26 (Nat.le_of_ble_eq_true rfl) rfl ?_
  simp only [ir26, go_sem, ↓reduceIte, zA, zB, zC, zD, zE, zF, reduceCtorEq, zG, zH, zI, zJ, zK, zL, zM, zN, zO, zP]
  refine W_loopI [0, 3, 4] [] (fun p : Nat × Int => p.1 ≤ s.size ∧ p.1 ≤ 8 ∧ 0 ≤ p.2 ∧ p.2 < 10 ^ p.1 ∧ valGo (s.data.toList.drop p.1) (8 - p.1) p.2 = q) (fun p => s.size - p.1) (valS s) (0, 0) ?_ ⟨Nat.zero_le _, by decide, Int.le_refl _, by decide, hq⟩ ?_
  · simp only [valS, Int.natCast_zero, go_sem, ↓reduceIte, zA, zB, zC, zD, zE, zF, reduceCtorEq, zG, zH, zI, zJ, zK, zL, zM, zN, zO, zP]
  rintro ⟨i, n⟩ ⟨hi, hi8, hn0, hn1, hF⟩
  dsimp only at hi hi8 hn0 hn1 hF
  simp only [valS, go_sem, ↓reduceIte, zA, zB, zC, zD, zE, zF, reduceCtorEq, zG, zH, zI, zJ, zK, zL, zM, zN, zO, zP]
  by_cases hlt : i < s.size
  case neg =>
    rw [List.drop_eq_nil_of_le (by omega), valGo] at hF
    simp only [decide_eq_false (show ¬ ((i : Nat) : Int) < ((s.size : Nat) : Int) by omega), hF, go_sem, ↓reduceIte, zA, zB, zC, zD, zE, zF, reduceCtorEq, zG, zH, zI, zJ, zK, zL, zM, zN, zO, zP]
  have hdi : s.data.toList.drop i = s.data.toList[i]'(by omega) :: s.data.toList.drop (i + 1) := List.drop_eq_getElem_cons (by omega)
  have hgi := List.getElem?_eq_getElem (show i < s.data.toList.length by omega)
  rw [hdi] at hF
  generalize s.data.toList[i]'(by omega) = c at *
  have hc := c.toNat_lt
  by_cases h8 : i < 8
  case neg =>
    rw [show 8 - i = 0 by omega, valGo] at hF
    simp only [decide_eq_true (show ((i : Nat) : Int) < ((s.size : Nat) : Int) by omega), decide_eq_false (show ¬ ((i : Nat) : Int) < 8 by omega), hF, go_sem, ↓reduceIte, zA, zB, zC, zD, zE, zF, reduceCtorEq, zG, zH, zI, zJ, zK, zL, zM, zN, zO, zP]
  rw [show 8 - i = (8 - (i + 1)) + 1 by omega, valGo] at hF
  have hp : n < 10 ^ 8 := Int.lt_of_lt_of_le hn1 (by exact_mod_cast Nat.pow_le_pow_right (by decide) (show i ≤ 8 by omega))
  have hp1 : (10 : Int) ^ (i + 1) = 10 ^ i * 10 := Int.pow_succ _ _
  simp only [decide_eq_true (show ((i : Nat) : Int) < ((s.size : Nat) : Int) by omega), decide_eq_true (show ((i : Nat) : Int) < 8 by omega), hgi, go_sem, ↓reduceIte, zA, zB, zC, zD, zE, zF, reduceCtorEq, zG, zH, zI, zJ, zK, zL, zM, zN, zO, zP]
  by_cases h48 : 48 ≤ c.toNat
  case neg =>
    rw [if_neg (fun h => h48 h.1)] at hF
    simp only [decide_eq_false (show ¬ ((c.toNat : Nat) : Int) ≥ 48 by omega), go_sem, ↓reduceIte, zA, zB, zC, zD, zE, zF, reduceCtorEq, zG, zH, zI, zJ, zK, zL, zM, zN, zO, zP]
    refine W_lpI (i + 1, n) ?_ ?_ ⟨by dsimp only; omega, by dsimp only; omega, hn0, by dsimp only; omega, hF⟩ (by dsimp only; omega)
    · simp only [go_sem, ↓reduceIte, zA, zB, zC, zD, zE, zF, reduceCtorEq, zG, zH, zI, zJ, zK, zL, zM, zN, zO, zP]
    · simp only [valS, wrap_succ (show i < 9223372036854775807 by omega), go_sem, ↓reduceIte, zA, zB, zC, zD, zE, zF, reduceCtorEq, zG, zH, zI, zJ, zK, zL, zM, zN, zO, zP]
  by_cases h57 : c.toNat ≤ 57
  case neg =>
    rw [if_neg (fun h => h57 h.2)] at hF
    simp only [decide_eq_true (show ((c.toNat : Nat) : Int) ≥ 48 by omega), hgi, decide_eq_false (show ¬ ((c.toNat : Nat) : Int) ≤ 57 by omega), go_sem, ↓reduceIte, zA, zB, zC, zD, zE, zF, reduceCtorEq, zG, zH, zI, zJ, zK, zL, zM, zN, zO, zP]
    refine W_lpI (i + 1, n) ?_ ?_ ⟨by dsimp only; omega, by dsimp only; omega, hn0, by dsimp only; omega, hF⟩ (by dsimp only; omega)
    · simp only [go_sem, ↓reduceIte, zA, zB, zC, zD, zE, zF, reduceCtorEq, zG, zH, zI, zJ, zK, zL, zM, zN, zO, zP]
    · simp only [valS, wrap_succ (show i < 9223372036854775807 by omega), go_sem, ↓reduceIte, zA, zB, zC, zD, zE, zF, reduceCtorEq, zG, zH, zI, zJ, zK, zL, zM, zN, zO, zP]
  rw [if_pos ⟨h48, h57⟩] at hF
  have w2 : IntKind.i64.wrap (n * 10) = n * 10 := wrap_in (by omega) (by omega)
  have w3 : IntKind.i64.wrap ((c.toNat : Nat) : Int) = ((c.toNat : Nat) : Int) := wrap_in (by omega) (by omega)
  have w4 : IntKind.i64.wrap (n * 10 + ((c.toNat : Nat) : Int)) = n * 10 + ((c.toNat : Nat) : Int) := wrap_in (by omega) (by omega)
  have w5 : IntKind.i64.wrap (n * 10 + ((c.toNat : Nat) : Int) - 48) = n * 10 + (((c.toNat : Nat) : Int) - 48) := by rw [wrap_in (by omega) (by omega)]; omega
  simp only [decide_eq_true (show ((c.toNat : Nat) : Int) ≥ 48 by omega), hgi, decide_eq_true (show ((c.toNat : Nat) : Int) ≤ 57 by omega), w2, w3, w4, w5, go_sem, ↓reduceIte, zA, zB, zC, zD, zE, zF, reduceCtorEq, zG, zH, zI, zJ, zK, zL, zM, zN, zO, zP]
  refine W_lpI (i + 1, n * 10 + (((c.toNat : Nat) : Int) - 48)) ?_ ?_ ⟨by dsimp only; omega, by dsimp only; omega, by dsimp only; omega, by dsimp only; omega, hF⟩ (by dsimp only; omega)
  · simp only [go_sem, ↓reduceIte, zA, zB, zC, zD, zE, zF, reduceCtorEq, zG, zH, zI, zJ, zK, zL, zM, zN, zO, zP]
  · simp only [valS, wrap_succ (show i < 9223372036854775807 by omega), go_sem, ↓reduceIte, zA, zB, zC, zD, zE, zF, reduceCtorEq, zG, zH, zI, zJ, zK, zL, zM, zN, zO, zP]
end Dv
