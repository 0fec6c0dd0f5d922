/- Layer 9's laws: alive, great, BookStates, BookApplies. -/
import Derived.Test.YtjmceebhnjiikaaDoorL3
set_option linter.unusedVariables false
set_option linter.unusedSimpArgs false
namespace Dv
open Go Go.Proofs
open Nat renaming reduceEqDiff → zA, reduceAdd → zB, reduceSub → zC, reduceMul → zD, reduceLT → zE, reduceLeDiff → zF
open Int renaming reduceLE → zG, reduceLT → zH, reduceToNat → zI, reduceBEq → zJ, reduceBNe → zK, reduceEq → zL, reduceAdd → zM, reduceSub → zN, reduceMul → zO, reduceNeg → zP
attribute [local go_sem] argEnv W_nil W_seq W_skip W_ret W_exit W_scope W_block W_blk W_reg W_regD W_cond WC_t WC_f WC_any Wx_c Wx_ops Wx_lp Wx_blk W_ops_nil W_opsD_q W_guard W_guardD WG_tt WG_ff WG_tf WG_ft WG_u WGD_tt WGD_ff WGD_tf WGD_ft WGD_u WE_some WED_some W_mv W_pick W_new W_box W_build W_bsl W_ld1 W_ldn W_st W_nck W_bin W_eqb W_not W_cvt W_fad W_fld1 W_fldn W_ixa W_ixr W_ix1 W_ixs W_len W_lens W_mkf W_ext W_app W_min W_isnp W_isns W_eqs W_neg W_ixn W_sli W_sls WD_mv WD_pick WD_new WD_box WD_build WD_bsl WD_ld1 WD_ldn WD_st WD_nck WD_bin WD_eqb WD_not WD_cvt WD_fad WD_fld1 WD_fldn WD_ixa WD_ixr WD_ix1 WD_ixs WD_len WD_lens WD_mkf WD_ext WD_app WD_min WD_isnp WD_isns WD_eqs WD_neg WD_ixn WD_sli WD_sls effF Opd.ev getE putE binV LV.int LV.bool LV.undef Go.undef LV.cells LV.toD LV.toDs splice fillL rowsOf srcRows updL objL Eff.owned nwp St.get St.obj St.put Value.oneCell' Ends adopt Ad.ap isNil St.keep St.okKeep okObj idl idlL idlO RVs.of RV.of oneOr Ends0 EndsO_iff frzs rn rnL rnO piOf eqCells eqV boundV Option.map_some Option.map_none List.append_nil List.nil_append List.cons_append List.map_nil List.map_cons List.length_nil List.length_cons List.set_cons_zero List.set_cons_succ List.take_succ_cons List.take_zero List.take_nil List.drop_succ_cons List.drop_zero List.drop_nil List.getElem?_cons_zero List.getElem?_cons_succ List.getElem?_nil List.isEmpty_nil List.isEmpty_cons List.all_cons List.all_nil List.isEmpty_nil cond_true cond_false Bool.true_and Bool.false_and Bool.and_true Bool.and_false Bool.not_true Bool.not_false Bool.or_true Bool.true_or Bool.or_false Bool.false_or true_and and_true true_or or_true Option.some.injEq LV.d.injEq DV.val.injEq Value.bool.injEq Value.int.injEq decide_true decide_false and_self Nat.zero_add Nat.add_zero if_true if_false Int.toNat_zero beq_self_eq_true Nat.zero_lt_succ Int.toNat_natCast Int.natCast_nonneg List.length_map i64 bl List.zip_cons_cons List.zip_nil_left List.zip_nil_right nwp confV stateV nodeV jobV nodesV jobsV opV msgV nodeR jobR opR msgR zeroOp zeroMsg
variable {G : Nat → Option (List DV)}

/-- dunnagelaw09.alive -/
def ir14 : Nat × C × List RV := (96,
(.seq (.reg [⟨(some 0), .mv (.c (.val (.bool false))), none, []⟩])
 (.seq (.reg [⟨(some 8), .build [(.val (.int .i64 0)), (.val (.int .i64 0)), (.val (.int .i64 0)), (.val (.int .i64 0)), (.val (.int .i64 0)), (.val (.int .i64 0)), (.val (.int .i64 0)), (.val (.int .i64 0)), (.val (.int .i64 0))] [(0, 1, (.c (.val (.int .i64 2)))), (1, 1, (.c (.val (.int .i64 1)))), (2, 1, (.c (.val (.int .i64 1)))), (3, 1, (.c (.val (.int .i64 1)))), (4, 1, (.c (.val (.int .i64 3)))), (5, 1, (.c (.val (.int .i64 1)))), (6, 1, (.c (.val (.int .i64 5)))), (8, 1, (.c (.val (.int .i64 2000))))], none, []⟩,
 ⟨(some 1), .new 23 [(.val (.int .i64 0)), (.val (.int .i64 0)), (.val (.int .i64 0)), (.val (.int .i64 0)), (.val (.int .i64 0)), (.val (.int .i64 0)), (.val (.int .i64 0)), (.val (.int .i64 0)), (.val (.int .i64 0))], none, []⟩,
 ⟨none, .st 9 (.t 1) (.t 8), none, []⟩])
 (.seq (.regD [⟨(some 10), .ldn 9 (.t 1), none, []⟩,
 ⟨(some 11), .ldn 9 (.t 1), none, []⟩,
 ⟨(some 12), .call (.f 19) [(.t 11)], none, [1]⟩,
 ⟨(some 13), .build [(.val (.int .i64 0)), (.val (.int .i64 0)), (.val (.int .i64 0)), (.val (.int .i64 0)), (.val (.int .i64 0)), (.val (.int .i64 0)), (.val (.int .i64 0))] [(0, 1, (.c (.val (.int .i64 1)))), (3, 1, (.c (.val (.int .i64 2)))), (4, 1, (.c (.val (.int .i64 2)))), (5, 1, (.c (.val (.int .i64 1))))], none, []⟩,
 ⟨(some 14), .call (.f 23) [(.t 10), (.t 12), (.t 13)], none, [0, 2, 1, 3]⟩,
 ⟨(some 9), .mv (.t 14), none, [4, 0, 2, 1, 3]⟩,
 ⟨(some 15), .ext (.t 9) 0, none, [5, 4, 0, 2, 1, 3]⟩,
 ⟨(some 16), .ext (.t 9) 1, none, [5, 4, 0, 2, 1, 3]⟩,
 ⟨(some 2), .new 27 [(.val (.slice none 0 0)), (.val (.slice none 0 0)), (.val (.int .i64 0)), (.val (.int .i64 0)), (.val (.int .i64 0)), (.val (.int .i64 0))], none, []⟩,
 ⟨none, .st 6 (.t 2) (.t 15), none, [8, 6, 5, 4, 0, 2, 1, 3]⟩,
 ⟨(some 3), .mv (.t 16), none, [7, 5, 4, 0, 2, 1, 3, 9, 8, 6]⟩])
 (.seq (.reg [⟨(some 18), .ldn 9 (.t 1), none, []⟩,
 ⟨(some 19), .ldn 6 (.t 2), none, []⟩,
 ⟨(some 20), .build [(.val (.int .i64 0)), (.val (.int .i64 0)), (.val (.int .i64 0)), (.val (.int .i64 0)), (.val (.int .i64 0)), (.val (.int .i64 0)), (.val (.int .i64 0))] [(0, 1, (.c (.val (.int .i64 9)))), (1, 1, (.c (.val (.int .i64 1)))), (2, 1, (.c (.val (.int .i64 3))))], none, []⟩,
 ⟨(some 21), .call (.f 23) [(.t 18), (.t 19), (.t 20)], none, []⟩,
 ⟨(some 17), .mv (.t 21), none, []⟩,
 ⟨(some 22), .ext (.t 17) 0, none, []⟩,
 ⟨(some 23), .ext (.t 17) 1, none, []⟩,
 ⟨(some 4), .new 27 [(.val (.slice none 0 0)), (.val (.slice none 0 0)), (.val (.int .i64 0)), (.val (.int .i64 0)), (.val (.int .i64 0)), (.val (.int .i64 0))], none, []⟩,
 ⟨none, .st 6 (.t 4) (.t 22), none, []⟩,
 ⟨(some 5), .mv (.t 23), none, []⟩])
 (.seq (.reg [⟨(some 25), .ldn 9 (.t 1), none, []⟩,
 ⟨(some 26), .ldn 6 (.t 4), none, []⟩,
 ⟨(some 27), .build [(.val (.int .i64 0)), (.val (.int .i64 0)), (.val (.int .i64 0)), (.val (.int .i64 0)), (.val (.int .i64 0)), (.val (.int .i64 0)), (.val (.int .i64 0))] [(0, 1, (.c (.val (.int .i64 9)))), (1, 1, (.c (.val (.int .i64 1)))), (2, 1, (.c (.val (.int .i64 3))))], none, []⟩,
 ⟨(some 28), .call (.f 23) [(.t 25), (.t 26), (.t 27)], none, []⟩,
 ⟨(some 24), .mv (.t 28), none, []⟩,
 ⟨(some 29), .ext (.t 24) 0, none, []⟩,
 ⟨(some 30), .ext (.t 24) 1, none, []⟩,
 ⟨(some 6), .new 27 [(.val (.slice none 0 0)), (.val (.slice none 0 0)), (.val (.int .i64 0)), (.val (.int .i64 0)), (.val (.int .i64 0)), (.val (.int .i64 0))], none, []⟩,
 ⟨none, .st 6 (.t 6) (.t 29), none, []⟩,
 ⟨(some 7), .mv (.t 30), none, []⟩])
 (.seq (.reg [⟨(some 31), .mv (.t 3), none, []⟩,
 ⟨(some 32), .bin .eql (.t 31) (.c (.val (.int .i64 0))), none, []⟩,
 ⟨(some 33), .mv (.t 32), none, []⟩,
 ⟨(some 34), .mv (.t 5), (some (33, true)), []⟩,
 ⟨(some 35), .bin .eql (.t 34) (.c (.val (.int .i64 0))), (some (33, true)), []⟩,
 ⟨(some 36), .pick (.t 33) (.t 35) (.c (.val (.bool false))), none, []⟩,
 ⟨(some 37), .mv (.t 36), none, []⟩,
 ⟨(some 38), .mv (.t 7), (some (37, true)), []⟩,
 ⟨(some 39), .bin .eql (.t 38) (.c (.val (.int .i64 5))), (some (37, true)), []⟩,
 ⟨(some 40), .pick (.t 37) (.t 39) (.c (.val (.bool false))), none, []⟩,
 ⟨(some 41), .mv (.t 40), none, []⟩,
 ⟨(some 42), .fad 1 (.t 6), (some (41, true)), []⟩,
 ⟨(some 43), .ld1 (.t 42), (some (41, true)), []⟩,
 ⟨(some 44), .len (.t 43), (some (41, true)), []⟩,
 ⟨(some 45), .bin .eql (.t 44) (.c (.val (.int .i64 1))), (some (41, true)), []⟩,
 ⟨(some 46), .pick (.t 41) (.t 45) (.c (.val (.bool false))), none, []⟩,
 ⟨(some 47), .mv (.t 46), none, []⟩,
 ⟨(some 48), .fad 1 (.t 4), (some (47, true)), []⟩,
 ⟨(some 49), .ld1 (.t 48), (some (47, true)), []⟩,
 ⟨(some 50), .ixa 12 (.t 49) (.c (.val (.int .i64 0))), (some (47, true)), []⟩,
 ⟨(some 51), .fad 6 (.t 50), (some (47, true)), []⟩,
 ⟨(some 52), .ld1 (.t 51), (some (47, true)), []⟩,
 ⟨(some 53), .bin .eql (.t 52) (.c (.val (.int .i64 1))), (some (47, true)), []⟩,
 ⟨(some 54), .pick (.t 47) (.t 53) (.c (.val (.bool false))), none, []⟩,
 ⟨(some 55), .mv (.t 54), none, []⟩,
 ⟨(some 56), .fad 0 (.t 4), (some (55, true)), []⟩,
 ⟨(some 57), .ld1 (.t 56), (some (55, true)), []⟩,
 ⟨(some 58), .ixa 5 (.t 57) (.c (.val (.int .i64 1))), (some (55, true)), []⟩,
 ⟨(some 59), .fad 4 (.t 58), (some (55, true)), []⟩,
 ⟨(some 60), .ld1 (.t 59), (some (55, true)), []⟩,
 ⟨(some 61), .bin .eql (.t 60) (.c (.val (.int .i64 1))), (some (55, true)), []⟩,
 ⟨(some 62), .pick (.t 55) (.t 61) (.c (.val (.bool false))), none, []⟩,
 ⟨(some 63), .mv (.t 62), none, []⟩,
 ⟨(some 64), .ldn 9 (.t 1), (some (63, true)), []⟩,
 ⟨(some 65), .ldn 6 (.t 4), (some (63, true)), []⟩,
 ⟨(some 66), .call (.f 21) [(.t 64), (.t 65)], (some (63, true)), []⟩,
 ⟨(some 67), .pick (.t 63) (.t 66) (.c (.val (.bool false))), none, []⟩,
 ⟨(some 68), .mv (.t 67), none, []⟩,
 ⟨(some 69), .ldn 9 (.t 1), (some (68, true)), []⟩,
 ⟨(some 70), .call (.f 16) [(.t 69)], (some (68, true)), []⟩,
 ⟨(some 71), .pick (.t 68) (.t 70) (.c (.val (.bool false))), none, []⟩,
 ⟨(some 72), .mv (.t 71), none, []⟩,
 ⟨(some 73), .ldn 6 (.t 4), (some (72, true)), []⟩,
 ⟨(some 74), .call (.f 25) [(.t 73)], (some (72, true)), []⟩,
 ⟨(some 75), .bin .eql (.t 74) (.c (.val (.int .i64 1))), (some (72, true)), []⟩,
 ⟨(some 76), .pick (.t 72) (.t 75) (.c (.val (.bool false))), none, []⟩,
 ⟨(some 77), .mv (.t 76), none, []⟩,
 ⟨(some 78), .fad 0 (.t 2), (some (77, true)), []⟩,
 ⟨(some 79), .ld1 (.t 78), (some (77, true)), []⟩,
 ⟨(some 80), .ixa 5 (.t 79) (.c (.val (.int .i64 0))), (some (77, true)), []⟩,
 ⟨(some 81), .ldn 5 (.t 80), (some (77, true)), []⟩,
 ⟨(some 82), .call (.f 30) [(.t 81)], (some (77, true)), []⟩,
 ⟨(some 83), .pick (.t 77) (.t 82) (.c (.val (.bool false))), none, []⟩,
 ⟨(some 84), .mv (.t 83), none, []⟩,
 ⟨(some 85), .ldn 6 (.t 4), (some (84, true)), []⟩,
 ⟨(some 86), .call (.f 27) [(.t 85), (.c (.val (.int .i64 0)))], (some (84, true)), []⟩,
 ⟨(some 87), .bin .eql (.t 86) (.c (.val (.int .i64 0))), (some (84, true)), []⟩,
 ⟨(some 88), .pick (.t 84) (.t 87) (.c (.val (.bool false))), none, []⟩,
 ⟨(some 89), .mv (.t 88), none, []⟩,
 ⟨(some 90), .ldn 6 (.t 4), (some (89, true)), []⟩,
 ⟨(some 91), .call (.f 29) [(.t 90)], (some (89, true)), []⟩,
 ⟨(some 92), .fld1 0 (.t 91), (some (89, true)), []⟩,
 ⟨(some 93), .len (.t 92), (some (89, true)), []⟩,
 ⟨(some 94), .bin .eql (.t 93) (.c (.val (.int .i64 2))), (some (89, true)), []⟩,
 ⟨(some 95), .pick (.t 89) (.t 94) (.c (.val (.bool false))), none, []⟩,
 ⟨(some 0), .mv (.t 95), none, []⟩])
 .ret)))))),
[(.t 0)])
theorem irOk14 : convFn Tryd.prog Tryd.f14 = some ir14 := by kernel_rfl
/-- dunnagelaw09.great -/
def ir15 : Nat × C × List RV := (13,
(.seq (.reg [⟨(some 1), .box 27 (.t 0), none, []⟩,
 ⟨(some 2), .mv (.c (.val (.bool false))), none, []⟩])
 (.seq (.reg [⟨(some 3), .fad 0 (.t 1), none, []⟩,
 ⟨(some 4), .ld1 (.t 3), none, []⟩,
 ⟨(some 5), .len (.t 4), none, []⟩,
 ⟨(some 6), .bin .gtr (.t 5) (.c (.val (.int .i64 50))), none, []⟩,
 ⟨(some 7), .mv (.t 6), none, []⟩,
 ⟨(some 8), .fad 1 (.t 1), (some (7, false)), []⟩,
 ⟨(some 9), .ld1 (.t 8), (some (7, false)), []⟩,
 ⟨(some 10), .len (.t 9), (some (7, false)), []⟩,
 ⟨(some 11), .bin .gtr (.t 10) (.c (.val (.int .i64 100))), (some (7, false)), []⟩,
 ⟨(some 12), .pick (.t 7) (.c (.val (.bool true))) (.t 11), none, []⟩,
 ⟨(some 2), .mv (.t 12), none, []⟩])
 .ret)),
[(.t 2)])
theorem irOk15 : convFn Tryd.prog Tryd.f15 = some ir15 := by kernel_rfl
/-- dunnagelaw09.BookStates -/
def ir3 : Nat × C × List RV := (30,
(.seq (.reg [⟨(some 2), .box 23 (.t 0), none, []⟩,
 ⟨(some 3), .box 27 (.t 1), none, []⟩,
 ⟨(some 4), .mv (.c (.val (.bool false))), none, []⟩])
 (.seq (.seq (.reg [⟨(some 5), .call (.f 14) [], none, []⟩,
 ⟨(some 6), .not (.t 5), none, []⟩])
 (.cond (.t 6) (.seq (.reg [⟨(some 4), .mv (.c (.val (.bool false))), none, []⟩])
 .ret)
 .skip))
 (.seq (.seq (.reg [⟨(some 7), .ldn 6 (.t 3), none, []⟩,
 ⟨(some 8), .call (.f 15) [(.t 7)], none, []⟩])
 (.cond (.t 8) (.seq (.reg [⟨(some 4), .mv (.c (.val (.bool true))), none, []⟩])
 .ret)
 .skip))
 (.seq (.regD [⟨(some 9), .ldn 9 (.t 2), none, []⟩,
 ⟨(some 10), .call (.f 16) [(.t 9)], none, [0]⟩,
 ⟨(some 11), .ldn 9 (.t 2), none, []⟩,
 ⟨(some 12), .call (.f 17) [(.t 11)], none, [2, 1, 0]⟩,
 ⟨(some 13), .eqb false (.t 10) (.t 12), none, [1, 0, 3, 2]⟩,
 ⟨(some 14), .mv (.t 13), none, [4, 1, 0, 3, 2]⟩,
 ⟨(some 15), .ldn 9 (.t 2), (some (14, true)), [5, 4, 1, 0, 3, 2]⟩,
 ⟨(some 16), .call (.f 19) [(.t 15)], (some (14, true)), [6, 5, 4, 1, 0, 3, 2]⟩,
 ⟨(some 17), .ldn 9 (.t 2), (some (14, true)), [5, 4, 1, 0, 3, 2]⟩,
 ⟨(some 18), .call (.f 20) [(.t 17)], (some (14, true)), [8, 5, 4, 1, 0, 3, 2, 7, 6]⟩,
 ⟨(some 19), .call (.f 18) [(.t 16), (.t 18)], (some (14, true)), [7, 6, 5, 4, 1, 0, 3, 2, 9, 8]⟩,
 ⟨(some 20), .pick (.t 14) (.t 19) (.c (.val (.bool false))), none, [5, 4, 1, 0, 3, 2, 10, 7, 6, 9, 8]⟩,
 ⟨(some 21), .mv (.t 20), none, [11, 5, 4, 1, 0, 3, 2, 10, 7, 6, 9, 8]⟩,
 ⟨(some 22), .ldn 9 (.t 2), (some (21, true)), [12, 11, 5, 4, 1, 0, 3, 2, 10, 7, 6, 9, 8]⟩,
 ⟨(some 23), .ldn 6 (.t 3), (some (21, true)), [12, 11, 5, 4, 1, 0, 3, 2, 10, 7, 6, 9, 8]⟩,
 ⟨(some 24), .call (.f 21) [(.t 22), (.t 23)], (some (21, true)), [13, 12, 11, 5, 4, 1, 0, 3, 2, 10, 7, 6, 9, 8, 14]⟩,
 ⟨(some 25), .ldn 9 (.t 2), (some (21, true)), [12, 11, 5, 4, 1, 0, 3, 2, 10, 7, 6, 9, 8]⟩,
 ⟨(some 26), .ldn 6 (.t 3), (some (21, true)), [12, 11, 5, 4, 1, 0, 3, 2, 10, 7, 6, 9, 8]⟩,
 ⟨(some 27), .call (.f 22) [(.t 25), (.t 26)], (some (21, true)), [16, 12, 11, 5, 4, 1, 0, 3, 2, 10, 7, 6, 9, 8, 17, 15, 13, 14]⟩,
 ⟨(some 28), .eqb false (.t 24) (.t 27), (some (21, true)), [15, 13, 12, 11, 5, 4, 1, 0, 3, 2, 10, 7, 6, 9, 8, 14, 18, 16, 17]⟩,
 ⟨(some 29), .pick (.t 21) (.t 28) (.c (.val (.bool false))), none, [12, 11, 5, 4, 1, 0, 3, 2, 10, 7, 6, 9, 8, 19, 15, 13, 14, 18, 16, 17]⟩,
 ⟨(some 4), .mv (.t 29), none, [20, 12, 11, 5, 4, 1, 0, 3, 2, 10, 7, 6, 9, 8, 19, 15, 13, 14, 18, 16, 17]⟩])
 .ret)))),
[(.t 4)])
theorem irOk3 : convFn Tryd.prog Tryd.f3 = some ir3 := by kernel_rfl
/-- dunnagelaw09.BookApplies -/
def ir4 : Nat × C × List RV := (48,
(.seq (.reg [⟨(some 3), .box 23 (.t 0), none, []⟩,
 ⟨(some 4), .box 27 (.t 1), none, []⟩,
 ⟨(some 5), .box 35 (.t 2), none, []⟩,
 ⟨(some 6), .mv (.c (.val (.bool false))), none, []⟩])
 (.seq (.seq (.reg [⟨(some 11), .call (.f 14) [], none, []⟩,
 ⟨(some 12), .not (.t 11), none, []⟩])
 (.cond (.t 12) (.seq (.reg [⟨(some 6), .mv (.c (.val (.bool false))), none, []⟩])
 .ret)
 .skip))
 (.seq (.seq (.reg [⟨(some 13), .ldn 6 (.t 4), none, []⟩,
 ⟨(some 14), .call (.f 15) [(.t 13)], none, []⟩])
 (.cond (.t 14) (.seq (.reg [⟨(some 6), .mv (.c (.val (.bool true))), none, []⟩])
 .ret)
 .skip))
 (.seq (.reg [⟨(some 16), .ldn 9 (.t 3), none, []⟩,
 ⟨(some 17), .ldn 6 (.t 4), none, []⟩,
 ⟨(some 18), .ldn 7 (.t 5), none, []⟩,
 ⟨(some 19), .call (.f 23) [(.t 16), (.t 17), (.t 18)], none, []⟩,
 ⟨(some 15), .mv (.t 19), none, []⟩,
 ⟨(some 20), .ext (.t 15) 0, none, []⟩,
 ⟨(some 21), .ext (.t 15) 1, none, []⟩,
 ⟨(some 7), .new 27 [(.val (.slice none 0 0)), (.val (.slice none 0 0)), (.val (.int .i64 0)), (.val (.int .i64 0)), (.val (.int .i64 0)), (.val (.int .i64 0))], none, []⟩,
 ⟨none, .st 6 (.t 7) (.t 20), none, []⟩,
 ⟨(some 8), .mv (.t 21), none, []⟩])
 (.seq (.seq (.reg [⟨(some 22), .ldn 9 (.t 3), none, []⟩,
 ⟨(some 23), .ldn 6 (.t 4), none, []⟩,
 ⟨(some 24), .call (.f 22) [(.t 22), (.t 23)], none, []⟩,
 ⟨(some 25), .not (.t 24), none, []⟩])
 (.cond (.t 25) (.seq (.reg [⟨(some 26), .mv (.t 8), none, []⟩,
 ⟨(some 27), .bin .eql (.t 26) (.c (.val (.int .i64 1))), none, []⟩,
 ⟨(some 28), .mv (.t 27), none, []⟩,
 ⟨(some 29), .ldn 6 (.t 7), (some (28, true)), []⟩,
 ⟨(some 30), .build [(.val (.slice none 0 0)), (.val (.slice none 0 0)), (.val (.int .i64 0)), (.val (.int .i64 0)), (.val (.int .i64 0)), (.val (.int .i64 0))] [], (some (28, true)), []⟩,
 ⟨(some 31), .call (.f 18) [(.t 29), (.t 30)], (some (28, true)), []⟩,
 ⟨(some 32), .pick (.t 28) (.t 31) (.c (.val (.bool false))), none, []⟩,
 ⟨(some 6), .mv (.t 32), none, []⟩])
 .ret)
 .skip))
 (.seq (.reg [⟨(some 34), .ldn 9 (.t 3), none, []⟩,
 ⟨(some 35), .ldn 6 (.t 4), none, []⟩,
 ⟨(some 36), .ldn 7 (.t 5), none, []⟩,
 ⟨(some 37), .call (.f 24) [(.t 34), (.t 35), (.t 36)], none, []⟩,
 ⟨(some 33), .mv (.t 37), none, []⟩,
 ⟨(some 38), .ext (.t 33) 0, none, []⟩,
 ⟨(some 39), .ext (.t 33) 1, none, []⟩,
 ⟨(some 9), .new 27 [(.val (.slice none 0 0)), (.val (.slice none 0 0)), (.val (.int .i64 0)), (.val (.int .i64 0)), (.val (.int .i64 0)), (.val (.int .i64 0))], none, []⟩,
 ⟨none, .st 6 (.t 9) (.t 38), none, []⟩,
 ⟨(some 10), .mv (.t 39), none, []⟩])
 (.seq (.reg [⟨(some 40), .mv (.t 8), none, []⟩,
 ⟨(some 41), .mv (.t 10), none, []⟩,
 ⟨(some 42), .bin .eql (.t 40) (.t 41), none, []⟩,
 ⟨(some 43), .mv (.t 42), none, []⟩,
 ⟨(some 44), .ldn 6 (.t 7), (some (43, true)), []⟩,
 ⟨(some 45), .ldn 6 (.t 9), (some (43, true)), []⟩,
 ⟨(some 46), .call (.f 18) [(.t 44), (.t 45)], (some (43, true)), []⟩,
 ⟨(some 47), .pick (.t 43) (.t 46) (.c (.val (.bool false))), none, []⟩,
 ⟨(some 6), .mv (.t 47), none, []⟩])
 .ret))))))),
[(.t 6)])
theorem irOk4 : convFn Tryd.prog Tryd.f4 = some ir4 := by kernel_rfl


def c9 : ConfD := ⟨2, 1, 1, 1, 3, 1, 5, 0, 2000⟩
def n9s : StateD := ⟨[⟨true, false, false, 1, 0⟩, ⟨true, false, false, 1, 0⟩], [], 1, 1, 0, 0⟩
def p9s : StateD := ⟨[⟨true, false, false, 1, 0⟩, ⟨true, false, false, 1, 0⟩], [⟨0, 0, 2, 2, 1, 0, 0, 0, 0, 0, 0, 0⟩], 1, 1, 0, 0⟩
def q9s : StateD := ⟨[⟨true, false, false, 1, 1⟩, ⟨true, false, false, 1, 1⟩], [⟨0, 0, 2, 2, 1, 0, 1, 1, 3, 0, 0, 0⟩], 1, 1, 0, 0⟩
theorem n9_eq : newD c9 = n9s := by decide +kernel
theorem p9_eq : applyD c9 n9s ⟨1, 0, 0, 2, 2, 1, 0⟩ = (p9s, 0) := by decide +kernel
theorem q9_eq : applyD c9 p9s ⟨9, 1, 3, 0, 0, 0, 0⟩ = (q9s, 0) := by decide +kernel
theorem r9_eq : applyD c9 q9s ⟨9, 1, 3, 0, 0, 0, 0⟩ = (q9s, 5) := by decide +kernel
theorem alive9_tri : Tri Tryd.prog bookG 14 [] [] (.bool true) [] := by
  have hN : Tri Tryd.prog bookG 19 [confV c9] [] (stateV n9s) [] := by have := new_tri (G := bookG) c9; rw [n9_eq] at this; exact this
  have hP : Tri Tryd.prog bookG 23 [confV c9, stateV n9s, opV ⟨1, 0, 0, 2, 2, 1, 0⟩] [] (.tup [stateV p9s, .int 0]) [] := by have := apply_tri c9 n9s ⟨1, 0, 0, 2, 2, 1, 0⟩; rw [p9_eq] at this; exact this
  have hQ : Tri Tryd.prog bookG 23 [confV c9, stateV p9s, opV ⟨9, 1, 3, 0, 0, 0, 0⟩] [] (.tup [stateV q9s, .int 0]) [] := by have := apply_tri c9 p9s ⟨9, 1, 3, 0, 0, 0, 0⟩; rw [q9_eq] at this; exact this
  have hR : Tri Tryd.prog bookG 23 [confV c9, stateV q9s, opV ⟨9, 1, 3, 0, 0, 0, 0⟩] [] (.tup [stateV q9s, .int 5]) [] := by have := apply_tri c9 q9s ⟨9, 1, 3, 0, 0, 0, 0⟩; rw [r9_eq] at this; exact this
  have hri : Tri Tryd.prog bookG 21 [confV c9, stateV q9s] [] (.bool true) [] := by have := right_tri (G := bookG) c9 q9s; rw [show rightB c9 q9s = true from by decide +kernel] at this; exact this
  have hma : Tri Tryd.prog bookG 16 [confV c9] [] (.bool true) [] := by have := may_tri (G := bookG) c9; rw [show mayB c9 = true from by decide +kernel] at this; exact this
  have hme : Tri Tryd.prog bookG 25 [stateV q9s] [] (.int 1) [] := by have := meant_tri (G := bookG) q9s; rw [show meant q9s = 1 from by decide +kernel] at this; exact this
  have hfr : Tri Tryd.prog bookG 30 [nodeV ⟨true, false, false, 1, 0⟩] [] (.bool true) [] := free_tri (G := bookG) ⟨true, false, false, 1, 0⟩
  have hdr : Tri Tryd.prog bookG 27 [stateV q9s, .int 0] [] (.int 0) [] := by have := drains_tri (G := bookG) q9s 0 (by decide +kernel); rw [show drainsL q9s.jobs 0 = 0 from by decide +kernel] at this; exact this
  refine tri_W0 Tryd.func14 (by decide) irOk14 (Nat.le_of_ble_eq_true rfl) rfl ?_
  simp only [ir14, go_sem, ↓reduceIte, zA, zB, zC, zD, zE, zF, reduceCtorEq, zG, zH, zI, zJ, zK, zL, zM, zN, zO, zP]
  simp only [n9s, p9s, q9s, go_sem, ↓reduceIte, zA, zB, zC, zD, zE, zF, reduceCtorEq, zG, zH, zI, zJ, zK, zL, zM, zN, zO, zP] at hN hP hQ hR hri hma hme hfr hdr
  simp only [c9, go_sem, ↓reduceIte, zA, zB, zC, zD, zE, zF, reduceCtorEq, zG, zH, zI, zJ, zK, zL, zM, zN, zO, zP] at hN hP hQ hR hri hma hme hfr hdr
  repeat (first
    | (refine W_calld hN rfl rfl rfl rfl ?_; simp only [go_sem, ↓reduceIte, zA, zB, zC, zD, zE, zF, reduceCtorEq, zG, zH, zI, zJ, zK, zL, zM, zN, zO, zP])
    | (refine WD_calld hN rfl rfl rfl rfl ?_; simp only [go_sem, ↓reduceIte, zA, zB, zC, zD, zE, zF, reduceCtorEq, zG, zH, zI, zJ, zK, zL, zM, zN, zO, zP])
    | (refine W_calld hP rfl rfl rfl rfl ?_; simp only [go_sem, ↓reduceIte, zA, zB, zC, zD, zE, zF, reduceCtorEq, zG, zH, zI, zJ, zK, zL, zM, zN, zO, zP])
    | (refine WD_calld hP rfl rfl rfl rfl ?_; simp only [go_sem, ↓reduceIte, zA, zB, zC, zD, zE, zF, reduceCtorEq, zG, zH, zI, zJ, zK, zL, zM, zN, zO, zP])
    | (refine W_calld hQ rfl rfl rfl rfl ?_; simp only [go_sem, ↓reduceIte, zA, zB, zC, zD, zE, zF, reduceCtorEq, zG, zH, zI, zJ, zK, zL, zM, zN, zO, zP])
    | (refine WD_calld hQ rfl rfl rfl rfl ?_; simp only [go_sem, ↓reduceIte, zA, zB, zC, zD, zE, zF, reduceCtorEq, zG, zH, zI, zJ, zK, zL, zM, zN, zO, zP])
    | (refine W_calld hR rfl rfl rfl rfl ?_; simp only [go_sem, ↓reduceIte, zA, zB, zC, zD, zE, zF, reduceCtorEq, zG, zH, zI, zJ, zK, zL, zM, zN, zO, zP])
    | (refine WD_calld hR rfl rfl rfl rfl ?_; simp only [go_sem, ↓reduceIte, zA, zB, zC, zD, zE, zF, reduceCtorEq, zG, zH, zI, zJ, zK, zL, zM, zN, zO, zP])
    | (refine W_calld hri rfl rfl rfl rfl ?_; simp only [go_sem, ↓reduceIte, zA, zB, zC, zD, zE, zF, reduceCtorEq, zG, zH, zI, zJ, zK, zL, zM, zN, zO, zP])
    | (refine WD_calld hri rfl rfl rfl rfl ?_; simp only [go_sem, ↓reduceIte, zA, zB, zC, zD, zE, zF, reduceCtorEq, zG, zH, zI, zJ, zK, zL, zM, zN, zO, zP])
    | (refine W_calld hma rfl rfl rfl rfl ?_; simp only [go_sem, ↓reduceIte, zA, zB, zC, zD, zE, zF, reduceCtorEq, zG, zH, zI, zJ, zK, zL, zM, zN, zO, zP])
    | (refine WD_calld hma rfl rfl rfl rfl ?_; simp only [go_sem, ↓reduceIte, zA, zB, zC, zD, zE, zF, reduceCtorEq, zG, zH, zI, zJ, zK, zL, zM, zN, zO, zP])
    | (refine W_calld hme rfl rfl rfl rfl ?_; simp only [go_sem, ↓reduceIte, zA, zB, zC, zD, zE, zF, reduceCtorEq, zG, zH, zI, zJ, zK, zL, zM, zN, zO, zP])
    | (refine WD_calld hme rfl rfl rfl rfl ?_; simp only [go_sem, ↓reduceIte, zA, zB, zC, zD, zE, zF, reduceCtorEq, zG, zH, zI, zJ, zK, zL, zM, zN, zO, zP])
    | (refine W_calld hfr rfl rfl rfl rfl ?_; simp only [go_sem, ↓reduceIte, zA, zB, zC, zD, zE, zF, reduceCtorEq, zG, zH, zI, zJ, zK, zL, zM, zN, zO, zP])
    | (refine WD_calld hfr rfl rfl rfl rfl ?_; simp only [go_sem, ↓reduceIte, zA, zB, zC, zD, zE, zF, reduceCtorEq, zG, zH, zI, zJ, zK, zL, zM, zN, zO, zP])
    | (refine W_calld hdr rfl rfl rfl rfl ?_; simp only [go_sem, ↓reduceIte, zA, zB, zC, zD, zE, zF, reduceCtorEq, zG, zH, zI, zJ, zK, zL, zM, zN, zO, zP])
    | (refine WD_calld hdr rfl rfl rfl rfl ?_; simp only [go_sem, ↓reduceIte, zA, zB, zC, zD, zE, zF, reduceCtorEq, zG, zH, zI, zJ, zK, zL, zM, zN, zO, zP])
    | (refine W_opsD_end rfl ?_; simp only [go_sem, ↓reduceIte, zA, zB, zC, zD, zE, zF, reduceCtorEq, zG, zH, zI, zJ, zK, zL, zM, zN, zO, zP])
    | (simp only [show ((1 : Nat) : Int) = 1 from rfl, show ((2 : Nat) : Int) = 2 from rfl, go_sem, ↓reduceIte, zA, zB, zC, zD, zE, zF, reduceCtorEq, zG, zH, zI, zJ, zK, zL, zM, zN, zO, zP]))
  refine W_calln (copy_tri q9s (by decide) (by decide)) rfl rfl rfl ?_
  simp only [go_sem, ↓reduceIte, zA, zB, zC, zD, zE, zF, reduceCtorEq, zG, zH, zI, zJ, zK, zL, zM, zN, zO, zP]
  rfl
def greatB (s : StateD) : Bool := decide (50 < s.nodes.length) || decide (100 < s.jobs.length)
theorem great_tri (s : StateD) : Tri Tryd.prog G 15 [stateV s] [] (.bool (greatB s)) [] := by
  refine tri_W0 Tryd.func15 (by decide) irOk15 (Nat.le_of_ble_eq_true rfl) rfl ?_
  simp only [ir15, go_sem, ↓reduceIte, zA, zB, zC, zD, zE, zF, reduceCtorEq, zG, zH, zI, zJ, zK, zL, zM, zN, zO, zP]
  unfold greatB
  refine WG_split (fun h => ?_) (fun h => ?_) <;> simp only [h, go_sem, ↓reduceIte, zA, zB, zC, zD, zE, zF, reduceCtorEq, zG, zH, zI, zJ, zK, zL, zM, zN, zO, zP] <;> (try simp only [beq_iff_eq, beq_eq_false_iff_ne, bne_iff_ne, ne_eq, decide_eq_true_eq, decide_eq_false_iff_not, Bool.not_true, Bool.not_false, Bool.not_eq_true, Bool.not_eq_false, bne_eq_false_iff_eq, Decidable.not_not] at h)
  · have h1 : decide (50 < s.nodes.length) = false := by simp; omega
    rw [h1, Bool.false_or, Bool.eq_iff_iff]
    simp only [decide_eq_true_eq]
    omega
  · have h1 : decide (50 < s.nodes.length) = true := by simp; omega
    rw [h1, Bool.true_or]
theorem great_not {s : StateD} (h : greatB s = false) : s.nodes.length ≤ 50 ∧ s.jobs.length ≤ 100 := by
  unfold greatB at h
  simp only [Bool.or_eq_false_iff, decide_eq_false_iff_not] at h
  omega
theorem bookStates_tri (c : ConfD) (s : StateD) : Tri Tryd.prog bookG 3 [confV c, stateV s] [] (.bool true) [] := by
  refine tri_W0 Tryd.func3 (by decide) irOk3 (Nat.le_of_ble_eq_true rfl) rfl ?_
  simp only [ir3, go_sem, ↓reduceIte, zA, zB, zC, zD, zE, zF, reduceCtorEq, zG, zH, zI, zJ, zK, zL, zM, zN, zO, zP]
  refine W_calld (alive9_tri) rfl rfl rfl rfl ?_; simp only [go_sem, ↓reduceIte, zA, zB, zC, zD, zE, zF, reduceCtorEq, zG, zH, zI, zJ, zK, zL, zM, zN, zO, zP]
  refine W_calld (great_tri s) rfl rfl rfl rfl ?_; simp only [go_sem, ↓reduceIte, zA, zB, zC, zD, zE, zF, reduceCtorEq, zG, zH, zI, zJ, zK, zL, zM, zN, zO, zP]
  cases hg : greatB s with
  | true => simp only [go_sem, ↓reduceIte, zA, zB, zC, zD, zE, zF, reduceCtorEq, zG, zH, zI, zJ, zK, zL, zM, zN, zO, zP]
  | false =>
  simp only [go_sem, ↓reduceIte, zA, zB, zC, zD, zE, zF, reduceCtorEq, zG, zH, zI, zJ, zK, zL, zM, zN, zO, zP]
  refine WD_calld (may_tri c) rfl rfl rfl rfl ?_; simp only [go_sem, ↓reduceIte, zA, zB, zC, zD, zE, zF, reduceCtorEq, zG, zH, zI, zJ, zK, zL, zM, zN, zO, zP]
  refine WD_calld (may9_tri c) rfl rfl rfl rfl ?_; simp only [go_sem, ↓reduceIte, zA, zB, zC, zD, zE, zF, reduceCtorEq, zG, zH, zI, zJ, zK, zL, zM, zN, zO, zP]
  refine WD_calld (new_tri c) rfl rfl rfl rfl ?_; simp only [go_sem, ↓reduceIte, zA, zB, zC, zD, zE, zF, reduceCtorEq, zG, zH, zI, zJ, zK, zL, zM, zN, zO, zP]
  refine WD_calld (new9_tri c) rfl rfl rfl rfl ?_; simp only [go_sem, ↓reduceIte, zA, zB, zC, zD, zE, zF, reduceCtorEq, zG, zH, zI, zJ, zK, zL, zM, zN, zO, zP]
  have hl : (newD c).nodes.length ≤ 1000000000000 ∧ (newD c).jobs.length ≤ 1000000000000 := by
    unfold newD
    split
    · rename_i h
      have := mayB_nodes h
      simp; omega
    · simp [zeroState]
  refine WD_calld (same9_tri (newD c) (newD c) hl.1 hl.2) rfl rfl rfl rfl ?_; simp only [go_sem, ↓reduceIte, zA, zB, zC, zD, zE, zF, reduceCtorEq, zG, zH, zI, zJ, zK, zL, zM, zN, zO, zP]
  refine WD_calld (right_tri c s) rfl rfl rfl rfl ?_; simp only [go_sem, ↓reduceIte, zA, zB, zC, zD, zE, zF, reduceCtorEq, zG, zH, zI, zJ, zK, zL, zM, zN, zO, zP]
  refine WD_calld (right9_tri c s) rfl rfl rfl rfl ?_; simp only [go_sem, ↓reduceIte, zA, zB, zC, zD, zE, zF, reduceCtorEq, zG, zH, zI, zJ, zK, zL, zM, zN, zO, zP]
  simp only [right_ref, go_sem, ↓reduceIte, zA, zB, zC, zD, zE, zF, reduceCtorEq, zG, zH, zI, zJ, zK, zL, zM, zN, zO, zP]
theorem bookApplies_tri (c : ConfD) (s : StateD) (o : OpD) : Tri Tryd.prog bookG 4 [confV c, stateV s, opV o] [] (.bool true) [] := by
  refine tri_W0 Tryd.func4 (by decide) irOk4 (Nat.le_of_ble_eq_true rfl) rfl ?_
  simp only [ir4, go_sem, ↓reduceIte, zA, zB, zC, zD, zE, zF, reduceCtorEq, zG, zH, zI, zJ, zK, zL, zM, zN, zO, zP]
  refine W_calld (alive9_tri) rfl rfl rfl rfl ?_; simp only [go_sem, ↓reduceIte, zA, zB, zC, zD, zE, zF, reduceCtorEq, zG, zH, zI, zJ, zK, zL, zM, zN, zO, zP]
  refine W_calld (great_tri s) rfl rfl rfl rfl ?_; simp only [go_sem, ↓reduceIte, zA, zB, zC, zD, zE, zF, reduceCtorEq, zG, zH, zI, zJ, zK, zL, zM, zN, zO, zP]
  cases hg : greatB s with
  | true => simp only [go_sem, ↓reduceIte, zA, zB, zC, zD, zE, zF, reduceCtorEq, zG, zH, zI, zJ, zK, zL, zM, zN, zO, zP]
  | false =>
  simp only [go_sem, ↓reduceIte, zA, zB, zC, zD, zE, zF, reduceCtorEq, zG, zH, zI, zJ, zK, zL, zM, zN, zO, zP]
  refine W_calld (apply_tri c s o) rfl rfl rfl rfl ?_; simp only [go_sem, ↓reduceIte, zA, zB, zC, zD, zE, zF, reduceCtorEq, zG, zH, zI, zJ, zK, zL, zM, zN, zO, zP]
  refine W_calld (right9_tri c s) rfl rfl rfl rfl ?_; simp only [go_sem, ↓reduceIte, zA, zB, zC, zD, zE, zF, reduceCtorEq, zG, zH, zI, zJ, zK, zL, zM, zN, zO, zP]
  cases hr : rightRB c s with
  | false =>
    have hA : applyD c s o = (zeroState, 1) := by unfold applyD; rw [right_ref, if_pos hr]
    rw [hA]
    simp only [go_sem, ↓reduceIte, zA, zB, zC, zD, zE, zF, reduceCtorEq, zG, zH, zI, zJ, zK, zL, zM, zN, zO, zP]
    refine W_callz [] (same9_tri zeroState zeroState (by decide) (by decide)) rfl (by simp [argRs, argR, rowsAt, objL, zeroState, go_sem, ↓reduceIte, zA, zB, zC, zD, zE, zF, reduceCtorEq, zG, zH, zI, zJ, zK, zL, zM, zN, zO, zP]) (by simp [objL]) rfl rfl ?_; simp only [go_sem, ↓reduceIte, zA, zB, zC, zD, zE, zF, reduceCtorEq, zG, zH, zI, zJ, zK, zL, zM, zN, zO, zP]
  | true =>
  have hp := (rightR_iff c s).1 hr
  simp only [go_sem, ↓reduceIte, zA, zB, zC, zD, zE, zF, reduceCtorEq, zG, zH, zI, zJ, zK, zL, zM, zN, zO, zP]
  have ha := apply_right hp o
  have hal := ha.len
  have haj := ha.jobs
  rw [apply_ref hp o] at hal haj
  refine W_calld (apply9_tri c s o hp) rfl rfl rfl rfl ?_; simp only [go_sem, ↓reduceIte, zA, zB, zC, zD, zE, zF, reduceCtorEq, zG, zH, zI, zJ, zK, zL, zM, zN, zO, zP]
  rw [apply_ref hp o]
  generalize applyR c s o = p at *
  simp only [go_sem, ↓reduceIte, zA, zB, zC, zD, zE, zF, reduceCtorEq, zG, zH, zI, zJ, zK, zL, zM, zN, zO, zP]
  refine W_calld (same9_tri p.1 p.1 (by omega) (by omega)) rfl rfl rfl rfl ?_; simp only [go_sem, ↓reduceIte, zA, zB, zC, zD, zE, zF, reduceCtorEq, zG, zH, zI, zJ, zK, zL, zM, zN, zO, zP]
end Dv
