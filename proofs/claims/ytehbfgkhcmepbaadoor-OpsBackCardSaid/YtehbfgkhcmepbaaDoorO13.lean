/- The ops' statements: the document's example; bytes; words. -/
import Derived.Test.YtehbfgkhcmepbaaDoorO12
import Derived.Test.YtehbfgkhcmepbaaDoorI11
set_option linter.unusedVariables false
set_option linter.unusedSimpArgs false
namespace Dv
open Go Go.Proofs
open Nat renaming reduceEqDiff → zA, reduceAdd → zB, reduceSub → zC, reduceMul → zD, reduceLT → zE, reduceLeDiff → zF
open Int renaming reduceLE → zG, reduceLT → zH, reduceToNat → zI, reduceBEq → zJ, reduceBNe → zK, reduceEq → zL, reduceAdd → zM, reduceSub → zN, reduceMul → zO, reduceNeg → zP
attribute [local go_sem] argEnv W_nil W_seq W_skip W_ret W_exit W_scope W_block W_blk W_reg W_regD W_cond WC_t WC_f WC_any Wx_c Wx_ops Wx_lp Wx_blk W_ops_nil W_opsD_q W_guard W_guardD WG_tt WG_ff WG_tf WG_ft WG_u WGD_tt WGD_ff WGD_tf WGD_ft WGD_u WE_some WED_some W_more W_mv W_pick W_new W_box W_build W_bsl W_ld1 W_ldn W_st W_nck W_bin W_eqb W_not W_cvt W_fad W_fld1 W_fldn W_ixa W_ixr W_ix1 W_ixs W_len W_lens W_mkf W_ext W_app W_min W_isnp W_isns W_eqs W_neg W_ixn W_sli W_sls WD_more WD_mv WD_pick WD_new WD_box WD_build WD_bsl WD_ld1 WD_ldn WD_st WD_nck WD_bin WD_eqb WD_not WD_cvt WD_fad WD_fld1 WD_fldn WD_ixa WD_ixr WD_ix1 WD_ixs WD_len WD_lens WD_mkf WD_ext WD_app WD_min WD_isnp WD_isns WD_eqs WD_neg WD_ixn WD_sli WD_sls effF effM bytesOf Opd.ev getE putE binV LV.int LV.bool LV.undef Go.undef LV.cells LV.toD LV.toDs splice fillL rowsOf srcRows updL objL Eff.owned nwp St.get St.obj St.put Value.oneCell' Ends adopt Ad.ap isNil St.keep St.okKeep okObj idl idlL idlO RVs.of RV.of oneOr Ends0 EndsO_iff frzs rn rnL rnO piOf eqCells eqV boundV Option.map_some Option.map_none List.append_nil List.nil_append List.cons_append List.map_nil List.map_cons List.length_nil List.length_cons List.set_cons_zero List.set_cons_succ List.take_succ_cons List.take_zero List.take_nil List.drop_succ_cons List.drop_zero List.drop_nil List.getElem?_cons_zero List.getElem?_cons_succ List.getElem?_nil List.isEmpty_nil List.isEmpty_cons List.all_cons List.all_nil List.isEmpty_nil cond_true cond_false Bool.true_and Bool.false_and Bool.and_true Bool.and_false Bool.not_true Bool.not_false Bool.or_true Bool.true_or Bool.or_false Bool.false_or true_and and_true true_or or_true Option.some.injEq LV.d.injEq DV.val.injEq Value.bool.injEq Value.int.injEq decide_true decide_false and_self Nat.zero_add Nat.add_zero if_true if_false Int.toNat_zero beq_self_eq_true Nat.zero_lt_succ Int.toNat_natCast Int.natCast_nonneg List.length_map i64 bl List.zip_cons_cons List.zip_nil_left List.zip_nil_right nwp confV stateV nodeV jobV nodesV jobsV opV msgV nodeR jobR opR msgR zeroOp zeroMsg msgsV
variable {G : Nat → Option (List DV)}

/-- dunnagelaw08.alive -/
def ir8 : Nat × C × List RV := (54,
(.seq (.reg [⟨(some 0), .mv (.c (.val (.bool false))), none, []⟩])
 (.seq (.reg [⟨(some 6), .build [(.val (.int .i64 0)), (.val (.int .i64 0)), (.val (.int .i64 0)), (.val (.int .i64 0)), (.val (.int .i64 0)), (.val (.int .i64 0)), (.val (.int .i64 0))] [(0, 1, (.c (.val (.int .i64 9)))), (1, 1, (.c (.val (.int .i64 1)))), (2, 1, (.c (.val (.int .i64 3))))], none, []⟩,
 ⟨(some 1), .new 23 [(.val (.int .i64 0)), (.val (.int .i64 0)), (.val (.int .i64 0)), (.val (.int .i64 0)), (.val (.int .i64 0)), (.val (.int .i64 0)), (.val (.int .i64 0))], none, []⟩,
 ⟨none, .st 7 (.t 1) (.t 6), none, []⟩])
 (.seq (.reg [⟨(some 8), .bsl 5 1 [(.c (.val (.int .u8 3))), (.c (.val (.int .u8 9))), (.c (.val (.int .u8 1))), (.c (.val (.int .u8 3)))], none, []⟩,
 ⟨(some 9), .call (.f 9) [(.t 8)], none, []⟩,
 ⟨(some 7), .mv (.t 9), none, []⟩,
 ⟨(some 10), .ext (.t 7) 0, none, []⟩,
 ⟨(some 11), .ext (.t 7) 1, none, []⟩,
 ⟨(some 2), .new 23 [(.val (.int .i64 0)), (.val (.int .i64 0)), (.val (.int .i64 0)), (.val (.int .i64 0)), (.val (.int .i64 0)), (.val (.int .i64 0)), (.val (.int .i64 0))], none, []⟩,
 ⟨none, .st 7 (.t 2) (.t 10), none, []⟩,
 ⟨(some 3), .mv (.t 11), none, []⟩])
 (.seq (.reg [⟨(some 13), .call (.f 16) [(.c (.val (.string ⟨#[104, 111, 108, 100, 32, 49, 32, 51]⟩)))], none, []⟩,
 ⟨(some 12), .mv (.t 13), none, []⟩,
 ⟨(some 14), .ext (.t 12) 0, none, []⟩,
 ⟨(some 15), .ext (.t 12) 1, none, []⟩,
 ⟨(some 4), .new 23 [(.val (.int .i64 0)), (.val (.int .i64 0)), (.val (.int .i64 0)), (.val (.int .i64 0)), (.val (.int .i64 0)), (.val (.int .i64 0)), (.val (.int .i64 0))], none, []⟩,
 ⟨none, .st 7 (.t 4) (.t 14), none, []⟩,
 ⟨(some 5), .mv (.t 15), none, []⟩])
 (.seq (.reg [⟨(some 16), .mv (.t 3), none, []⟩,
 ⟨(some 17), .mv (.t 16), none, []⟩,
 ⟨(some 18), .mv (.t 5), (some (17, true)), []⟩,
 ⟨(some 19), .pick (.t 17) (.t 18) (.c (.val (.bool false))), none, []⟩,
 ⟨(some 20), .mv (.t 19), none, []⟩,
 ⟨(some 21), .ldn 7 (.t 2), (some (20, true)), []⟩,
 ⟨(some 22), .ldn 7 (.t 1), (some (20, true)), []⟩,
 ⟨(some 23), .eqs false [0, 0, 0, 0, 0, 0, 0] (.t 21) (.t 22), (some (20, true)), []⟩,
 ⟨(some 24), .pick (.t 20) (.t 23) (.c (.val (.bool false))), none, []⟩,
 ⟨(some 25), .mv (.t 24), none, []⟩,
 ⟨(some 26), .ldn 7 (.t 4), (some (25, true)), []⟩,
 ⟨(some 27), .ldn 7 (.t 1), (some (25, true)), []⟩,
 ⟨(some 28), .eqs false [0, 0, 0, 0, 0, 0, 0] (.t 26) (.t 27), (some (25, true)), []⟩,
 ⟨(some 29), .pick (.t 25) (.t 28) (.c (.val (.bool false))), none, []⟩,
 ⟨(some 30), .mv (.t 29), none, []⟩,
 ⟨(some 31), .ldn 7 (.t 1), (some (30, true)), []⟩,
 ⟨(some 32), .call (.f 11) [(.t 31)], (some (30, true)), []⟩,
 ⟨(some 33), .pick (.t 30) (.t 32) (.c (.val (.bool false))), none, []⟩,
 ⟨(some 34), .mv (.t 33), none, []⟩,
 ⟨(some 35), .build [(.val (.int .i64 0)), (.val (.int .i64 0)), (.val (.int .i64 0)), (.val (.int .i64 0)), (.val (.int .i64 0)), (.val (.int .i64 0)), (.val (.int .i64 0))] [], (some (34, true)), []⟩,
 ⟨(some 36), .call (.f 11) [(.t 35)], (some (34, true)), []⟩,
 ⟨(some 37), .not (.t 36), (some (34, true)), []⟩,
 ⟨(some 38), .pick (.t 34) (.t 37) (.c (.val (.bool false))), none, []⟩,
 ⟨(some 39), .mv (.t 38), none, []⟩,
 ⟨(some 40), .ldn 7 (.t 1), (some (39, true)), []⟩,
 ⟨(some 41), .call (.f 14) [(.t 40)], (some (39, true)), []⟩,
 ⟨(some 42), .bsl 5 1 [(.c (.val (.int .u8 3))), (.c (.val (.int .u8 9))), (.c (.val (.int .u8 1))), (.c (.val (.int .u8 3)))], (some (39, true)), []⟩,
 ⟨(some 43), .call (.f 13) [(.t 41), (.t 42)], (some (39, true)), []⟩,
 ⟨(some 44), .pick (.t 39) (.t 43) (.c (.val (.bool false))), none, []⟩,
 ⟨(some 45), .mv (.t 44), none, []⟩,
 ⟨(some 46), .ldn 7 (.t 1), (some (45, true)), []⟩,
 ⟨(some 47), .call (.f 20) [(.t 46)], (some (45, true)), []⟩,
 ⟨(some 48), .bin .eql (.t 47) (.c (.val (.string ⟨#[104, 111, 108, 100, 32, 49, 32, 51]⟩))), (some (45, true)), []⟩,
 ⟨(some 49), .pick (.t 45) (.t 48) (.c (.val (.bool false))), none, []⟩,
 ⟨(some 50), .mv (.t 49), none, []⟩,
 ⟨(some 51), .call (.f 18) [(.c (.val (.int .i64 21)))], (some (50, true)), []⟩,
 ⟨(some 52), .bin .eql (.t 51) (.c (.val (.string ⟨#[110, 101, 119, 116, 101, 114, 109]⟩))), (some (50, true)), []⟩,
 ⟨(some 53), .pick (.t 50) (.t 52) (.c (.val (.bool false))), none, []⟩,
 ⟨(some 0), .mv (.t 53), none, []⟩])
 .ret))))),
[(.t 0)])
theorem irOk8 : convFn Tryd.prog Tryd.f8 = some ir8 := by kernel_rfl
/-- dunnagelaw08.OpsBytes -/
def ir3 : Nat × C × List RV := (46,
(.seq (.reg [⟨(some 2), .box 23 (.t 0), none, []⟩,
 ⟨(some 4), .mv (.c (.val (.bool false))), none, []⟩])
 (.seq (.seq (.reg [⟨(some 9), .call (.f 8) [], none, []⟩,
 ⟨(some 10), .not (.t 9), none, []⟩])
 (.cond (.t 10) (.seq (.reg [⟨(some 4), .mv (.c (.val (.bool false))), none, []⟩])
 .ret)
 .skip))
 (.seq (.seq (.reg [⟨(some 11), .mv (.t 1), none, []⟩,
 ⟨(some 12), .len (.t 11), none, []⟩,
 ⟨(some 13), .bin .gtr (.t 12) (.c (.val (.int .i64 300))), none, []⟩])
 (.cond (.t 13) (.seq (.reg [⟨(some 4), .mv (.c (.val (.bool true))), none, []⟩])
 .ret)
 .skip))
 (.seq (.reg [⟨(some 15), .mv (.t 1), none, []⟩,
 ⟨(some 16), .call (.f 9) [(.t 15)], none, []⟩,
 ⟨(some 14), .mv (.t 16), none, []⟩,
 ⟨(some 17), .ext (.t 14) 0, none, []⟩,
 ⟨(some 18), .ext (.t 14) 1, none, []⟩,
 ⟨(some 5), .new 23 [(.val (.int .i64 0)), (.val (.int .i64 0)), (.val (.int .i64 0)), (.val (.int .i64 0)), (.val (.int .i64 0)), (.val (.int .i64 0)), (.val (.int .i64 0))], none, []⟩,
 ⟨none, .st 7 (.t 5) (.t 17), none, []⟩,
 ⟨(some 6), .mv (.t 18), none, []⟩])
 (.seq (.reg [⟨(some 20), .mv (.t 1), none, []⟩,
 ⟨(some 21), .call (.f 10) [(.t 20)], none, []⟩,
 ⟨(some 19), .mv (.t 21), none, []⟩,
 ⟨(some 22), .ext (.t 19) 0, none, []⟩,
 ⟨(some 23), .ext (.t 19) 1, none, []⟩,
 ⟨(some 7), .new 23 [(.val (.int .i64 0)), (.val (.int .i64 0)), (.val (.int .i64 0)), (.val (.int .i64 0)), (.val (.int .i64 0)), (.val (.int .i64 0)), (.val (.int .i64 0))], none, []⟩,
 ⟨none, .st 7 (.t 7) (.t 22), none, []⟩,
 ⟨(some 8), .mv (.t 23), none, []⟩])
 (.seq (.regD [⟨(some 24), .ldn 7 (.t 2), none, []⟩,
 ⟨(some 25), .call (.f 11) [(.t 24)], none, [0]⟩,
 ⟨(some 26), .ldn 7 (.t 2), none, []⟩,
 ⟨(some 27), .call (.f 12) [(.t 26)], none, [2, 1, 0]⟩,
 ⟨(some 28), .eqb false (.t 25) (.t 27), none, [1, 0, 3, 2]⟩,
 ⟨(some 29), .mv (.t 28), none, [4, 1, 0, 3, 2]⟩,
 ⟨(some 30), .ldn 7 (.t 2), (some (29, true)), [5, 4, 1, 0, 3, 2]⟩,
 ⟨(some 31), .call (.f 14) [(.t 30)], (some (29, true)), [6, 5, 4, 1, 0, 3, 2]⟩,
 ⟨(some 32), .ldn 7 (.t 2), (some (29, true)), [5, 4, 1, 0, 3, 2]⟩,
 ⟨(some 33), .call (.f 15) [(.t 32)], (some (29, true)), [8, 5, 4, 1, 0, 3, 2, 7, 6]⟩,
 ⟨(some 34), .call (.f 13) [(.t 31), (.t 33)], (some (29, true)), [7, 6, 5, 4, 1, 0, 3, 2, 9, 8]⟩,
 ⟨(some 35), .pick (.t 29) (.t 34) (.c (.val (.bool false))), none, [5, 4, 1, 0, 3, 2, 10, 7, 6, 9, 8]⟩,
 ⟨(some 36), .mv (.t 35), none, [11, 5, 4, 1, 0, 3, 2, 10, 7, 6, 9, 8]⟩,
 ⟨(some 37), .ldn 7 (.t 5), (some (36, true)), [12, 11, 5, 4, 1, 0, 3, 2, 10, 7, 6, 9, 8]⟩,
 ⟨(some 38), .ldn 7 (.t 7), (some (36, true)), [12, 11, 5, 4, 1, 0, 3, 2, 10, 7, 6, 9, 8]⟩,
 ⟨(some 39), .eqs false [0, 0, 0, 0, 0, 0, 0] (.t 37) (.t 38), (some (36, true)), [13, 12, 11, 5, 4, 1, 0, 3, 2, 10, 7, 6, 9, 8, 14]⟩,
 ⟨(some 40), .pick (.t 36) (.t 39) (.c (.val (.bool false))), none, [12, 11, 5, 4, 1, 0, 3, 2, 10, 7, 6, 9, 8, 15, 13, 14]⟩,
 ⟨(some 41), .mv (.t 40), none, [16, 12, 11, 5, 4, 1, 0, 3, 2, 10, 7, 6, 9, 8, 15, 13, 14]⟩,
 ⟨(some 42), .mv (.t 6), (some (41, true)), [17, 16, 12, 11, 5, 4, 1, 0, 3, 2, 10, 7, 6, 9, 8, 15, 13, 14]⟩,
 ⟨(some 43), .mv (.t 8), (some (41, true)), [17, 16, 12, 11, 5, 4, 1, 0, 3, 2, 10, 7, 6, 9, 8, 15, 13, 14]⟩,
 ⟨(some 44), .eqb false (.t 42) (.t 43), (some (41, true)), [18, 17, 16, 12, 11, 5, 4, 1, 0, 3, 2, 10, 7, 6, 9, 8, 15, 13, 14, 19]⟩,
 ⟨(some 45), .pick (.t 41) (.t 44) (.c (.val (.bool false))), none, [17, 16, 12, 11, 5, 4, 1, 0, 3, 2, 10, 7, 6, 9, 8, 15, 13, 14, 20, 18, 19]⟩,
 ⟨(some 4), .mv (.t 45), none, [21, 17, 16, 12, 11, 5, 4, 1, 0, 3, 2, 10, 7, 6, 9, 8, 15, 13, 14, 20, 18, 19]⟩])
 .ret)))))),
[(.t 4)])
theorem irOk3 : convFn Tryd.prog Tryd.f3 = some ir3 := by kernel_rfl
/-- dunnagelaw08.OpsWords -/
def ir4 : Nat × C × List RV := (48,
(.seq (.reg [⟨(some 3), .box 23 (.t 0), none, []⟩,
 ⟨(some 6), .mv (.c (.val (.bool false))), none, []⟩])
 (.seq (.seq (.reg [⟨(some 11), .call (.f 8) [], none, []⟩,
 ⟨(some 12), .not (.t 11), none, []⟩])
 (.cond (.t 12) (.seq (.reg [⟨(some 6), .mv (.c (.val (.bool false))), none, []⟩])
 .ret)
 .skip))
 (.seq (.seq (.reg [⟨(some 13), .mv (.t 1), none, []⟩,
 ⟨(some 14), .lens (.t 13), none, []⟩,
 ⟨(some 15), .bin .gtr (.t 14) (.c (.val (.int .i64 300))), none, []⟩])
 (.cond (.t 15) (.seq (.reg [⟨(some 6), .mv (.c (.val (.bool true))), none, []⟩])
 .ret)
 .skip))
 (.seq (.reg [⟨(some 17), .mv (.t 1), none, []⟩,
 ⟨(some 18), .call (.f 16) [(.t 17)], none, []⟩,
 ⟨(some 16), .mv (.t 18), none, []⟩,
 ⟨(some 19), .ext (.t 16) 0, none, []⟩,
 ⟨(some 20), .ext (.t 16) 1, none, []⟩,
 ⟨(some 7), .new 23 [(.val (.int .i64 0)), (.val (.int .i64 0)), (.val (.int .i64 0)), (.val (.int .i64 0)), (.val (.int .i64 0)), (.val (.int .i64 0)), (.val (.int .i64 0))], none, []⟩,
 ⟨none, .st 7 (.t 7) (.t 19), none, []⟩,
 ⟨(some 8), .mv (.t 20), none, []⟩])
 (.seq (.reg [⟨(some 22), .mv (.t 1), none, []⟩,
 ⟨(some 23), .call (.f 17) [(.t 22)], none, []⟩,
 ⟨(some 21), .mv (.t 23), none, []⟩,
 ⟨(some 24), .ext (.t 21) 0, none, []⟩,
 ⟨(some 25), .ext (.t 21) 1, none, []⟩,
 ⟨(some 9), .new 23 [(.val (.int .i64 0)), (.val (.int .i64 0)), (.val (.int .i64 0)), (.val (.int .i64 0)), (.val (.int .i64 0)), (.val (.int .i64 0)), (.val (.int .i64 0))], none, []⟩,
 ⟨none, .st 7 (.t 9) (.t 24), none, []⟩,
 ⟨(some 10), .mv (.t 25), none, []⟩])
 (.seq (.regD [⟨(some 26), .mv (.t 2), none, []⟩,
 ⟨(some 27), .call (.f 18) [(.t 26)], none, [0]⟩,
 ⟨(some 28), .mv (.t 2), none, []⟩,
 ⟨(some 29), .call (.f 19) [(.t 28)], none, [2, 1, 0]⟩,
 ⟨(some 30), .bin .eql (.t 27) (.t 29), none, [1, 0, 3, 2]⟩,
 ⟨(some 31), .mv (.t 30), none, [4, 1, 0, 3, 2]⟩,
 ⟨(some 32), .ldn 7 (.t 3), (some (31, true)), [5, 4, 1, 0, 3, 2]⟩,
 ⟨(some 33), .call (.f 20) [(.t 32)], (some (31, true)), [6, 5, 4, 1, 0, 3, 2]⟩,
 ⟨(some 34), .ldn 7 (.t 3), (some (31, true)), [5, 4, 1, 0, 3, 2]⟩,
 ⟨(some 35), .call (.f 21) [(.t 34)], (some (31, true)), [8, 5, 4, 1, 0, 3, 2, 7, 6]⟩,
 ⟨(some 36), .bin .eql (.t 33) (.t 35), (some (31, true)), [7, 6, 5, 4, 1, 0, 3, 2, 9, 8]⟩,
 ⟨(some 37), .pick (.t 31) (.t 36) (.c (.val (.bool false))), none, [5, 4, 1, 0, 3, 2, 10, 7, 6, 9, 8]⟩,
 ⟨(some 38), .mv (.t 37), none, [11, 5, 4, 1, 0, 3, 2, 10, 7, 6, 9, 8]⟩,
 ⟨(some 39), .ldn 7 (.t 7), (some (38, true)), [12, 11, 5, 4, 1, 0, 3, 2, 10, 7, 6, 9, 8]⟩,
 ⟨(some 40), .ldn 7 (.t 9), (some (38, true)), [12, 11, 5, 4, 1, 0, 3, 2, 10, 7, 6, 9, 8]⟩,
 ⟨(some 41), .eqs false [0, 0, 0, 0, 0, 0, 0] (.t 39) (.t 40), (some (38, true)), [13, 12, 11, 5, 4, 1, 0, 3, 2, 10, 7, 6, 9, 8, 14]⟩,
 ⟨(some 42), .pick (.t 38) (.t 41) (.c (.val (.bool false))), none, [12, 11, 5, 4, 1, 0, 3, 2, 10, 7, 6, 9, 8, 15, 13, 14]⟩,
 ⟨(some 43), .mv (.t 42), none, [16, 12, 11, 5, 4, 1, 0, 3, 2, 10, 7, 6, 9, 8, 15, 13, 14]⟩,
 ⟨(some 44), .mv (.t 8), (some (43, true)), [17, 16, 12, 11, 5, 4, 1, 0, 3, 2, 10, 7, 6, 9, 8, 15, 13, 14]⟩,
 ⟨(some 45), .mv (.t 10), (some (43, true)), [17, 16, 12, 11, 5, 4, 1, 0, 3, 2, 10, 7, 6, 9, 8, 15, 13, 14]⟩,
 ⟨(some 46), .eqb false (.t 44) (.t 45), (some (43, true)), [18, 17, 16, 12, 11, 5, 4, 1, 0, 3, 2, 10, 7, 6, 9, 8, 15, 13, 14, 19]⟩,
 ⟨(some 47), .pick (.t 43) (.t 46) (.c (.val (.bool false))), none, [17, 16, 12, 11, 5, 4, 1, 0, 3, 2, 10, 7, 6, 9, 8, 15, 13, 14, 20, 18, 19]⟩,
 ⟨(some 6), .mv (.t 47), none, [21, 17, 16, 12, 11, 5, 4, 1, 0, 3, 2, 10, 7, 6, 9, 8, 15, 13, 14, 20, 18, 19]⟩])
 .ret)))))),
[(.t 6)])
theorem irOk4 : convFn Tryd.prog Tryd.f4 = some ir4 := by kernel_rfl

attribute [local go_sem] u8 bytesV optOp

/-- what the tables are. -/
structure OG (G : Nat → Option (List DV)) : Prop where
  b : ∀ g row, bookG g = some row → G g = some row
  p : G 3 = some powR
  m : ∃ m : Int, G 2 = some [.val (.int .i64 m)]
theorem OG.name (h : OG G) (k : Int) : Tri Tryd.prog G 18 [.int k] [] (.d (.val (.string (nameOf k)))) [] := (name_tri k).up h.b
theorem OG.right (h : OG G) (o : OpD) : Tri Tryd.prog G 11 [opV o] [] (.bool (opOkB o)) [] := (opsRight_tri o).up h.b
theorem OG.put (h : OG G) (o : OpD) : Tri Tryd.prog G 14 [opV o] [] (bytesV (putO o)) [] := (oput_tri o).up h.b
theorem OG.get (h : OG G) (b : List Int) (hb : ∀ c ∈ b, 0 ≤ c ∧ c ≤ 255) (hl : b.length ≤ 1000000) : Tri Tryd.prog G 9 [bytesV b] [] (optOp (getO b)) [] := (oget_tri b hb hl).up h.b
theorem OG.text (h : OG G) (o : OpD) : Tri Tryd.prog G 20 [opV o] [] (.d (.val (.string (textO o)))) [] := text_tri h.b h.p o
theorem OG.parse (h : OG G) (s : ByteArray) (hs : s.size ≤ 1000000) : Tri Tryd.prog G 16 [.d (.val (.string s))] [] (optOp (parseO s)) [] := by
  obtain ⟨m, hm⟩ := h.m
  exact parse_tri h.b m hm s hs

def aliveO : OpD := ⟨9, 1, 3, 0, 0, 0, 0⟩
def aliveOB : List Int := [3, 9, 1, 3]
def aliveOT : ByteArray := ⟨#[104, 111, 108, 100, 32, 49, 32, 51]⟩
theorem aliveO_ok : opOkB aliveO = true := by decide
theorem aliveO_put : putO aliveO = aliveOB := by decide
theorem aliveO_get : getO aliveOB = some aliveO := by rw [← aliveO_put]; exact getO_put aliveO_ok
theorem aliveO_text : textO aliveO = aliveOT := by
  unfold textO
  rw [if_pos aliveO_ok]
  have e : (numsL aliveO).take (manyK aliveO.kind) = [1, 3] := by decide
  rw [e]
  simp only [textL, itoaB_lt 1 (by decide) (by decide), itoaB_lt 3 (by decide) (by decide)]
  decide +kernel
theorem aliveO_parse : parseO aliveOT = some aliveO := by rw [← aliveO_text]; exact parseO_text aliveO_ok
theorem zeroO_bad : opOkB ⟨0, 0, 0, 0, 0, 0, 0⟩ = false := by decide
set_option maxHeartbeats 2000000 in
theorem alive8_tri (h : OG G) : Tri Tryd.prog G 8 [] [] (.bool true) [] := by
  refine tri_W0 Tryd.func8 (by decide) irOk8 (Nat.le_of_ble_eq_true rfl) rfl ?_
  simp only [ir8, go_sem, ↓reduceIte, zA, zB, zC, zD, zE, zF, reduceCtorEq, zG, zH, zI, zJ, zK, zL, zM, zN, zO, zP]
  have h1 := h.get aliveOB (by decide) (by decide)
  rw [aliveO_get] at h1
  refine W_callz [1] (h1) rfl (by simp [argRs, argR, rowsAt, objL, byteR, aliveOB, u8, go_sem, ↓reduceIte, zA, zB, zC, zD, zE, zF, reduceCtorEq, zG, zH, zI, zJ, zK, zL, zM, zN, zO, zP]) (by simp [objL]) rfl rfl ?_; simp only [go_sem, ↓reduceIte, zA, zB, zC, zD, zE, zF, reduceCtorEq, zG, zH, zI, zJ, zK, zL, zM, zN, zO, zP]
  have h2 := h.parse aliveOT (by decide)
  rw [aliveO_parse] at h2
  simp only [Option.isSome_some, Option.getD_some, aliveO, go_sem, ↓reduceIte, zA, zB, zC, zD, zE, zF, reduceCtorEq, zG, zH, zI, zJ, zK, zL, zM, zN, zO, zP]
  refine W_calld h2 rfl rfl rfl rfl ?_
  simp only [Option.isSome_some, Option.getD_some, aliveO, go_sem, ↓reduceIte, zA, zB, zC, zD, zE, zF, reduceCtorEq, zG, zH, zI, zJ, zK, zL, zM, zN, zO, zP]
  have h3 := h.right aliveO
  rw [aliveO_ok] at h3
  refine W_calld h3 rfl rfl rfl rfl ?_
  simp only [go_sem, ↓reduceIte, zA, zB, zC, zD, zE, zF, reduceCtorEq, zG, zH, zI, zJ, zK, zL, zM, zN, zO, zP]
  have h4 := h.right ⟨0, 0, 0, 0, 0, 0, 0⟩
  rw [zeroO_bad] at h4
  refine W_calld h4 rfl rfl rfl rfl ?_
  simp only [go_sem, ↓reduceIte, zA, zB, zC, zD, zE, zF, reduceCtorEq, zG, zH, zI, zJ, zK, zL, zM, zN, zO, zP]
  have h5 := h.put aliveO
  rw [aliveO_put] at h5
  refine W_calld h5 rfl rfl rfl rfl ?_
  simp only [go_sem, ↓reduceIte, zA, zB, zC, zD, zE, zF, reduceCtorEq, zG, zH, zI, zJ, zK, zL, zM, zN, zO, zP]
  have h6 := bytes_tri (G := G) aliveOB aliveOB (by decide)
  refine W_callz [4] (h6) rfl (by simp [argRs, argR, rowsAt, objL, byteR, aliveOB, u8, go_sem, ↓reduceIte, zA, zB, zC, zD, zE, zF, reduceCtorEq, zG, zH, zI, zJ, zK, zL, zM, zN, zO, zP]) (by simp [objL]) rfl rfl ?_; simp only [go_sem, ↓reduceIte, zA, zB, zC, zD, zE, zF, reduceCtorEq, zG, zH, zI, zJ, zK, zL, zM, zN, zO, zP]
  have h7 := h.text aliveO
  rw [aliveO_text] at h7
  refine W_calld h7 rfl rfl rfl rfl ?_
  simp only [str_eq, aliveOT, decide_true, go_sem, ↓reduceIte, zA, zB, zC, zD, zE, zF, reduceCtorEq, zG, zH, zI, zJ, zK, zL, zM, zN, zO, zP]
  refine W_calld (h.name 21) rfl rfl rfl rfl ?_
  simp only [str_eq, show nameOf 21 = ⟨#[110, 101, 119, 116, 101, 114, 109]⟩ from rfl, decide_true, go_sem, ↓reduceIte, zA, zB, zC, zD, zE, zF, reduceCtorEq, zG, zH, zI, zJ, zK, zL, zM, zN, zO, zP]

set_option maxHeartbeats 2000000 in
theorem bytes_law (h : OG G) (o : OpD) (b : List Int) (hb : ∀ x ∈ b, 0 ≤ x ∧ x ≤ 255) : Tri Tryd.prog G 3 [opV o, bytesV b] [] (.bool true) [] := by
  have hlb : (byteR b).length = b.length := by simp [byteR]
  refine tri_W0 Tryd.func3 (by decide) irOk3 (Nat.le_of_ble_eq_true rfl) rfl ?_
  simp only [ir3, go_sem, ↓reduceIte, zA, zB, zC, zD, zE, zF, reduceCtorEq, zG, zH, zI, zJ, zK, zL, zM, zN, zO, zP]
  refine W_calld (alive8_tri h) rfl rfl rfl rfl ?_; simp only [go_sem, ↓reduceIte, zA, zB, zC, zD, zE, zF, reduceCtorEq, zG, zH, zI, zJ, zK, zL, zM, zN, zO, zP]
  simp only [hlb, go_sem, ↓reduceIte, zA, zB, zC, zD, zE, zF, reduceCtorEq, zG, zH, zI, zJ, zK, zL, zM, zN, zO, zP]
  by_cases h1 : b.length ≤ 300
  case neg => simp only [decide_eq_true (show ((b.length : Nat) : Int) > 300 by omega), go_sem, ↓reduceIte, zA, zB, zC, zD, zE, zF, reduceCtorEq, zG, zH, zI, zJ, zK, zL, zM, zN, zO, zP]
  simp only [decide_eq_false (show ¬ ((b.length : Nat) : Int) > 300 by omega), go_sem, ↓reduceIte, zA, zB, zC, zD, zE, zF, reduceCtorEq, zG, zH, zI, zJ, zK, zL, zM, zN, zO, zP]
  refine W_calld (h.get b hb (by omega)) rfl rfl rfl rfl ?_; simp only [go_sem, ↓reduceIte, zA, zB, zC, zD, zE, zF, reduceCtorEq, zG, zH, zI, zJ, zK, zL, zM, zN, zO, zP]
  have hT := oget8_tri (G := G) b hb (by omega)
  rw [getOR_eq hb] at hT
  refine W_calld (hT) rfl rfl rfl rfl ?_; simp only [go_sem, ↓reduceIte, zA, zB, zC, zD, zE, zF, reduceCtorEq, zG, zH, zI, zJ, zK, zL, zM, zN, zO, zP]
  generalize (getO b).getD zeroOp = x at *
  generalize (getO b).isSome = ok at *
  refine WD_calld (h.right o) rfl rfl rfl rfl ?_; simp only [go_sem, ↓reduceIte, zA, zB, zC, zD, zE, zF, reduceCtorEq, zG, zH, zI, zJ, zK, zL, zM, zN, zO, zP]
  refine WD_calld (ops8Right_tri o) rfl rfl rfl rfl ?_; simp only [go_sem, ↓reduceIte, zA, zB, zC, zD, zE, zF, reduceCtorEq, zG, zH, zI, zJ, zK, zL, zM, zN, zO, zP]
  have hl := putO_len o
  refine WD_calld (h.put o) rfl rfl rfl rfl ?_; simp only [go_sem, ↓reduceIte, zA, zB, zC, zD, zE, zF, reduceCtorEq, zG, zH, zI, zJ, zK, zL, zM, zN, zO, zP]
  refine WD_calld (oput8_tri o) rfl rfl rfl rfl ?_; simp only [go_sem, ↓reduceIte, zA, zB, zC, zD, zE, zF, reduceCtorEq, zG, zH, zI, zJ, zK, zL, zM, zN, zO, zP]
  refine WD_calld (bytes_tri (putO o) (putO o) (by omega)) rfl rfl rfl rfl ?_; simp only [go_sem, ↓reduceIte, zA, zB, zC, zD, zE, zF, reduceCtorEq, zG, zH, zI, zJ, zK, zL, zM, zN, zO, zP]

set_option maxHeartbeats 2000000 in
theorem words_law (h : OG G) (o : OpD) (s : ByteArray) (k : Int) : Tri Tryd.prog G 4 [opV o, .d (.val (.string s)), .int k] [] (.bool true) [] := by
  refine tri_W0 Tryd.func4 (by decide) irOk4 (Nat.le_of_ble_eq_true rfl) rfl ?_
  simp only [ir4, go_sem, ↓reduceIte, zA, zB, zC, zD, zE, zF, reduceCtorEq, zG, zH, zI, zJ, zK, zL, zM, zN, zO, zP]
  refine W_calld (alive8_tri h) rfl rfl rfl rfl ?_; simp only [go_sem, ↓reduceIte, zA, zB, zC, zD, zE, zF, reduceCtorEq, zG, zH, zI, zJ, zK, zL, zM, zN, zO, zP]
  by_cases h1 : s.size ≤ 300
  case neg => simp only [decide_eq_true (show ((s.size : Nat) : Int) > 300 by omega), go_sem, ↓reduceIte, zA, zB, zC, zD, zE, zF, reduceCtorEq, zG, zH, zI, zJ, zK, zL, zM, zN, zO, zP]
  simp only [decide_eq_false (show ¬ ((s.size : Nat) : Int) > 300 by omega), go_sem, ↓reduceIte, zA, zB, zC, zD, zE, zF, reduceCtorEq, zG, zH, zI, zJ, zK, zL, zM, zN, zO, zP]
  refine W_calld (h.parse s (by omega)) rfl rfl rfl rfl ?_; simp only [go_sem, ↓reduceIte, zA, zB, zC, zD, zE, zF, reduceCtorEq, zG, zH, zI, zJ, zK, zL, zM, zN, zO, zP]
  have hT := parse8_tri (G := G) s (by omega)
  rw [parse8_eq s] at hT
  refine W_calld (hT) rfl rfl rfl rfl ?_; simp only [go_sem, ↓reduceIte, zA, zB, zC, zD, zE, zF, reduceCtorEq, zG, zH, zI, zJ, zK, zL, zM, zN, zO, zP]
  generalize (parseO s).getD zeroOp = x at *
  generalize (parseO s).isSome = ok at *
  refine WD_calld (h.name k) rfl rfl rfl rfl ?_; simp only [go_sem, ↓reduceIte, zA, zB, zC, zD, zE, zF, reduceCtorEq, zG, zH, zI, zJ, zK, zL, zM, zN, zO, zP]
  refine WD_calld (name8_tri k) rfl rfl rfl rfl ?_; simp only [go_sem, ↓reduceIte, zA, zB, zC, zD, zE, zF, reduceCtorEq, zG, zH, zI, zJ, zK, zL, zM, zN, zO, zP]
  refine WD_calld (h.text o) rfl rfl rfl rfl ?_; simp only [go_sem, ↓reduceIte, zA, zB, zC, zD, zE, zF, reduceCtorEq, zG, zH, zI, zJ, zK, zL, zM, zN, zO, zP]
  refine WD_calld (text8_tri o) rfl rfl rfl rfl ?_; simp only [go_sem, ↓reduceIte, zA, zB, zC, zD, zE, zF, reduceCtorEq, zG, zH, zI, zJ, zK, zL, zM, zN, zO, zP]
end Dv
