/- Layer 20's laws: FactsSilent, FactsNext, FactsNone. -/
import Derived.Test.YtclgmpflmeopmaaG4
import Derived.Test.YtclgmpflmeopmaaG5
import Derived.Test.YtclgmpflmeopmaaD4
set_option linter.unusedVariables false
set_option linter.unusedSimpArgs false
namespace Dv
open Go Go.Proofs
open Nat renaming reduceEqDiff → zA, reduceAdd → zB, reduceSub → zC, reduceMul → zD, reduceLT → zE, reduceLeDiff → zF
open Int renaming reduceLE → zG, reduceLT → zH, reduceToNat → zI, reduceBEq → zJ, reduceBNe → zK, reduceEq → zL, reduceAdd → zM, reduceSub → zN, reduceMul → zO, reduceNeg → zP
attribute [local go_sem] argEnv W_nil W_seq W_skip W_ret W_exit W_scope W_block W_blk W_reg W_regD W_cond WC_t WC_f WC_any Wx_c Wx_ops Wx_lp Wx_blk W_ops_nil W_opsD_q W_guard W_guardD WG_tt WG_ff WG_tf WG_ft WG_u WGD_tt WGD_ff WGD_tf WGD_ft WGD_u WE_some WED_some W_mv W_pick W_new W_box W_build W_bsl W_ld1 W_ldn W_st W_nck W_bin W_eqb W_not W_cvt W_fad W_fld1 W_fldn W_ixa W_ixr W_ix1 W_ixs W_len W_lens W_mkf W_ext W_app W_min W_isnp W_isns W_eqs W_neg W_ixn W_sli W_sls WD_mv WD_pick WD_new WD_box WD_build WD_bsl WD_ld1 WD_ldn WD_st WD_nck WD_bin WD_eqb WD_not WD_cvt WD_fad WD_fld1 WD_fldn WD_ixa WD_ixr WD_ix1 WD_ixs WD_len WD_lens WD_mkf WD_ext WD_app WD_min WD_isnp WD_isns WD_eqs WD_neg WD_ixn WD_sli WD_sls effF Opd.ev getE putE binV LV.int LV.bool LV.undef Go.undef LV.cells LV.toD LV.toDs splice fillL rowsOf srcRows updL objL Eff.owned nwp St.get St.obj St.put Value.oneCell' Ends adopt Ad.ap isNil St.keep St.okKeep okObj idl idlL idlO RVs.of RV.of oneOr Ends0 EndsO_iff frzs rn rnL rnO piOf eqCells eqV boundV Option.map_some Option.map_none List.append_nil List.nil_append List.cons_append List.map_nil List.map_cons List.length_nil List.length_cons List.set_cons_zero List.set_cons_succ List.take_succ_cons List.take_zero List.take_nil List.drop_succ_cons List.drop_zero List.drop_nil List.getElem?_cons_zero List.getElem?_cons_succ List.getElem?_nil List.isEmpty_nil List.isEmpty_cons List.all_cons List.all_nil List.isEmpty_nil cond_true cond_false Bool.true_and Bool.false_and Bool.and_true Bool.and_false Bool.not_true Bool.not_false Bool.or_true Bool.true_or Bool.or_false Bool.false_or true_and and_true true_or or_true Option.some.injEq LV.d.injEq DV.val.injEq Value.bool.injEq Value.int.injEq decide_true decide_false and_self Nat.zero_add Nat.add_zero if_true if_false Int.toNat_zero beq_self_eq_true Nat.zero_lt_succ Int.toNat_natCast Int.natCast_nonneg List.length_map i64 bl List.zip_cons_cons List.zip_nil_left List.zip_nil_right nwp confV stateV nodeV jobV nodesV jobsV opV msgV nodeR jobR opR msgR zeroOp zeroMsg msgsV
variable {G : Nat → Option (List DV)}

/-- dunnagelaw20.FactsSilent -/
def ir3 : Nat × C × List RV := (53,
(.seq (.reg [⟨(some 8), .mv (.c (.val (.bool false))), none, []⟩])
 (.seq (.seq (.reg [⟨(some 10), .call (.f 9) [], none, []⟩,
 ⟨(some 11), .not (.t 10), none, []⟩])
 (.cond (.t 11) (.seq (.reg [⟨(some 8), .mv (.c (.val (.bool false))), none, []⟩])
 .ret)
 .skip))
 (.seq (.seq (.reg [⟨(some 12), .mv (.t 0), none, []⟩,
 ⟨(some 13), .len (.t 12), none, []⟩,
 ⟨(some 14), .bin .gtr (.t 13) (.c (.val (.int .i64 50))), none, []⟩,
 ⟨(some 15), .mv (.t 14), none, []⟩,
 ⟨(some 16), .mv (.t 1), (some (15, false)), []⟩,
 ⟨(some 17), .len (.t 16), (some (15, false)), []⟩,
 ⟨(some 18), .bin .gtr (.t 17) (.c (.val (.int .i64 50))), (some (15, false)), []⟩,
 ⟨(some 19), .pick (.t 15) (.c (.val (.bool true))) (.t 18), none, []⟩,
 ⟨(some 20), .mv (.t 19), none, []⟩,
 ⟨(some 21), .mv (.t 2), (some (20, false)), []⟩,
 ⟨(some 22), .call (.f 10) [(.t 21)], (some (20, false)), []⟩,
 ⟨(some 23), .not (.t 22), (some (20, false)), []⟩,
 ⟨(some 24), .pick (.t 20) (.c (.val (.bool true))) (.t 23), none, []⟩,
 ⟨(some 25), .mv (.t 24), none, []⟩,
 ⟨(some 26), .mv (.t 3), (some (25, false)), []⟩,
 ⟨(some 27), .call (.f 10) [(.t 26)], (some (25, false)), []⟩,
 ⟨(some 28), .not (.t 27), (some (25, false)), []⟩,
 ⟨(some 29), .pick (.t 25) (.c (.val (.bool true))) (.t 28), none, []⟩])
 (.cond (.t 29) (.seq (.reg [⟨(some 8), .mv (.c (.val (.bool true))), none, []⟩])
 .ret)
 .skip))
 (.seq (.seq (.reg [⟨(some 9), .mv (.c (.val (.int .i64 0))), none, []⟩])
 (.block 0 (.loop (.seq (.seq (.reg [⟨(some 30), .mv (.t 9), none, []⟩,
 ⟨(some 31), .mv (.t 1), none, []⟩,
 ⟨(some 32), .len (.t 31), none, []⟩,
 ⟨(some 33), .bin .lss (.t 30) (.t 32), none, []⟩])
 (.cond (.t 33) .skip
 (.exit 0)))
 (.seq (.block 1 (.seq (.reg [⟨(some 36), .mv (.t 1), none, []⟩,
 ⟨(some 37), .mv (.t 9), none, []⟩,
 ⟨(some 38), .ixa 1 (.t 36) (.t 37), none, []⟩,
 ⟨(some 39), .ld1 (.t 38), none, []⟩,
 ⟨(some 40), .call (.f 10) [(.t 39)], none, []⟩,
 ⟨(some 41), .not (.t 40), none, []⟩])
 (.cond (.t 41) (.seq (.reg [⟨(some 8), .mv (.c (.val (.bool true))), none, []⟩])
 .ret)
 .skip)))
 (.reg [⟨(some 34), .mv (.t 9), none, []⟩,
 ⟨(some 35), .bin .add (.t 34) (.c (.val (.int .i64 1))), none, []⟩,
 ⟨(some 9), .mv (.t 35), none, []⟩]))))))
 (.seq (.reg [⟨(some 42), .mv (.t 0), none, []⟩,
 ⟨(some 43), .mv (.t 1), none, []⟩,
 ⟨(some 44), .mv (.t 2), none, []⟩,
 ⟨(some 45), .mv (.t 3), none, []⟩,
 ⟨(some 46), .call (.f 11) [(.t 42), (.t 43), (.t 44), (.t 45)], none, []⟩,
 ⟨(some 47), .mv (.t 0), none, []⟩,
 ⟨(some 48), .mv (.t 1), none, []⟩,
 ⟨(some 49), .mv (.t 2), none, []⟩,
 ⟨(some 50), .mv (.t 3), none, []⟩,
 ⟨(some 51), .call (.f 12) [(.t 47), (.t 48), (.t 49), (.t 50)], none, []⟩,
 ⟨(some 52), .bin .eql (.t 46) (.t 51), none, []⟩,
 ⟨(some 8), .mv (.t 52), none, []⟩])
 .ret))))),
[(.t 8)])
theorem irOk3 : convFn Try.prog Try.f3 = some ir3 := by kernel_rfl
/-- dunnagelaw20.FactsNext -/
def ir7 : Nat × C × List RV := (51,
(.seq (.reg [⟨(some 4), .box 29 (.t 0), none, []⟩,
 ⟨(some 5), .box 33 (.t 1), none, []⟩,
 ⟨(some 8), .mv (.c (.val (.bool false))), none, []⟩])
 (.seq (.seq (.reg [⟨(some 13), .call (.f 9) [], none, []⟩,
 ⟨(some 14), .not (.t 13), none, []⟩])
 (.cond (.t 14) (.seq (.reg [⟨(some 8), .mv (.c (.val (.bool false))), none, []⟩])
 .ret)
 .skip))
 (.seq (.seq (.reg [⟨(some 15), .ldn 9 (.t 4), none, []⟩,
 ⟨(some 16), .ldn 6 (.t 5), none, []⟩,
 ⟨(some 17), .call (.f 14) [(.t 15), (.t 16)], none, []⟩,
 ⟨(some 18), .not (.t 17), none, []⟩,
 ⟨(some 19), .mv (.t 18), none, []⟩,
 ⟨(some 20), .mv (.t 3), (some (19, false)), []⟩,
 ⟨(some 21), .call (.f 10) [(.t 20)], (some (19, false)), []⟩,
 ⟨(some 22), .not (.t 21), (some (19, false)), []⟩,
 ⟨(some 23), .pick (.t 19) (.c (.val (.bool true))) (.t 22), none, []⟩,
 ⟨(some 24), .mv (.t 23), none, []⟩,
 ⟨(some 25), .mv (.t 2), (some (24, false)), []⟩,
 ⟨(some 26), .len (.t 25), (some (24, false)), []⟩,
 ⟨(some 27), .bin .gtr (.t 26) (.c (.val (.int .i64 50))), (some (24, false)), []⟩,
 ⟨(some 28), .pick (.t 24) (.c (.val (.bool true))) (.t 27), none, []⟩])
 (.cond (.t 28) (.seq (.reg [⟨(some 8), .mv (.c (.val (.bool true))), none, []⟩])
 .ret)
 .skip))
 (.seq (.reg [⟨(some 30), .ldn 6 (.t 5), none, []⟩,
 ⟨(some 31), .mv (.t 2), none, []⟩,
 ⟨(some 32), .mv (.t 3), none, []⟩,
 ⟨(some 33), .call (.f 29) [(.t 30), (.t 31), (.t 32)], none, []⟩,
 ⟨(some 29), .mv (.t 33), none, []⟩,
 ⟨(some 34), .ext (.t 29) 0, none, []⟩,
 ⟨(some 35), .ext (.t 29) 1, none, []⟩,
 ⟨(some 9), .new 42 [(.val (.int .i64 0)), (.val (.int .i64 0)), (.val (.int .i64 0)), (.val (.int .i64 0)), (.val (.int .i64 0)), (.val (.int .i64 0)), (.val (.int .i64 0))], none, []⟩,
 ⟨none, .st 7 (.t 9) (.t 34), none, []⟩,
 ⟨(some 10), .mv (.t 35), none, []⟩])
 (.seq (.reg [⟨(some 37), .ldn 6 (.t 5), none, []⟩,
 ⟨(some 38), .mv (.t 2), none, []⟩,
 ⟨(some 39), .mv (.t 3), none, []⟩,
 ⟨(some 40), .call (.f 30) [(.t 37), (.t 38), (.t 39)], none, []⟩,
 ⟨(some 36), .mv (.t 40), none, []⟩,
 ⟨(some 41), .ext (.t 36) 0, none, []⟩,
 ⟨(some 42), .ext (.t 36) 1, none, []⟩,
 ⟨(some 11), .new 42 [(.val (.int .i64 0)), (.val (.int .i64 0)), (.val (.int .i64 0)), (.val (.int .i64 0)), (.val (.int .i64 0)), (.val (.int .i64 0)), (.val (.int .i64 0))], none, []⟩,
 ⟨none, .st 7 (.t 11) (.t 41), none, []⟩,
 ⟨(some 12), .mv (.t 42), none, []⟩])
 (.seq (.reg [⟨(some 43), .ldn 7 (.t 9), none, []⟩,
 ⟨(some 44), .ldn 7 (.t 11), none, []⟩,
 ⟨(some 45), .eqs false [0, 0, 0, 0, 0, 0, 0] (.t 43) (.t 44), none, []⟩,
 ⟨(some 46), .mv (.t 45), none, []⟩,
 ⟨(some 47), .mv (.t 10), (some (46, true)), []⟩,
 ⟨(some 48), .mv (.t 12), (some (46, true)), []⟩,
 ⟨(some 49), .eqb false (.t 47) (.t 48), (some (46, true)), []⟩,
 ⟨(some 50), .pick (.t 46) (.t 49) (.c (.val (.bool false))), none, []⟩,
 ⟨(some 8), .mv (.t 50), none, []⟩])
 .ret)))))),
[(.t 8)])
theorem irOk7 : convFn Try.prog Try.f7 = some ir7 := by kernel_rfl
/-- dunnagelaw20.FactsNone -/
def ir8 : Nat × C × List RV := (109,
(.seq (.reg [⟨(some 4), .box 29 (.t 0), none, []⟩,
 ⟨(some 5), .box 33 (.t 1), none, []⟩,
 ⟨(some 8), .mv (.c (.val (.bool false))), none, []⟩])
 (.seq (.seq (.reg [⟨(some 15), .call (.f 9) [], none, []⟩,
 ⟨(some 16), .not (.t 15), none, []⟩])
 (.cond (.t 16) (.seq (.reg [⟨(some 8), .mv (.c (.val (.bool false))), none, []⟩])
 .ret)
 .skip))
 (.seq (.seq (.reg [⟨(some 17), .ldn 9 (.t 4), none, []⟩,
 ⟨(some 18), .ldn 6 (.t 5), none, []⟩,
 ⟨(some 19), .call (.f 14) [(.t 17), (.t 18)], none, []⟩,
 ⟨(some 20), .not (.t 19), none, []⟩,
 ⟨(some 21), .mv (.t 20), none, []⟩,
 ⟨(some 22), .mv (.t 3), (some (21, false)), []⟩,
 ⟨(some 23), .call (.f 10) [(.t 22)], (some (21, false)), []⟩,
 ⟨(some 24), .not (.t 23), (some (21, false)), []⟩,
 ⟨(some 25), .pick (.t 21) (.c (.val (.bool true))) (.t 24), none, []⟩,
 ⟨(some 26), .mv (.t 25), none, []⟩,
 ⟨(some 27), .mv (.t 2), (some (26, false)), []⟩,
 ⟨(some 28), .len (.t 27), (some (26, false)), []⟩,
 ⟨(some 29), .bin .gtr (.t 28) (.c (.val (.int .i64 50))), (some (26, false)), []⟩,
 ⟨(some 30), .pick (.t 26) (.c (.val (.bool true))) (.t 29), none, []⟩])
 (.cond (.t 30) (.seq (.reg [⟨(some 8), .mv (.c (.val (.bool true))), none, []⟩])
 .ret)
 .skip))
 (.seq (.reg [⟨(some 32), .ldn 6 (.t 5), none, []⟩,
 ⟨(some 33), .mv (.t 3), none, []⟩,
 ⟨(some 34), .call (.f 29) [(.t 32), (.c (.val (.slice none 0 0))), (.t 33)], none, []⟩,
 ⟨(some 31), .mv (.t 34), none, []⟩,
 ⟨(some 35), .ext (.t 31) 0, none, []⟩,
 ⟨(some 36), .ext (.t 31) 1, none, []⟩,
 ⟨(some 9), .new 42 [(.val (.int .i64 0)), (.val (.int .i64 0)), (.val (.int .i64 0)), (.val (.int .i64 0)), (.val (.int .i64 0)), (.val (.int .i64 0)), (.val (.int .i64 0))], none, []⟩,
 ⟨none, .st 7 (.t 9) (.t 35), none, []⟩,
 ⟨(some 10), .mv (.t 36), none, []⟩])
 (.seq (.seq (.reg [⟨(some 37), .mv (.t 10), none, []⟩])
 (.cond (.t 37) (.seq (.reg [⟨(some 8), .mv (.c (.val (.bool false))), none, []⟩])
 .ret)
 .skip))
 (.seq (.seq (.reg [⟨(some 11), .mv (.c (.val (.int .i64 1))), none, []⟩])
 (.block 0 (.loop (.seq (.seq (.reg [⟨(some 38), .mv (.t 11), none, []⟩,
 ⟨(some 39), .fad 1 (.t 5), none, []⟩,
 ⟨(some 40), .ld1 (.t 39), none, []⟩,
 ⟨(some 41), .len (.t 40), none, []⟩,
 ⟨(some 42), .bin .leq (.t 38) (.t 41), none, []⟩])
 (.cond (.t 42) .skip
 (.exit 0)))
 (.seq (.block 1 (.seq (.reg [⟨(some 46), .ldn 6 (.t 5), none, []⟩,
 ⟨(some 47), .mv (.t 2), none, []⟩,
 ⟨(some 48), .mv (.t 11), none, []⟩,
 ⟨(some 49), .call (.f 31) [(.t 46), (.t 47), (.t 48)], none, []⟩,
 ⟨(some 45), .mv (.t 49), none, []⟩,
 ⟨(some 50), .ext (.t 45) 0, none, []⟩,
 ⟨(some 51), .ext (.t 45) 1, none, []⟩,
 ⟨(some 12), .new 42 [(.val (.int .i64 0)), (.val (.int .i64 0)), (.val (.int .i64 0)), (.val (.int .i64 0)), (.val (.int .i64 0)), (.val (.int .i64 0)), (.val (.int .i64 0))], none, []⟩,
 ⟨none, .st 7 (.t 12) (.t 50), none, []⟩,
 ⟨(some 13), .mv (.t 51), none, []⟩])
 (.seq (.reg [⟨(some 14), .mv (.c (.val (.int .i64 0))), none, []⟩])
 (.block 2 (.loop (.seq (.seq (.reg [⟨(some 52), .mv (.t 14), none, []⟩,
 ⟨(some 53), .bin .lss (.t 52) (.c (.val (.int .i64 6))), none, []⟩,
 ⟨(some 54), .mv (.t 53), none, []⟩,
 ⟨(some 55), .mv (.t 13), (some (54, true)), []⟩,
 ⟨(some 56), .pick (.t 54) (.t 55) (.c (.val (.bool false))), none, []⟩])
 (.cond (.t 56) .skip
 (.exit 2)))
 (.seq (.block 3 (.seq (.regD [⟨(some 59), .fad 1 (.t 5), none, []⟩,
 ⟨(some 60), .ld1 (.t 59), none, [0]⟩,
 ⟨(some 61), .mv (.t 11), none, []⟩,
 ⟨(some 62), .bin .sub (.t 61) (.c (.val (.int .i64 1))), none, [2]⟩,
 ⟨(some 63), .ixa 12 (.t 60) (.t 62), none, [1, 0, 3, 2]⟩,
 ⟨(some 64), .fad 8 (.t 63), none, [4, 1, 0, 3, 2]⟩,
 ⟨(some 65), .ld1 (.t 64), none, [5, 4, 1, 0, 3, 2]⟩,
 ⟨(some 66), .mv (.t 14), none, []⟩,
 ⟨(some 67), .cvt .u64 (.t 66), none, [7]⟩,
 ⟨(some 68), .bin .shr (.t 65) (.t 67), none, [6, 5, 4, 1, 0, 3, 2, 8, 7]⟩,
 ⟨(some 69), .bin .and (.t 68) (.c (.val (.int .i64 1))), none, [9, 6, 5, 4, 1, 0, 3, 2, 8, 7]⟩,
 ⟨(some 70), .bin .eql (.t 69) (.c (.val (.int .i64 1))), none, [10, 9, 6, 5, 4, 1, 0, 3, 2, 8, 7]⟩,
 ⟨(some 71), .mv (.t 70), none, [11, 10, 9, 6, 5, 4, 1, 0, 3, 2, 8, 7]⟩,
 ⟨(some 72), .mv (.t 14), (some (71, true)), [12, 11, 10, 9, 6, 5, 4, 1, 0, 3, 2, 8, 7]⟩,
 ⟨(some 73), .mv (.t 2), (some (71, true)), [12, 11, 10, 9, 6, 5, 4, 1, 0, 3, 2, 8, 7]⟩,
 ⟨(some 74), .len (.t 73), (some (71, true)), [14, 12, 11, 10, 9, 6, 5, 4, 1, 0, 3, 2, 8, 7]⟩,
 ⟨(some 75), .bin .geq (.t 72) (.t 74), (some (71, true)), [13, 12, 11, 10, 9, 6, 5, 4, 1, 0, 3, 2, 8, 7, 15, 14]⟩,
 ⟨(some 76), .mv (.t 75), (some (71, true)), [16, 13, 12, 11, 10, 9, 6, 5, 4, 1, 0, 3, 2, 8, 7, 15, 14]⟩,
 ⟨(some 77), .mv (.t 2), (some (76, false)), [17, 16, 13, 12, 11, 10, 9, 6, 5, 4, 1, 0, 3, 2, 8, 7, 15, 14]⟩,
 ⟨(some 78), .mv (.t 14), (some (76, false)), [17, 16, 13, 12, 11, 10, 9, 6, 5, 4, 1, 0, 3, 2, 8, 7, 15, 14]⟩,
 ⟨(some 79), .ixa 11 (.t 77) (.t 78), (some (76, false)), [18, 17, 16, 13, 12, 11, 10, 9, 6, 5, 4, 1, 0, 3, 2, 8, 7, 15, 14, 19]⟩,
 ⟨(some 80), .fad 1 (.t 79), (some (76, false)), [20, 18, 17, 16, 13, 12, 11, 10, 9, 6, 5, 4, 1, 0, 3, 2, 8, 7, 15, 14, 19]⟩,
 ⟨(some 81), .ld1 (.t 80), (some (76, false)), [21, 20, 18, 17, 16, 13, 12, 11, 10, 9, 6, 5, 4, 1, 0, 3, 2, 8, 7, 15, 14, 19]⟩,
 ⟨(some 82), .bin .neq (.t 81) (.c (.val (.int .i64 6))), (some (76, false)), [22, 21, 20, 18, 17, 16, 13, 12, 11, 10, 9, 6, 5, 4, 1, 0, 3, 2, 8, 7, 15, 14, 19]⟩,
 ⟨(some 83), .pick (.t 76) (.c (.val (.bool true))) (.t 82), (some (71, true)), [17, 16, 13, 12, 11, 10, 9, 6, 5, 4, 1, 0, 3, 2, 8, 7, 15, 14, 23, 22, 21, 20, 18, 19]⟩,
 ⟨(some 84), .mv (.t 83), (some (71, true)), [24, 17, 16, 13, 12, 11, 10, 9, 6, 5, 4, 1, 0, 3, 2, 8, 7, 15, 14, 23, 22, 21, 20, 18, 19]⟩,
 ⟨(some 85), .mv (.t 2), (some (84, false)), [25, 24, 17, 16, 13, 12, 11, 10, 9, 6, 5, 4, 1, 0, 3, 2, 8, 7, 15, 14, 23, 22, 21, 20, 18, 19]⟩,
 ⟨(some 86), .mv (.t 14), (some (84, false)), [25, 24, 17, 16, 13, 12, 11, 10, 9, 6, 5, 4, 1, 0, 3, 2, 8, 7, 15, 14, 23, 22, 21, 20, 18, 19]⟩,
 ⟨(some 87), .ixa 11 (.t 85) (.t 86), (some (84, false)), [26, 25, 24, 17, 16, 13, 12, 11, 10, 9, 6, 5, 4, 1, 0, 3, 2, 8, 7, 15, 14, 23, 22, 21, 20, 18, 19, 27]⟩,
 ⟨(some 88), .fad 4 (.t 87), (some (84, false)), [28, 26, 25, 24, 17, 16, 13, 12, 11, 10, 9, 6, 5, 4, 1, 0, 3, 2, 8, 7, 15, 14, 23, 22, 21, 20, 18, 19, 27]⟩,
 ⟨(some 89), .ld1 (.t 88), (some (84, false)), [29, 28, 26, 25, 24, 17, 16, 13, 12, 11, 10, 9, 6, 5, 4, 1, 0, 3, 2, 8, 7, 15, 14, 23, 22, 21, 20, 18, 19, 27]⟩,
 ⟨(some 90), .mv (.t 11), (some (84, false)), [25, 24, 17, 16, 13, 12, 11, 10, 9, 6, 5, 4, 1, 0, 3, 2, 8, 7, 15, 14, 23, 22, 21, 20, 18, 19]⟩,
 ⟨(some 91), .bin .neq (.t 89) (.t 90), (some (84, false)), [30, 29, 28, 26, 25, 24, 17, 16, 13, 12, 11, 10, 9, 6, 5, 4, 1, 0, 3, 2, 8, 7, 15, 14, 23, 22, 21, 20, 18, 19, 27, 31]⟩,
 ⟨(some 92), .pick (.t 84) (.c (.val (.bool true))) (.t 91), (some (71, true)), [25, 24, 17, 16, 13, 12, 11, 10, 9, 6, 5, 4, 1, 0, 3, 2, 8, 7, 15, 14, 23, 22, 21, 20, 18, 19, 32, 30, 29, 28, 26, 27, 31]⟩,
 ⟨(some 93), .mv (.t 92), (some (71, true)), [33, 25, 24, 17, 16, 13, 12, 11, 10, 9, 6, 5, 4, 1, 0, 3, 2, 8, 7, 15, 14, 23, 22, 21, 20, 18, 19, 32, 30, 29, 28, 26, 27, 31]⟩,
 ⟨(some 94), .mv (.t 2), (some (93, false)), [34, 33, 25, 24, 17, 16, 13, 12, 11, 10, 9, 6, 5, 4, 1, 0, 3, 2, 8, 7, 15, 14, 23, 22, 21, 20, 18, 19, 32, 30, 29, 28, 26, 27, 31]⟩,
 ⟨(some 95), .mv (.t 14), (some (93, false)), [34, 33, 25, 24, 17, 16, 13, 12, 11, 10, 9, 6, 5, 4, 1, 0, 3, 2, 8, 7, 15, 14, 23, 22, 21, 20, 18, 19, 32, 30, 29, 28, 26, 27, 31]⟩,
 ⟨(some 96), .ixa 11 (.t 94) (.t 95), (some (93, false)), [35, 34, 33, 25, 24, 17, 16, 13, 12, 11, 10, 9, 6, 5, 4, 1, 0, 3, 2, 8, 7, 15, 14, 23, 22, 21, 20, 18, 19, 32, 30, 29, 28, 26, 27, 31, 36]⟩,
 ⟨(some 97), .fad 5 (.t 96), (some (93, false)), [37, 35, 34, 33, 25, 24, 17, 16, 13, 12, 11, 10, 9, 6, 5, 4, 1, 0, 3, 2, 8, 7, 15, 14, 23, 22, 21, 20, 18, 19, 32, 30, 29, 28, 26, 27, 31, 36]⟩,
 ⟨(some 98), .ld1 (.t 97), (some (93, false)), [38, 37, 35, 34, 33, 25, 24, 17, 16, 13, 12, 11, 10, 9, 6, 5, 4, 1, 0, 3, 2, 8, 7, 15, 14, 23, 22, 21, 20, 18, 19, 32, 30, 29, 28, 26, 27, 31, 36]⟩,
 ⟨(some 99), .fad 1 (.t 5), (some (93, false)), [34, 33, 25, 24, 17, 16, 13, 12, 11, 10, 9, 6, 5, 4, 1, 0, 3, 2, 8, 7, 15, 14, 23, 22, 21, 20, 18, 19, 32, 30, 29, 28, 26, 27, 31]⟩,
 ⟨(some 100), .ld1 (.t 99), (some (93, false)), [40, 34, 33, 25, 24, 17, 16, 13, 12, 11, 10, 9, 6, 5, 4, 1, 0, 3, 2, 8, 7, 15, 14, 23, 22, 21, 20, 18, 19, 32, 30, 29, 28, 26, 27, 31]⟩,
 ⟨(some 101), .mv (.t 11), (some (93, false)), [34, 33, 25, 24, 17, 16, 13, 12, 11, 10, 9, 6, 5, 4, 1, 0, 3, 2, 8, 7, 15, 14, 23, 22, 21, 20, 18, 19, 32, 30, 29, 28, 26, 27, 31]⟩,
 ⟨(some 102), .bin .sub (.t 101) (.c (.val (.int .i64 1))), (some (93, false)), [42, 34, 33, 25, 24, 17, 16, 13, 12, 11, 10, 9, 6, 5, 4, 1, 0, 3, 2, 8, 7, 15, 14, 23, 22, 21, 20, 18, 19, 32, 30, 29, 28, 26, 27, 31]⟩,
 ⟨(some 103), .ixa 12 (.t 100) (.t 102), (some (93, false)), [41, 40, 34, 33, 25, 24, 17, 16, 13, 12, 11, 10, 9, 6, 5, 4, 1, 0, 3, 2, 8, 7, 15, 14, 23, 22, 21, 20, 18, 19, 32, 30, 29, 28, 26, 27, 31, 43, 42]⟩,
 ⟨(some 104), .fad 7 (.t 103), (some (93, false)), [44, 41, 40, 34, 33, 25, 24, 17, 16, 13, 12, 11, 10, 9, 6, 5, 4, 1, 0, 3, 2, 8, 7, 15, 14, 23, 22, 21, 20, 18, 19, 32, 30, 29, 28, 26, 27, 31, 43, 42]⟩,
 ⟨(some 105), .ld1 (.t 104), (some (93, false)), [45, 44, 41, 40, 34, 33, 25, 24, 17, 16, 13, 12, 11, 10, 9, 6, 5, 4, 1, 0, 3, 2, 8, 7, 15, 14, 23, 22, 21, 20, 18, 19, 32, 30, 29, 28, 26, 27, 31, 43, 42]⟩,
 ⟨(some 106), .bin .neq (.t 98) (.t 105), (some (93, false)), [39, 38, 37, 35, 34, 33, 25, 24, 17, 16, 13, 12, 11, 10, 9, 6, 5, 4, 1, 0, 3, 2, 8, 7, 15, 14, 23, 22, 21, 20, 18, 19, 32, 30, 29, 28, 26, 27, 31, 36, 46, 45, 44, 41, 40, 43, 42]⟩,
 ⟨(some 107), .pick (.t 93) (.c (.val (.bool true))) (.t 106), (some (71, true)), [34, 33, 25, 24, 17, 16, 13, 12, 11, 10, 9, 6, 5, 4, 1, 0, 3, 2, 8, 7, 15, 14, 23, 22, 21, 20, 18, 19, 32, 30, 29, 28, 26, 27, 31, 47, 39, 38, 37, 35, 36, 46, 45, 44, 41, 40, 43, 42]⟩,
 ⟨(some 108), .pick (.t 71) (.t 107) (.c (.val (.bool false))), none, [12, 11, 10, 9, 6, 5, 4, 1, 0, 3, 2, 8, 7, 48, 34, 33, 25, 24, 17, 16, 13, 15, 14, 23, 22, 21, 20, 18, 19, 32, 30, 29, 28, 26, 27, 31, 47, 39, 38, 37, 35, 36, 46, 45, 44, 41, 40, 43, 42]⟩])
 (.cond (.t 108) (.seq (.reg [⟨(some 8), .mv (.c (.val (.bool false))), none, []⟩])
 .ret)
 .skip)))
 (.reg [⟨(some 57), .mv (.t 14), none, []⟩,
 ⟨(some 58), .bin .add (.t 57) (.c (.val (.int .i64 1))), none, []⟩,
 ⟨(some 14), .mv (.t 58), none, []⟩]))))))))
 (.reg [⟨(some 43), .mv (.t 11), none, []⟩,
 ⟨(some 44), .bin .add (.t 43) (.c (.val (.int .i64 1))), none, []⟩,
 ⟨(some 11), .mv (.t 44), none, []⟩]))))))
 (.seq (.reg [⟨(some 8), .mv (.c (.val (.bool true))), none, []⟩])
 .ret))))))),
[(.t 8)])
theorem irOk8 : convFn Try.prog Try.f8 = some ir8 := by kernel_rfl


def silS9 (up : List Bool) (hs : List Int) (lease now : Int) (k : Nat) : St := ⟨[(0, .d (.lst 1 (up.map fun b => [bl b]))), (1, .d (.lst 1 (hs.map fun h => [i64 h]))), (2, .int lease), (3, .int now), (9, .int k)], []⟩
theorem silent9_tri (up : List Bool) (hs : List Int) (lease now : Int) (hu : up.length ≤ 50) (hh : hs.length ≤ 50) (hl : 0 ≤ lease ∧ lease ≤ 1000000) (hT : ∀ h ∈ hs, 0 ≤ h ∧ h ≤ 1000000) :
    Tri Try.prog G 12 [.d (.lst 1 (up.map fun b => [bl b])), .d (.lst 1 (hs.map fun h => [i64 h])), .int lease, .int now] [] (.int (silentL lease now up hs 0)) [] := by
  refine tri_W0 Try.func12 (by decide) irOk12 (Nat.le_of_ble_eq_true rfl) rfl ?_
  simp only [ir12, go_sem, ↓reduceIte, zA, zB, zC, zD, zE, zF, reduceCtorEq, zG, zH, zI, zJ, zK, zL, zM, zN, zO, zP]
  generalize hr : silentL lease now up hs 0 = r
  refine W_loopI [0, 1, 2, 3, 9] [] (fun k : Nat => k ≤ up.length ∧ silentL lease now (up.drop k) (hs.drop k) k = r) (fun k => up.length - k) (silS9 up hs lease now) 0 ?_ ⟨Nat.zero_le _, hr⟩ ?_
  · simp only [silS9, go_sem, ↓reduceIte, zA, zB, zC, zD, zE, zF, reduceCtorEq, zG, zH, zI, zJ, zK, zL, zM, zN, zO, zP, Int.natCast_zero]
  rintro k ⟨hk, hF⟩
  have key : (k < up.length ∧ k < hs.length) ∨ ¬ (k < up.length ∧ k < hs.length) := Classical.em _
  rcases key with ⟨hk1, hk2⟩ | hx
  · have hlt : decide ((k : Int) < (up.length : Int)) = true := decide_eq_true (by omega)
    have hlr : decide ((k : Int) < (hs.length : Int)) = true := decide_eq_true (by omega)
    rw [List.drop_eq_getElem_cons hk1, List.drop_eq_getElem_cons hk2, silentL] at hF
    have hg1 := get_map (f := fun b : Bool => [bl b]) hk1
    have hg2 := get_map (f := fun h : Int => [i64 h]) hk2
    have hb := hT hs[k] (List.getElem_mem hk2)
    generalize up[k] = u at *
    generalize hs[k] = x at *
    have hw : IntKind.i64.wrap (x + lease) = x + lease := wrap_in (by omega) (by omega)
    simp only [silS9, hlt, hlr, hg1, hg2, go_sem, ↓reduceIte, zA, zB, zC, zD, zE, zF, reduceCtorEq, zG, zH, zI, zJ, zK, zL, zM, zN, zO, zP]
    cases u with
    | false =>
      simp only [Bool.false_eq_true, false_and, if_false] at hF
      simp only [go_sem, ↓reduceIte, zA, zB, zC, zD, zE, zF, reduceCtorEq, zG, zH, zI, zJ, zK, zL, zM, zN, zO, zP]
      refine W_lpI (k + 1) ?_ ?_ ⟨hk1, by rw [Int.natCast_add]; exact hF⟩ (by omega)
      · simp only [go_sem, ↓reduceIte, zA, zB, zC, zD, zE, zF, reduceCtorEq, zG, zH, zI, zJ, zK, zL, zM, zN, zO, zP]
      · simp only [silS9, go_sem, ↓reduceIte, zA, zB, zC, zD, zE, zF, reduceCtorEq, zG, zH, zI, zJ, zK, zL, zM, zN, zO, zP, wrap_succ (show k < 9223372036854775807 by omega)]
    | true =>
      simp only [hw, hg2, go_sem, ↓reduceIte, zA, zB, zC, zD, zE, zF, reduceCtorEq, zG, zH, zI, zJ, zK, zL, zM, zN, zO, zP]
      cases h5 : decide (x + lease ≤ now) with
      | true =>
        have h5' : x + lease ≤ now := of_decide_eq_true h5
        rw [if_pos ⟨rfl, h5'⟩] at hF
        simp only [go_sem, ↓reduceIte, zA, zB, zC, zD, zE, zF, reduceCtorEq, zG, zH, zI, zJ, zK, zL, zM, zN, zO, zP, ← hF]
      | false =>
        have h5' : ¬ x + lease ≤ now := of_decide_eq_false h5
        rw [if_neg (fun h => h5' h.2)] at hF
        simp only [go_sem, ↓reduceIte, zA, zB, zC, zD, zE, zF, reduceCtorEq, zG, zH, zI, zJ, zK, zL, zM, zN, zO, zP]
        refine W_lpI (k + 1) ?_ ?_ ⟨hk1, by rw [Int.natCast_add]; exact hF⟩ (by omega)
        · simp only [go_sem, ↓reduceIte, zA, zB, zC, zD, zE, zF, reduceCtorEq, zG, zH, zI, zJ, zK, zL, zM, zN, zO, zP]
        · simp only [silS9, go_sem, ↓reduceIte, zA, zB, zC, zD, zE, zF, reduceCtorEq, zG, zH, zI, zJ, zK, zL, zM, zN, zO, zP, wrap_succ (show k < 9223372036854775807 by omega)]
  have : silentL lease now (up.drop k) (hs.drop k) k = -1 := by
    rcases (by omega : up.length ≤ k ∨ hs.length ≤ k) with h | h
    · rw [List.drop_eq_nil_of_le h]; rfl
    · rw [List.drop_eq_nil_of_le h]; cases List.drop k up <;> rfl
  rw [this] at hF
  have key : decide ((k : Int) < (up.length : Int)) = false ∨ (decide ((k : Int) < (up.length : Int)) = true ∧ decide ((k : Int) < (hs.length : Int)) = false) := by
    by_cases h : k < up.length
    · exact .inr ⟨decide_eq_true (by omega), decide_eq_false (by omega)⟩
    · exact .inl (decide_eq_false (by omega))
  rcases key with key | key <;> simp only [silS9, key, go_sem, ↓reduceIte, zA, zB, zC, zD, zE, zF, reduceCtorEq, zG, zH, zI, zJ, zK, zL, zM, zN, zO, zP, ← hF]

def heardS (up : List Bool) (hs : List Int) (lease now : Int) (k : Nat) : St := ⟨[(0, .d (.lst 1 (up.map fun b => [bl b]))), (1, .d (.lst 1 (hs.map fun h => [i64 h]))), (2, .int lease), (3, .int now), (9, .int k)], []⟩
theorem factsSilent_tri (up : List Bool) (hs : List Int) (lease now : Int) : Tri Try.prog G 3 [.d (.lst 1 (up.map fun b => [bl b])), .d (.lst 1 (hs.map fun h => [i64 h])), .int lease, .int now] [] (.bool true) [] := by
  refine tri_W0 Try.func3 (by decide) irOk3 (Nat.le_of_ble_eq_true rfl) rfl ?_
  simp only [ir3, go_sem, ↓reduceIte, zA, zB, zC, zD, zE, zF, reduceCtorEq, zG, zH, zI, zJ, zK, zL, zM, zN, zO, zP]
  refine W_calld (alive20_tri) rfl rfl rfl rfl ?_; simp only [go_sem, ↓reduceIte, zA, zB, zC, zD, zE, zF, reduceCtorEq, zG, zH, zI, zJ, zK, zL, zM, zN, zO, zP]
  cases h1 : decide ((up.length : Int) > 50) with
  | true => simp only [go_sem, ↓reduceIte, zA, zB, zC, zD, zE, zF, reduceCtorEq, zG, zH, zI, zJ, zK, zL, zM, zN, zO, zP]
  | false =>
  have h1' := of_decide_eq_false h1
  simp only [go_sem, ↓reduceIte, zA, zB, zC, zD, zE, zF, reduceCtorEq, zG, zH, zI, zJ, zK, zL, zM, zN, zO, zP]
  cases h2 : decide ((hs.length : Int) > 50) with
  | true => simp only [go_sem, ↓reduceIte, zA, zB, zC, zD, zE, zF, reduceCtorEq, zG, zH, zI, zJ, zK, zL, zM, zN, zO, zP]
  | false =>
  have h2' := of_decide_eq_false h2
  simp only [go_sem, ↓reduceIte, zA, zB, zC, zD, zE, zF, reduceCtorEq, zG, zH, zI, zJ, zK, zL, zM, zN, zO, zP]
  refine W_calld (time20_tri lease) rfl rfl rfl rfl ?_; simp only [go_sem, ↓reduceIte, zA, zB, zC, zD, zE, zF, reduceCtorEq, zG, zH, zI, zJ, zK, zL, zM, zN, zO, zP]
  cases h3 : withinB lease 0 1000000 with
  | false => simp only [go_sem, ↓reduceIte, zA, zB, zC, zD, zE, zF, reduceCtorEq, zG, zH, zI, zJ, zK, zL, zM, zN, zO, zP]
  | true =>
  have h3' : 0 ≤ lease ∧ lease ≤ 1000000 := of_decide_eq_true h3
  simp only [go_sem, ↓reduceIte, zA, zB, zC, zD, zE, zF, reduceCtorEq, zG, zH, zI, zJ, zK, zL, zM, zN, zO, zP]
  refine W_calld (time20_tri now) rfl rfl rfl rfl ?_; simp only [go_sem, ↓reduceIte, zA, zB, zC, zD, zE, zF, reduceCtorEq, zG, zH, zI, zJ, zK, zL, zM, zN, zO, zP]
  cases h4 : withinB now 0 1000000 with
  | false => simp only [go_sem, ↓reduceIte, zA, zB, zC, zD, zE, zF, reduceCtorEq, zG, zH, zI, zJ, zK, zL, zM, zN, zO, zP]
  | true =>
  simp only [go_sem, ↓reduceIte, zA, zB, zC, zD, zE, zF, reduceCtorEq, zG, zH, zI, zJ, zK, zL, zM, zN, zO, zP]
  refine W_loopI [0, 1, 2, 3, 9] [] (fun k : Nat => k ≤ hs.length ∧ ∀ h ∈ hs.take k, 0 ≤ h ∧ h ≤ 1000000) (fun k => hs.length - k) (heardS up hs lease now) 0 ?_ ⟨Nat.zero_le _, fun h hm => by simp at hm⟩ ?_
  · simp only [heardS, go_sem, ↓reduceIte, zA, zB, zC, zD, zE, zF, reduceCtorEq, zG, zH, zI, zJ, zK, zL, zM, zN, zO, zP, Int.natCast_zero]
  rintro k ⟨hk, hF⟩
  simp only [heardS, go_sem, ↓reduceIte, zA, zB, zC, zD, zE, zF, reduceCtorEq, zG, zH, zI, zJ, zK, zL, zM, zN, zO, zP]
  refine WC_split (fun h => ?_) (fun h => ?_)
  · have h := lt_of_dec h
    have hg2 := get_map (f := fun h : Int => [i64 h]) h
    have hs2 : hs.take (k + 1) = hs.take k ++ [hs[k]] := by rw [List.take_succ_eq_append_getElem h]
    generalize hs[k] = x at *
    simp only [hg2, go_sem, ↓reduceIte, zA, zB, zC, zD, zE, zF, reduceCtorEq, zG, zH, zI, zJ, zK, zL, zM, zN, zO, zP]
    refine W_calld (time20_tri x) rfl rfl rfl rfl ?_; simp only [go_sem, ↓reduceIte, zA, zB, zC, zD, zE, zF, reduceCtorEq, zG, zH, zI, zJ, zK, zL, zM, zN, zO, zP]
    cases h5 : withinB x 0 1000000 with
    | false => simp only [go_sem, ↓reduceIte, zA, zB, zC, zD, zE, zF, reduceCtorEq, zG, zH, zI, zJ, zK, zL, zM, zN, zO, zP]
    | true =>
      have h5' : 0 ≤ x ∧ x ≤ 1000000 := of_decide_eq_true h5
      simp only [go_sem, ↓reduceIte, zA, zB, zC, zD, zE, zF, reduceCtorEq, zG, zH, zI, zJ, zK, zL, zM, zN, zO, zP]
      refine W_lpI (k + 1) ?_ ?_ ⟨h, fun y hy => by
        rw [hs2, List.mem_append] at hy
        rcases hy with hy | hy
        · exact hF y hy
        · simp at hy; subst hy; exact h5'⟩ (by omega)
      · simp only [go_sem, ↓reduceIte, zA, zB, zC, zD, zE, zF, reduceCtorEq, zG, zH, zI, zJ, zK, zL, zM, zN, zO, zP]
      · simp only [heardS, go_sem, ↓reduceIte, zA, zB, zC, zD, zE, zF, reduceCtorEq, zG, zH, zI, zJ, zK, zL, zM, zN, zO, zP, wrap_succ (show k < 9223372036854775807 by omega)]
  · obtain rfl := eq_of_dec h hk
    rw [List.take_length] at hF
    simp only [go_sem, ↓reduceIte, zA, zB, zC, zD, zE, zF, reduceCtorEq, zG, zH, zI, zJ, zK, zL, zM, zN, zO, zP]
    refine W_calld (silent_tri up hs lease now (by omega) (by omega) h3' hF) rfl rfl rfl rfl ?_; simp only [go_sem, ↓reduceIte, zA, zB, zC, zD, zE, zF, reduceCtorEq, zG, zH, zI, zJ, zK, zL, zM, zN, zO, zP]
    refine W_calld (silent9_tri up hs lease now (by omega) (by omega) h3' hF) rfl rfl rfl rfl ?_; simp only [go_sem, ↓reduceIte, zA, zB, zC, zD, zE, zF, reduceCtorEq, zG, zH, zI, zJ, zK, zL, zM, zN, zO, zP]

theorem factsNextLaw_tri (c : ConfD) (s : StateD) (r : List MsgD) (now : Int) : Tri Try.prog G 7 [confV c, stateV s, msgsV r, .int now] [] (.bool true) [] := by
  refine tri_W0 Try.func7 (by decide) irOk7 (Nat.le_of_ble_eq_true rfl) rfl ?_
  simp only [ir7, go_sem, ↓reduceIte, zA, zB, zC, zD, zE, zF, reduceCtorEq, zG, zH, zI, zJ, zK, zL, zM, zN, zO, zP]
  refine W_calld (alive20_tri) rfl rfl rfl rfl ?_; simp only [go_sem, ↓reduceIte, zA, zB, zC, zD, zE, zF, reduceCtorEq, zG, zH, zI, zJ, zK, zL, zM, zN, zO, zP]
  refine W_calld (right_tri c s) rfl rfl rfl rfl ?_; simp only [go_sem, ↓reduceIte, zA, zB, zC, zD, zE, zF, reduceCtorEq, zG, zH, zI, zJ, zK, zL, zM, zN, zO, zP]
  cases hr : rightB c s with
  | false => simp only [go_sem, ↓reduceIte, zA, zB, zC, zD, zE, zF, reduceCtorEq, zG, zH, zI, zJ, zK, zL, zM, zN, zO, zP]
  | true =>
  simp only [go_sem, ↓reduceIte, zA, zB, zC, zD, zE, zF, reduceCtorEq, zG, zH, zI, zJ, zK, zL, zM, zN, zO, zP]
  refine W_calld (time20_tri now) rfl rfl rfl rfl ?_; simp only [go_sem, ↓reduceIte, zA, zB, zC, zD, zE, zF, reduceCtorEq, zG, zH, zI, zJ, zK, zL, zM, zN, zO, zP]
  cases ht : withinB now 0 1000000 with
  | false => simp only [go_sem, ↓reduceIte, zA, zB, zC, zD, zE, zF, reduceCtorEq, zG, zH, zI, zJ, zK, zL, zM, zN, zO, zP]
  | true =>
  have hp := (right_iff c s).1 hr
  have hln := hp.len
  have hlj := hp.jobs
  simp only [go_sem, ↓reduceIte, zA, zB, zC, zD, zE, zF, reduceCtorEq, zG, zH, zI, zJ, zK, zL, zM, zN, zO, zP]
  refine WC_split (fun h50 => ?_) (fun h50 => ?_) <;> simp only [h50, go_sem, ↓reduceIte, zA, zB, zC, zD, zE, zF, reduceCtorEq, zG, zH, zI, zJ, zK, zL, zM, zN, zO, zP] <;> (try simp only [beq_iff_eq, beq_eq_false_iff_ne, bne_iff_ne, ne_eq, decide_eq_true_eq, decide_eq_false_iff_not, Bool.not_true, Bool.not_false, Bool.not_eq_true, Bool.not_eq_false, bne_eq_false_iff_eq, Decidable.not_not] at h50)
  refine W_calld (factsNext_tri s r now (by omega) (by omega)) rfl rfl rfl rfl ?_; simp only [go_sem, ↓reduceIte, zA, zB, zC, zD, zE, zF, reduceCtorEq, zG, zH, zI, zJ, zK, zL, zM, zN, zO, zP]
  rw [facts_ref hp]
  simp only [optM, go_sem, ↓reduceIte, zA, zB, zC, zD, zE, zF, reduceCtorEq, zG, zH, zI, zJ, zK, zL, zM, zN, zO, zP]
  refine W_calld (factsNext9_tri s r now (by omega) (by omega)) rfl rfl rfl rfl ?_; simp only [go_sem, ↓reduceIte, zA, zB, zC, zD, zE, zF, reduceCtorEq, zG, zH, zI, zJ, zK, zL, zM, zN, zO, zP]
  simp only [optM, go_sem, ↓reduceIte, zA, zB, zC, zD, zE, zF, reduceCtorEq, zG, zH, zI, zJ, zK, zL, zM, zN, zO, zP]

def noneO (c : ConfD) (s : StateD) : List (Option LObj) := [some (.box 29 [.int c.nodes, .int c.queues, .int c.quota, .int c.wave, .int c.lease, .int c.retry, .int c.deadline, .int c.room, .int c.disk]), some (.box 33 [nodesV s.nodes, jobsV s.jobs, .int s.goal, .int s.prior, .int s.mode, .int s.term]), some (.box 42 [.int 0, .int 0, .int 0, .int 0, .int 0, .int 0, .int 0])]
def noneS (c : ConfD) (s : StateD) (r : List MsgD) (k : Nat) : St := ⟨[(2, msgsV r), (5, .ptr 1 0), (11, .int ((k + 1 : Nat) : Int))], noneO c s⟩
def noneS2 (c : ConfD) (s : StateD) (r : List MsgD) (k : Nat) (o : OpD) (b : Bool) (i : Nat) : St := ⟨[(2, msgsV r), (5, .ptr 1 0), (11, .int ((k + 1 : Nat) : Int)), (13, .bool b), (14, .int i)], noneO c s ++ [some (.box 42 [.int o.kind, .int o.a, .int o.b, .int o.c, .int o.d, .int o.e, .int o.f])]⟩
theorem factsNone_tri (c : ConfD) (s : StateD) (r : List MsgD) (now : Int) : Tri Try.prog G 8 [confV c, stateV s, msgsV r, .int now] [] (.bool true) [] := by
  refine tri_W0 Try.func8 (by decide) irOk8 (Nat.le_of_ble_eq_true rfl) rfl ?_
  simp only [ir8, go_sem, ↓reduceIte, zA, zB, zC, zD, zE, zF, reduceCtorEq, zG, zH, zI, zJ, zK, zL, zM, zN, zO, zP]
  refine W_calld (alive20_tri) rfl rfl rfl rfl ?_; simp only [go_sem, ↓reduceIte, zA, zB, zC, zD, zE, zF, reduceCtorEq, zG, zH, zI, zJ, zK, zL, zM, zN, zO, zP]
  refine W_calld (right_tri c s) rfl rfl rfl rfl ?_; simp only [go_sem, ↓reduceIte, zA, zB, zC, zD, zE, zF, reduceCtorEq, zG, zH, zI, zJ, zK, zL, zM, zN, zO, zP]
  cases hr : rightB c s with
  | false => simp only [go_sem, ↓reduceIte, zA, zB, zC, zD, zE, zF, reduceCtorEq, zG, zH, zI, zJ, zK, zL, zM, zN, zO, zP]
  | true =>
  simp only [go_sem, ↓reduceIte, zA, zB, zC, zD, zE, zF, reduceCtorEq, zG, zH, zI, zJ, zK, zL, zM, zN, zO, zP]
  refine W_calld (time20_tri now) rfl rfl rfl rfl ?_; simp only [go_sem, ↓reduceIte, zA, zB, zC, zD, zE, zF, reduceCtorEq, zG, zH, zI, zJ, zK, zL, zM, zN, zO, zP]
  cases ht : withinB now 0 1000000 with
  | false => simp only [go_sem, ↓reduceIte, zA, zB, zC, zD, zE, zF, reduceCtorEq, zG, zH, zI, zJ, zK, zL, zM, zN, zO, zP]
  | true =>
  have hp := (right_iff c s).1 hr
  have hln := hp.len
  have hlj := hp.jobs
  simp only [go_sem, ↓reduceIte, zA, zB, zC, zD, zE, zF, reduceCtorEq, zG, zH, zI, zJ, zK, zL, zM, zN, zO, zP]
  refine WC_split (fun h50 => ?_) (fun h50 => ?_) <;> simp only [h50, go_sem, ↓reduceIte, zA, zB, zC, zD, zE, zF, reduceCtorEq, zG, zH, zI, zJ, zK, zL, zM, zN, zO, zP] <;> (try simp only [beq_iff_eq, beq_eq_false_iff_ne, bne_iff_ne, ne_eq, decide_eq_true_eq, decide_eq_false_iff_not, Bool.not_true, Bool.not_false, Bool.not_eq_true, Bool.not_eq_false, bne_eq_false_iff_eq, Decidable.not_not] at h50)
  have hT := factsNext_tri (G := G) s [] now (by omega) (by omega)
  rw [facts_nil hp] at hT
  replace hT : Tri Try.prog G 29 [stateV s, msgsV [], .int now] [] (.tup [opV zeroOp, .bool false]) [] := hT
  refine W_callz [] (hT) rfl (by simp [argRs, argR, rowsAt, objL, go_sem, ↓reduceIte, zA, zB, zC, zD, zE, zF, reduceCtorEq, zG, zH, zI, zJ, zK, zL, zM, zN, zO, zP]) (by simp [objL]) rfl rfl ?_; simp only [go_sem, ↓reduceIte, zA, zB, zC, zD, zE, zF, reduceCtorEq, zG, zH, zI, zJ, zK, zL, zM, zN, zO, zP]
  refine W_loopI [2, 5, 11] [] (fun k : Nat => k ≤ s.jobs.length) (fun k => s.jobs.length - k) (noneS c s r) 0 ?_ (Nat.zero_le _) ?_
  · simp only [noneS, noneO, go_sem, ↓reduceIte, zA, zB, zC, zD, zE, zF, reduceCtorEq, zG, zH, zI, zJ, zK, zL, zM, zN, zO, zP]
    rfl
  intro k hk
  simp only [noneS, noneO, go_sem, ↓reduceIte, zA, zB, zC, zD, zE, zF, reduceCtorEq, zG, zH, zI, zJ, zK, zL, zM, zN, zO, zP]
  refine WC_split (fun h => ?_) (fun h => ?_)
  · have h : k < s.jobs.length := by have := of_decide_eq_true h; omega
    have hT := Gang_tri (G := G) s r ((k + 1 : Nat) : Int) (by omega)
    unfold gangO at hT
    have hgj := get_mapD (f := jobR) zeroJob h
    rw [if_neg (by omega), show (((k + 1 : Nat) : Int) - 1).toNat = k by omega] at hT
    have hsay : (gangT s r ((k + 1 : Nat) : Int) 0 (s.jobs.getD k zeroJob)).2 = true → ∀ i, i < 6 → hasB (s.jobs.getD k zeroJob).nodes i = true → i < r.length ∧ (r.getD i zeroMsg).kind = 6 ∧ (r.getD i zeroMsg).job = ((k + 1 : Nat) : Int) ∧ (r.getD i zeroMsg).inc = (s.jobs.getD k zeroJob).inc := fun hg i hi hb => by
      obtain ⟨m, hm⟩ := gangT_says hg i hi hb
      have h1 := says_is hm
      rw [show (((k + 1 : Nat) : Int) - 1).toNat = k by omega, Int.toNat_natCast] at h1
      exact ⟨by have := h1.1; omega, h1.2.1, h1.2.2.2.1, h1.2.2.2.2⟩
    rw [show optM (someP (gangT s r ((k + 1 : Nat) : Int) 0 (s.jobs.getD k zeroJob))) = .tup [opV ((someP (gangT s r ((k + 1 : Nat) : Int) 0 (s.jobs.getD k zeroJob))).getD zeroOp), .bool (gangT s r ((k + 1 : Nat) : Int) 0 (s.jobs.getD k zeroJob)).2] by unfold optM; rw [someP_isSome]] at hT
    generalize ((someP (gangT s r ((k + 1 : Nat) : Int) 0 (s.jobs.getD k zeroJob))).getD zeroOp) = o at *
    generalize (gangT s r ((k + 1 : Nat) : Int) 0 (s.jobs.getD k zeroJob)).2 = b at *
    generalize s.jobs.getD k zeroJob = j at *
    simp only [go_sem, ↓reduceIte, zA, zB, zC, zD, zE, zF, reduceCtorEq, zG, zH, zI, zJ, zK, zL, zM, zN, zO, zP]
    refine W_calld (hT) rfl rfl rfl rfl ?_; simp only [go_sem, ↓reduceIte, zA, zB, zC, zD, zE, zF, reduceCtorEq, zG, zH, zI, zJ, zK, zL, zM, zN, zO, zP]
    have hw1 : IntKind.i64.wrap (((k + 1 : Nat) : Int) - 1) = (k : Int) := by rw [wrap_in (by omega) (by omega)]; omega
    refine W_loopI [2, 5, 11, 13, 14] [] (fun i : Nat => i ≤ 6) (fun i => 6 - i) (noneS2 c s r k o b) 0 ?_ (by omega) ?_
    · simp only [noneS2, noneO, go_sem, ↓reduceIte, zA, zB, zC, zD, zE, zF, reduceCtorEq, zG, zH, zI, zJ, zK, zL, zM, zN, zO, zP, Int.natCast_zero]
    intro i hi
    simp only [noneS2, noneO, go_sem, ↓reduceIte, zA, zB, zC, zD, zE, zF, reduceCtorEq, zG, zH, zI, zJ, zK, zL, zM, zN, zO, zP]
    cases hlt : decide ((i : Int) < 6) with
    | false =>
      simp only [go_sem, ↓reduceIte, zA, zB, zC, zD, zE, zF, reduceCtorEq, zG, zH, zI, zJ, zK, zL, zM, zN, zO, zP]
      refine W_lpI (k + 1) ?_ ?_ h (by omega)
      · simp only [go_sem, ↓reduceIte, zA, zB, zC, zD, zE, zF, reduceCtorEq, zG, zH, zI, zJ, zK, zL, zM, zN, zO, zP]
      · simp only [noneS, noneO, go_sem, ↓reduceIte, zA, zB, zC, zD, zE, zF, reduceCtorEq, zG, zH, zI, zJ, zK, zL, zM, zN, zO, zP, wrap_succ (show k + 1 < 9223372036854775807 by omega)]
    | true =>
    have hi6 : i < 6 := by have := of_decide_eq_true hlt; omega
    simp only [go_sem, ↓reduceIte, zA, zB, zC, zD, zE, zF, reduceCtorEq, zG, zH, zI, zJ, zK, zL, zM, zN, zO, zP]
    cases b with
    | false =>
      simp only [go_sem, ↓reduceIte, zA, zB, zC, zD, zE, zF, reduceCtorEq, zG, zH, zI, zJ, zK, zL, zM, zN, zO, zP]
      refine W_lpI (k + 1) ?_ ?_ h (by omega)
      · simp only [go_sem, ↓reduceIte, zA, zB, zC, zD, zE, zF, reduceCtorEq, zG, zH, zI, zJ, zK, zL, zM, zN, zO, zP]
      · simp only [noneS, noneO, go_sem, ↓reduceIte, zA, zB, zC, zD, zE, zF, reduceCtorEq, zG, zH, zI, zJ, zK, zL, zM, zN, zO, zP, wrap_succ (show k + 1 < 9223372036854775807 by omega)]
    | true =>
    have hwi : IntKind.u64.wrap (i : Int) = i := by simp [IntKind.wrap, IntKind.bits, IntKind.signed]; omega
    simp only [hw1, hgj, hwi, bit_eq j.nodes i (by omega), go_sem, ↓reduceIte, zA, zB, zC, zD, zE, zF, reduceCtorEq, zG, zH, zI, zJ, zK, zL, zM, zN, zO, zP]
    cases hb : hasB j.nodes i with
    | false =>
      simp only [go_sem, ↓reduceIte, zA, zB, zC, zD, zE, zF, reduceCtorEq, zG, zH, zI, zJ, zK, zL, zM, zN, zO, zP]
      refine W_lpI (i + 1) ?_ ?_ hi6 (by omega)
      · simp only [go_sem, ↓reduceIte, zA, zB, zC, zD, zE, zF, reduceCtorEq, zG, zH, zI, zJ, zK, zL, zM, zN, zO, zP]
      · simp only [noneS2, noneO, go_sem, ↓reduceIte, zA, zB, zC, zD, zE, zF, reduceCtorEq, zG, zH, zI, zJ, zK, zL, zM, zN, zO, zP, wrap_succ (show i < 9223372036854775807 by omega)]
    | true =>
      obtain ⟨h1, h2, h3, h4⟩ := hsay rfl i hi6 hb
      have hgr := get_mapD (f := msgR) zeroMsg h1
      have e1 : decide ((i : Int) ≥ (r.length : Int)) = false := decide_eq_false (by omega)
      generalize r.getD i zeroMsg = m at *
      have e2 : (m.kind != 6) = false := by simp [h2]
      have e3 : (m.job != ((k + 1 : Nat) : Int)) = false := by simp [h3]
      have e4 : (m.inc != j.inc) = false := by simp [h4]
      simp only [e1, e2, e3, e4, hgr, hw1, hgj, go_sem, ↓reduceIte, zA, zB, zC, zD, zE, zF, reduceCtorEq, zG, zH, zI, zJ, zK, zL, zM, zN, zO, zP]
      refine W_lpI (i + 1) ?_ ?_ hi6 (by omega)
      · simp only [go_sem, ↓reduceIte, zA, zB, zC, zD, zE, zF, reduceCtorEq, zG, zH, zI, zJ, zK, zL, zM, zN, zO, zP]
      · simp only [noneS2, noneO, go_sem, ↓reduceIte, zA, zB, zC, zD, zE, zF, reduceCtorEq, zG, zH, zI, zJ, zK, zL, zM, zN, zO, zP, wrap_succ (show i < 9223372036854775807 by omega)]
  · have h : k = s.jobs.length := by have := of_decide_eq_false h; omega
    simp only [go_sem, ↓reduceIte, zA, zB, zC, zD, zE, zF, reduceCtorEq, zG, zH, zI, zJ, zK, zL, zM, zN, zO, zP]
end Dv
