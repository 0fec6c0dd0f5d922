/- The document's book: its small functions; the first state. -/
import Derived.Test.YtbhdfmgphcelhaaDA
set_option linter.unusedVariables false
set_option linter.unusedSimpArgs false
namespace Dv
open Go Go.Proofs
open Nat renaming reduceEqDiff → zA, reduceAdd → zB, reduceSub → zC, reduceMul → zD, reduceLT → zE, reduceLeDiff → zF
open Int renaming reduceLE → zG, reduceLT → zH, reduceToNat → zI, reduceBEq → zJ, reduceBNe → zK, reduceEq → zL, reduceAdd → zM, reduceSub → zN, reduceMul → zO, reduceNeg → zP
attribute [local go_sem] argEnv W_nil W_seq W_skip W_ret W_exit W_scope W_block W_blk W_reg W_regD W_cond WC_t WC_f WC_any Wx_c Wx_ops Wx_lp Wx_blk W_ops_nil W_opsD_q W_guard W_guardD WG_tt WG_ff WG_tf WG_ft WG_u WGD_tt WGD_ff WGD_tf WGD_ft WGD_u WE_some WED_some W_mv W_pick W_new W_box W_build W_bsl W_ld1 W_ldn W_st W_nck W_bin W_eqb W_not W_cvt W_fad W_fld1 W_fldn W_ixa W_ixr W_ix1 W_ixs W_len W_lens W_mkf W_ext W_app W_min W_isnp W_isns W_eqs W_neg W_ixn W_sli W_sls WD_mv WD_pick WD_new WD_box WD_build WD_bsl WD_ld1 WD_ldn WD_st WD_nck WD_bin WD_eqb WD_not WD_cvt WD_fad WD_fld1 WD_fldn WD_ixa WD_ixr WD_ix1 WD_ixs WD_len WD_lens WD_mkf WD_ext WD_app WD_min WD_isnp WD_isns WD_eqs WD_neg WD_ixn WD_sli WD_sls effF Opd.ev getE putE binV LV.int LV.bool LV.undef Go.undef LV.cells LV.toD LV.toDs splice fillL rowsOf srcRows updL objL Eff.owned nwp St.get St.obj St.put Value.oneCell' Ends adopt Ad.ap isNil St.keep St.okKeep okObj idl idlL idlO RVs.of RV.of oneOr Ends0 EndsO_iff frzs rn rnL rnO piOf eqCells eqV boundV Option.map_some Option.map_none List.append_nil List.nil_append List.cons_append List.map_nil List.map_cons List.length_nil List.length_cons List.set_cons_zero List.set_cons_succ List.take_succ_cons List.take_zero List.take_nil List.drop_succ_cons List.drop_zero List.drop_nil List.getElem?_cons_zero List.getElem?_cons_succ List.getElem?_nil List.isEmpty_nil List.isEmpty_cons List.all_cons List.all_nil List.isEmpty_nil cond_true cond_false Bool.true_and Bool.false_and Bool.and_true Bool.and_false Bool.not_true Bool.not_false Bool.or_true Bool.true_or Bool.or_false Bool.false_or true_and and_true true_or or_true Option.some.injEq LV.d.injEq DV.val.injEq Value.bool.injEq Value.int.injEq decide_true decide_false and_self Nat.zero_add Nat.add_zero if_true if_false Int.toNat_zero beq_self_eq_true Nat.zero_lt_succ Int.toNat_natCast Int.natCast_nonneg List.length_map i64 bl List.zip_cons_cons List.zip_nil_left List.zip_nil_right nwp confV stateV nodeV jobV nodesV jobsV opV msgV nodeR jobR opR msgR zeroOp zeroMsg msgsV
variable {G : Nat → Option (List DV)}

/-- dunnageref09.May -/
def ir39 : Nat × C × List RV := (87,
(.seq (.reg [⟨(some 1), .box 32 (.t 0), none, []⟩,
 ⟨(some 2), .mv (.c (.val (.bool false))), none, []⟩])
 (.seq (.seq (.reg [⟨(some 3), .fad 0 (.t 1), none, []⟩,
 ⟨(some 4), .ld1 (.t 3), none, []⟩,
 ⟨(some 5), .bin .lss (.t 4) (.c (.val (.int .i64 1))), none, []⟩,
 ⟨(some 6), .mv (.t 5), none, []⟩,
 ⟨(some 7), .fad 0 (.t 1), (some (6, false)), []⟩,
 ⟨(some 8), .ld1 (.t 7), (some (6, false)), []⟩,
 ⟨(some 9), .bin .gtr (.t 8) (.c (.val (.int .i64 6))), (some (6, false)), []⟩,
 ⟨(some 10), .pick (.t 6) (.c (.val (.bool true))) (.t 9), none, []⟩,
 ⟨(some 11), .mv (.t 10), none, []⟩,
 ⟨(some 12), .fad 1 (.t 1), (some (11, false)), []⟩,
 ⟨(some 13), .ld1 (.t 12), (some (11, false)), []⟩,
 ⟨(some 14), .bin .lss (.t 13) (.c (.val (.int .i64 1))), (some (11, false)), []⟩,
 ⟨(some 15), .pick (.t 11) (.c (.val (.bool true))) (.t 14), none, []⟩,
 ⟨(some 16), .mv (.t 15), none, []⟩,
 ⟨(some 17), .fad 1 (.t 1), (some (16, false)), []⟩,
 ⟨(some 18), .ld1 (.t 17), (some (16, false)), []⟩,
 ⟨(some 19), .bin .gtr (.t 18) (.c (.val (.int .i64 3))), (some (16, false)), []⟩,
 ⟨(some 20), .pick (.t 16) (.c (.val (.bool true))) (.t 19), none, []⟩,
 ⟨(some 21), .mv (.t 20), none, []⟩,
 ⟨(some 22), .fad 2 (.t 1), (some (21, false)), []⟩,
 ⟨(some 23), .ld1 (.t 22), (some (21, false)), []⟩,
 ⟨(some 24), .bin .lss (.t 23) (.c (.val (.int .i64 0))), (some (21, false)), []⟩,
 ⟨(some 25), .pick (.t 21) (.c (.val (.bool true))) (.t 24), none, []⟩,
 ⟨(some 26), .mv (.t 25), none, []⟩,
 ⟨(some 27), .fad 2 (.t 1), (some (26, false)), []⟩,
 ⟨(some 28), .ld1 (.t 27), (some (26, false)), []⟩,
 ⟨(some 29), .bin .gtr (.t 28) (.c (.val (.int .i64 4))), (some (26, false)), []⟩,
 ⟨(some 30), .pick (.t 26) (.c (.val (.bool true))) (.t 29), none, []⟩,
 ⟨(some 31), .mv (.t 30), none, []⟩,
 ⟨(some 32), .fad 3 (.t 1), (some (31, false)), []⟩,
 ⟨(some 33), .ld1 (.t 32), (some (31, false)), []⟩,
 ⟨(some 34), .bin .lss (.t 33) (.c (.val (.int .i64 1))), (some (31, false)), []⟩,
 ⟨(some 35), .pick (.t 31) (.c (.val (.bool true))) (.t 34), none, []⟩,
 ⟨(some 36), .mv (.t 35), none, []⟩,
 ⟨(some 37), .fad 3 (.t 1), (some (36, false)), []⟩,
 ⟨(some 38), .ld1 (.t 37), (some (36, false)), []⟩,
 ⟨(some 39), .bin .gtr (.t 38) (.c (.val (.int .i64 6))), (some (36, false)), []⟩,
 ⟨(some 40), .pick (.t 36) (.c (.val (.bool true))) (.t 39), none, []⟩])
 (.cond (.t 40) (.seq (.reg [⟨(some 2), .mv (.c (.val (.bool false))), none, []⟩])
 .ret)
 .skip))
 (.seq (.seq (.reg [⟨(some 41), .fad 4 (.t 1), none, []⟩,
 ⟨(some 42), .ld1 (.t 41), none, []⟩,
 ⟨(some 43), .bin .lss (.t 42) (.c (.val (.int .i64 2))), none, []⟩,
 ⟨(some 44), .mv (.t 43), none, []⟩,
 ⟨(some 45), .fad 4 (.t 1), (some (44, false)), []⟩,
 ⟨(some 46), .ld1 (.t 45), (some (44, false)), []⟩,
 ⟨(some 47), .bin .gtr (.t 46) (.c (.val (.int .i64 30))), (some (44, false)), []⟩,
 ⟨(some 48), .pick (.t 44) (.c (.val (.bool true))) (.t 47), none, []⟩,
 ⟨(some 49), .mv (.t 48), none, []⟩,
 ⟨(some 50), .fad 5 (.t 1), (some (49, false)), []⟩,
 ⟨(some 51), .ld1 (.t 50), (some (49, false)), []⟩,
 ⟨(some 52), .bin .lss (.t 51) (.c (.val (.int .i64 1))), (some (49, false)), []⟩,
 ⟨(some 53), .pick (.t 49) (.c (.val (.bool true))) (.t 52), none, []⟩,
 ⟨(some 54), .mv (.t 53), none, []⟩,
 ⟨(some 55), .fad 5 (.t 1), (some (54, false)), []⟩,
 ⟨(some 56), .ld1 (.t 55), (some (54, false)), []⟩,
 ⟨(some 57), .bin .gtr (.t 56) (.c (.val (.int .i64 20))), (some (54, false)), []⟩,
 ⟨(some 58), .pick (.t 54) (.c (.val (.bool true))) (.t 57), none, []⟩,
 ⟨(some 59), .mv (.t 58), none, []⟩,
 ⟨(some 60), .fad 6 (.t 1), (some (59, false)), []⟩,
 ⟨(some 61), .ld1 (.t 60), (some (59, false)), []⟩,
 ⟨(some 62), .bin .lss (.t 61) (.c (.val (.int .i64 1))), (some (59, false)), []⟩,
 ⟨(some 63), .pick (.t 59) (.c (.val (.bool true))) (.t 62), none, []⟩,
 ⟨(some 64), .mv (.t 63), none, []⟩,
 ⟨(some 65), .fad 6 (.t 1), (some (64, false)), []⟩,
 ⟨(some 66), .ld1 (.t 65), (some (64, false)), []⟩,
 ⟨(some 67), .bin .gtr (.t 66) (.c (.val (.int .i64 60))), (some (64, false)), []⟩,
 ⟨(some 68), .pick (.t 64) (.c (.val (.bool true))) (.t 67), none, []⟩])
 (.cond (.t 68) (.seq (.reg [⟨(some 2), .mv (.c (.val (.bool false))), none, []⟩])
 .ret)
 .skip))
 (.seq (.reg [⟨(some 69), .fad 7 (.t 1), none, []⟩,
 ⟨(some 70), .ld1 (.t 69), none, []⟩,
 ⟨(some 71), .bin .geq (.t 70) (.c (.val (.int .i64 0))), none, []⟩,
 ⟨(some 72), .mv (.t 71), none, []⟩,
 ⟨(some 73), .fad 7 (.t 1), (some (72, true)), []⟩,
 ⟨(some 74), .ld1 (.t 73), (some (72, true)), []⟩,
 ⟨(some 75), .bin .leq (.t 74) (.c (.val (.int .i64 5000))), (some (72, true)), []⟩,
 ⟨(some 76), .pick (.t 72) (.t 75) (.c (.val (.bool false))), none, []⟩,
 ⟨(some 77), .mv (.t 76), none, []⟩,
 ⟨(some 78), .fad 8 (.t 1), (some (77, true)), []⟩,
 ⟨(some 79), .ld1 (.t 78), (some (77, true)), []⟩,
 ⟨(some 80), .bin .geq (.t 79) (.c (.val (.int .i64 2000))), (some (77, true)), []⟩,
 ⟨(some 81), .pick (.t 77) (.t 80) (.c (.val (.bool false))), none, []⟩,
 ⟨(some 82), .mv (.t 81), none, []⟩,
 ⟨(some 83), .fad 8 (.t 1), (some (82, true)), []⟩,
 ⟨(some 84), .ld1 (.t 83), (some (82, true)), []⟩,
 ⟨(some 85), .bin .leq (.t 84) (.c (.val (.int .i64 40000))), (some (82, true)), []⟩,
 ⟨(some 86), .pick (.t 82) (.t 85) (.c (.val (.bool false))), none, []⟩,
 ⟨(some 2), .mv (.t 86), none, []⟩])
 .ret)))),
[(.t 2)])
theorem irOk39 : convFn Try.prog Try.f39 = some ir39 := by kernel_rfl
/-- dunnageref09.Asked -/
def ir42 : Nat × C × List RV := (64,
(.seq (.reg [⟨(some 2), .box 32 (.t 0), none, []⟩,
 ⟨(some 3), .box 45 (.t 1), none, []⟩,
 ⟨(some 4), .mv (.c (.val (.bool false))), none, []⟩])
 (.seq (.reg [⟨(some 5), .fad 0 (.t 3), none, []⟩,
 ⟨(some 6), .ld1 (.t 5), none, []⟩,
 ⟨(some 7), .bin .geq (.t 6) (.c (.val (.int .i64 0))), none, []⟩,
 ⟨(some 8), .mv (.t 7), none, []⟩,
 ⟨(some 9), .fad 0 (.t 3), (some (8, true)), []⟩,
 ⟨(some 10), .ld1 (.t 9), (some (8, true)), []⟩,
 ⟨(some 11), .fad 1 (.t 2), (some (8, true)), []⟩,
 ⟨(some 12), .ld1 (.t 11), (some (8, true)), []⟩,
 ⟨(some 13), .bin .lss (.t 10) (.t 12), (some (8, true)), []⟩,
 ⟨(some 14), .pick (.t 8) (.t 13) (.c (.val (.bool false))), none, []⟩,
 ⟨(some 15), .mv (.t 14), none, []⟩,
 ⟨(some 16), .fad 1 (.t 3), (some (15, true)), []⟩,
 ⟨(some 17), .ld1 (.t 16), (some (15, true)), []⟩,
 ⟨(some 18), .bin .geq (.t 17) (.c (.val (.int .i64 0))), (some (15, true)), []⟩,
 ⟨(some 19), .pick (.t 15) (.t 18) (.c (.val (.bool false))), none, []⟩,
 ⟨(some 20), .mv (.t 19), none, []⟩,
 ⟨(some 21), .fad 1 (.t 3), (some (20, true)), []⟩,
 ⟨(some 22), .ld1 (.t 21), (some (20, true)), []⟩,
 ⟨(some 23), .bin .leq (.t 22) (.c (.val (.int .i64 9))), (some (20, true)), []⟩,
 ⟨(some 24), .pick (.t 20) (.t 23) (.c (.val (.bool false))), none, []⟩,
 ⟨(some 25), .mv (.t 24), none, []⟩,
 ⟨(some 26), .fad 2 (.t 3), (some (25, true)), []⟩,
 ⟨(some 27), .ld1 (.t 26), (some (25, true)), []⟩,
 ⟨(some 28), .bin .geq (.t 27) (.c (.val (.int .i64 1))), (some (25, true)), []⟩,
 ⟨(some 29), .pick (.t 25) (.t 28) (.c (.val (.bool false))), none, []⟩,
 ⟨(some 30), .mv (.t 29), none, []⟩,
 ⟨(some 31), .fad 2 (.t 3), (some (30, true)), []⟩,
 ⟨(some 32), .ld1 (.t 31), (some (30, true)), []⟩,
 ⟨(some 33), .fad 3 (.t 3), (some (30, true)), []⟩,
 ⟨(some 34), .ld1 (.t 33), (some (30, true)), []⟩,
 ⟨(some 35), .bin .leq (.t 32) (.t 34), (some (30, true)), []⟩,
 ⟨(some 36), .pick (.t 30) (.t 35) (.c (.val (.bool false))), none, []⟩,
 ⟨(some 37), .mv (.t 36), none, []⟩,
 ⟨(some 38), .fad 3 (.t 3), (some (37, true)), []⟩,
 ⟨(some 39), .ld1 (.t 38), (some (37, true)), []⟩,
 ⟨(some 40), .fad 0 (.t 2), (some (37, true)), []⟩,
 ⟨(some 41), .ld1 (.t 40), (some (37, true)), []⟩,
 ⟨(some 42), .bin .leq (.t 39) (.t 41), (some (37, true)), []⟩,
 ⟨(some 43), .pick (.t 37) (.t 42) (.c (.val (.bool false))), none, []⟩,
 ⟨(some 44), .mv (.t 43), none, []⟩,
 ⟨(some 45), .fad 4 (.t 3), (some (44, true)), []⟩,
 ⟨(some 46), .ld1 (.t 45), (some (44, true)), []⟩,
 ⟨(some 47), .bin .geq (.t 46) (.c (.val (.int .i64 1))), (some (44, true)), []⟩,
 ⟨(some 48), .pick (.t 44) (.t 47) (.c (.val (.bool false))), none, []⟩,
 ⟨(some 49), .mv (.t 48), none, []⟩,
 ⟨(some 50), .fad 4 (.t 3), (some (49, true)), []⟩,
 ⟨(some 51), .ld1 (.t 50), (some (49, true)), []⟩,
 ⟨(some 52), .bin .leq (.t 51) (.c (.val (.int .i64 1000))), (some (49, true)), []⟩,
 ⟨(some 53), .pick (.t 49) (.t 52) (.c (.val (.bool false))), none, []⟩,
 ⟨(some 54), .mv (.t 53), none, []⟩,
 ⟨(some 55), .fad 5 (.t 3), (some (54, true)), []⟩,
 ⟨(some 56), .ld1 (.t 55), (some (54, true)), []⟩,
 ⟨(some 57), .bin .geq (.t 56) (.c (.val (.int .i64 0))), (some (54, true)), []⟩,
 ⟨(some 58), .pick (.t 54) (.t 57) (.c (.val (.bool false))), none, []⟩,
 ⟨(some 59), .mv (.t 58), none, []⟩,
 ⟨(some 60), .fad 5 (.t 3), (some (59, true)), []⟩,
 ⟨(some 61), .ld1 (.t 60), (some (59, true)), []⟩,
 ⟨(some 62), .bin .leq (.t 61) (.c (.val (.int .i64 9))), (some (59, true)), []⟩,
 ⟨(some 63), .pick (.t 59) (.t 62) (.c (.val (.bool false))), none, []⟩,
 ⟨(some 4), .mv (.t 63), none, []⟩])
 .ret)),
[(.t 4)])
theorem irOk42 : convFn Try.prog Try.f42 = some ir42 := by kernel_rfl
/-- dunnageref09.number -/
def ir40 : Nat × C × List RV := (9,
(.seq (.reg [⟨(some 2), .mv (.c (.val (.bool false))), none, []⟩])
 (.seq (.reg [⟨(some 3), .mv (.t 0), none, []⟩,
 ⟨(some 4), .bin .geq (.t 3) (.c (.val (.int .i64 0))), none, []⟩,
 ⟨(some 5), .mv (.t 4), none, []⟩,
 ⟨(some 6), .mv (.t 0), (some (5, true)), []⟩,
 ⟨(some 7), .bin .leq (.t 6) (.c (.val (.int .i64 1000000))), (some (5, true)), []⟩,
 ⟨(some 8), .pick (.t 5) (.t 7) (.c (.val (.bool false))), none, []⟩,
 ⟨(some 2), .mv (.t 8), none, []⟩])
 .ret)),
[(.t 2)])
theorem irOk40 : convFn Try.prog Try.f40 = some ir40 := by kernel_rfl
/-- dunnageref09.Has -/
def ir44 : Nat × C × List RV := (11,
(.seq (.reg [⟨(some 4), .mv (.c (.val (.bool false))), none, []⟩])
 (.seq (.reg [⟨(some 5), .mv (.t 0), none, []⟩,
 ⟨(some 6), .mv (.t 1), none, []⟩,
 ⟨(some 7), .cvt .u64 (.t 6), none, []⟩,
 ⟨(some 8), .bin .shr (.t 5) (.t 7), none, []⟩,
 ⟨(some 9), .bin .and (.t 8) (.c (.val (.int .i64 1))), none, []⟩,
 ⟨(some 10), .bin .eql (.t 9) (.c (.val (.int .i64 1))), none, []⟩,
 ⟨(some 4), .mv (.t 10), none, []⟩])
 .ret)),
[(.t 4)])
theorem irOk44 : convFn Try.prog Try.f44 = some ir44 := by kernel_rfl
/-- dunnageref09.Many -/
def ir49 : Nat × C × List RV := (15,
(.seq (.reg [⟨(some 2), .mv (.c (.val (.int .i64 0))), none, []⟩])
 (.seq (.reg [⟨(some 3), .mv (.c (.val (.int .i64 0))), none, []⟩])
 (.seq (.seq (.reg [⟨(some 4), .mv (.c (.val (.int .i64 0))), none, []⟩])
 (.block 0 (.loop (.seq (.seq (.reg [⟨(some 5), .mv (.t 4), none, []⟩,
 ⟨(some 6), .bin .lss (.t 5) (.c (.val (.int .i64 6))), none, []⟩])
 (.cond (.t 6) .skip
 (.exit 0)))
 (.seq (.block 1 (.seq (.reg [⟨(some 9), .mv (.t 0), none, []⟩,
 ⟨(some 10), .mv (.t 4), none, []⟩,
 ⟨(some 11), .call (.f 44) [(.t 9), (.t 10)], none, []⟩])
 (.cond (.t 11) (.reg [⟨(some 12), .mv (.t 3), none, []⟩,
 ⟨(some 13), .bin .add (.t 12) (.c (.val (.int .i64 1))), none, []⟩,
 ⟨(some 3), .mv (.t 13), none, []⟩])
 .skip)))
 (.reg [⟨(some 7), .mv (.t 4), none, []⟩,
 ⟨(some 8), .bin .add (.t 7) (.c (.val (.int .i64 1))), none, []⟩,
 ⟨(some 4), .mv (.t 8), none, []⟩]))))))
 (.seq (.reg [⟨(some 14), .mv (.t 3), none, []⟩,
 ⟨(some 2), .mv (.t 14), none, []⟩])
 .ret)))),
[(.t 2)])
theorem irOk49 : convFn Try.prog Try.f49 = some ir49 := by kernel_rfl
/-- dunnageref09.Drains -/
def ir41 : Nat × C × List RV := (34,
(.seq (.reg [⟨(some 2), .box 25 (.t 0), none, []⟩,
 ⟨(some 4), .mv (.c (.val (.int .i64 0))), none, []⟩])
 (.seq (.reg [⟨(some 5), .mv (.c (.val (.int .i64 0))), none, []⟩])
 (.seq (.seq (.reg [⟨(some 6), .mv (.c (.val (.int .i64 0))), none, []⟩])
 (.block 0 (.loop (.seq (.seq (.reg [⟨(some 7), .mv (.t 6), none, []⟩,
 ⟨(some 8), .fad 1 (.t 2), none, []⟩,
 ⟨(some 9), .ld1 (.t 8), none, []⟩,
 ⟨(some 10), .len (.t 9), none, []⟩,
 ⟨(some 11), .bin .lss (.t 7) (.t 10), none, []⟩])
 (.cond (.t 11) .skip
 (.exit 0)))
 (.seq (.block 1 (.seq (.reg [⟨(some 14), .fad 1 (.t 2), none, []⟩,
 ⟨(some 15), .ld1 (.t 14), none, []⟩,
 ⟨(some 16), .mv (.t 6), none, []⟩,
 ⟨(some 17), .ixa 12 (.t 15) (.t 16), none, []⟩,
 ⟨(some 18), .fad 6 (.t 17), none, []⟩,
 ⟨(some 19), .ld1 (.t 18), none, []⟩,
 ⟨(some 20), .bin .eql (.t 19) (.c (.val (.int .i64 3))), none, []⟩,
 ⟨(some 21), .mv (.t 20), none, []⟩,
 ⟨(some 22), .fad 1 (.t 2), (some (21, true)), []⟩,
 ⟨(some 23), .ld1 (.t 22), (some (21, true)), []⟩,
 ⟨(some 24), .mv (.t 6), (some (21, true)), []⟩,
 ⟨(some 25), .ixa 12 (.t 23) (.t 24), (some (21, true)), []⟩,
 ⟨(some 26), .fad 0 (.t 25), (some (21, true)), []⟩,
 ⟨(some 27), .ld1 (.t 26), (some (21, true)), []⟩,
 ⟨(some 28), .mv (.t 1), (some (21, true)), []⟩,
 ⟨(some 29), .bin .eql (.t 27) (.t 28), (some (21, true)), []⟩,
 ⟨(some 30), .pick (.t 21) (.t 29) (.c (.val (.bool false))), none, []⟩])
 (.cond (.t 30) (.reg [⟨(some 31), .mv (.t 5), none, []⟩,
 ⟨(some 32), .bin .add (.t 31) (.c (.val (.int .i64 1))), none, []⟩,
 ⟨(some 5), .mv (.t 32), none, []⟩])
 .skip)))
 (.reg [⟨(some 12), .mv (.t 6), none, []⟩,
 ⟨(some 13), .bin .add (.t 12) (.c (.val (.int .i64 1))), none, []⟩,
 ⟨(some 6), .mv (.t 13), none, []⟩]))))))
 (.seq (.reg [⟨(some 33), .mv (.t 5), none, []⟩,
 ⟨(some 4), .mv (.t 33), none, []⟩])
 .ret)))),
[(.t 4)])
theorem irOk41 : convFn Try.prog Try.f41 = some ir41 := by kernel_rfl
/-- book.New -/
def ir15 : Nat × C × List RV := (21,
(.seq (.reg [⟨(some 1), .box 32 (.t 0), none, []⟩,
 ⟨(some 2), .new 25 [(.val (.slice none 0 0)), (.val (.slice none 0 0)), (.val (.int .i64 0)), (.val (.int .i64 0)), (.val (.int .i64 0)), (.val (.int .i64 0))], none, []⟩])
 (.seq (.seq (.reg [⟨(some 4), .ldn 9 (.t 1), none, []⟩,
 ⟨(some 5), .call (.f 26) [(.t 4)], none, []⟩,
 ⟨(some 6), .not (.t 5), none, []⟩])
 (.cond (.t 6) (.seq (.reg [⟨(some 7), .build [(.val (.slice none 0 0)), (.val (.slice none 0 0)), (.val (.int .i64 0)), (.val (.int .i64 0)), (.val (.int .i64 0)), (.val (.int .i64 0))] [], none, []⟩,
 ⟨none, .st 6 (.t 2) (.t 7), none, []⟩])
 .ret)
 .skip))
 (.seq (.reg [⟨(some 8), .build [(.val (.slice none 0 0)), (.val (.slice none 0 0)), (.val (.int .i64 0)), (.val (.int .i64 0)), (.val (.int .i64 0)), (.val (.int .i64 0))] [(2, 1, (.c (.val (.int .i64 1)))), (3, 1, (.c (.val (.int .i64 1))))], none, []⟩,
 ⟨(some 3), .new 25 [(.val (.slice none 0 0)), (.val (.slice none 0 0)), (.val (.int .i64 0)), (.val (.int .i64 0)), (.val (.int .i64 0)), (.val (.int .i64 0))], none, []⟩,
 ⟨none, .st 6 (.t 3) (.t 8), none, []⟩])
 (.seq (.seq (.reg [⟨(some 9), .fad 0 (.t 1), none, []⟩,
 ⟨(some 10), .ld1 (.t 9), none, []⟩,
 ⟨(some 11), .mv (.c (.val (.int .i64 0))), none, []⟩])
 (.block 0 (.loop (.seq (.reg [⟨(some 12), .bin .lss (.t 11) (.t 10), none, []⟩])
 (.seq (.cond (.t 12) .skip
 (.exit 0))
 (.seq (.block 1 (.reg [⟨(some 13), .fad 0 (.t 3), none, []⟩,
 ⟨(some 14), .ld1 (.t 13), none, []⟩,
 ⟨(some 15), .build [(.val (.bool false)), (.val (.bool false)), (.val (.bool false)), (.val (.int .i64 0)), (.val (.int .i64 0))] [(0, 1, (.c (.val (.bool true)))), (3, 1, (.c (.val (.int .i64 1))))], none, []⟩,
 ⟨(some 16), .bsl 42 5 [(.t 15)], none, []⟩,
 ⟨(some 17), .app 42 5 24 (.t 14) (.t 16), none, []⟩,
 ⟨(some 18), .fad 0 (.t 3), none, []⟩,
 ⟨none, .st 1 (.t 18) (.t 17), none, []⟩]))
 (.reg [⟨(some 19), .bin .add (.t 11) (.c (.val (.int .i64 1))), none, []⟩,
 ⟨(some 11), .mv (.t 19), none, []⟩])))))))
 (.seq (.reg [⟨(some 20), .ldn 6 (.t 3), none, []⟩,
 ⟨none, .st 6 (.t 2) (.t 20), none, []⟩])
 .ret))))),
[(.cn 2 6)])
theorem irOk15 : convFn Try.prog Try.f15 = some ir15 := by kernel_rfl


theorem mayB_dec (c : ConfD) : mayB c = decide (1 ≤ c.nodes ∧ c.nodes ≤ 6 ∧ 1 ≤ c.queues ∧ c.queues ≤ 3 ∧ 0 ≤ c.quota ∧ c.quota ≤ 4 ∧ 1 ≤ c.wave ∧ c.wave ≤ 6 ∧ 2 ≤ c.lease ∧ c.lease ≤ 30 ∧ 1 ≤ c.retry ∧ c.retry ≤ 20 ∧ 1 ≤ c.deadline ∧ c.deadline ≤ 60 ∧ 0 ≤ c.room ∧ c.room ≤ 5000 ∧ 2000 ≤ c.disk ∧ c.disk ≤ 40000) := by
  rw [Bool.eq_iff_iff]
  simp only [mayB, withinB, Bool.and_eq_true, decide_eq_true_eq, and_assoc]
theorem askedB_dec (c : ConfD) (j : JobD) : askedB c j = decide (0 ≤ j.queue ∧ j.queue < c.queues ∧ 0 ≤ j.prio ∧ j.prio ≤ 9 ∧ 1 ≤ j.min ∧ j.min ≤ j.max ∧ j.max ≤ c.nodes ∧ 1 ≤ j.work ∧ j.work ≤ 1000 ∧ 0 ≤ j.pin ∧ j.pin ≤ 9) := by
  rw [Bool.eq_iff_iff]
  simp only [askedB, withinB, Bool.and_eq_true, decide_eq_true_eq, and_assoc]
  omega
theorem may9_tri (c : ConfD) : Tri Try.prog G 39 [confV c] [] (.bool (mayB c)) [] := by
  refine tri_W0 Try.func39 (by decide) irOk39 (Nat.le_of_ble_eq_true rfl) rfl ?_
  simp only [ir39, go_sem, ↓reduceIte, zA, zB, zC, zD, zE, zF, reduceCtorEq, zG, zH, zI, zJ, zK, zL, zM, zN, zO, zP]
  rw [mayB_dec]
  repeat' (first | ((first | with_reducible refine WG_splitn (fun h => ?_) (fun h => ?_) | refine WG_split (fun h => ?_) (fun h => ?_)) <;> simp only [h, go_sem, ↓reduceIte, zA, zB, zC, zD, zE, zF, reduceCtorEq, zG, zH, zI, zJ, zK, zL, zM, zN, zO, zP] <;> (try simp only [beq_iff_eq, beq_eq_false_iff_ne, bne_iff_ne, ne_eq, decide_eq_true_eq, decide_eq_false_iff_not, Bool.not_true, Bool.not_false, Bool.not_eq_true, Bool.not_eq_false, bne_eq_false_iff_eq, Decidable.not_not] at h)) | ((first | with_reducible refine WC_splitn (fun h => ?_) (fun h => ?_) | refine WC_split (fun h => ?_) (fun h => ?_)) <;> simp only [h, go_sem, ↓reduceIte, zA, zB, zC, zD, zE, zF, reduceCtorEq, zG, zH, zI, zJ, zK, zL, zM, zN, zO, zP] <;> (try simp only [beq_iff_eq, beq_eq_false_iff_ne, bne_iff_ne, ne_eq, decide_eq_true_eq, decide_eq_false_iff_not, Bool.not_true, Bool.not_false, Bool.not_eq_true, Bool.not_eq_false, bne_eq_false_iff_eq, Decidable.not_not] at h)))
  all_goals first | (symm; apply decide_eq_false; omega) | (symm; apply decide_eq_true; omega) | (rw [Bool.eq_iff_iff]; simp only [decide_eq_true_eq]; omega)
theorem asked9_tri (c : ConfD) (j : JobD) : Tri Try.prog G 42 [confV c, jobV j] [] (.bool (askedB c j)) [] := by
  refine tri_W0 Try.func42 (by decide) irOk42 (Nat.le_of_ble_eq_true rfl) rfl ?_
  simp only [ir42, go_sem, ↓reduceIte, zA, zB, zC, zD, zE, zF, reduceCtorEq, zG, zH, zI, zJ, zK, zL, zM, zN, zO, zP]
  rw [askedB_dec]
  repeat' (first | ((first | with_reducible refine WG_splitn (fun h => ?_) (fun h => ?_) | refine WG_split (fun h => ?_) (fun h => ?_)) <;> simp only [h, go_sem, ↓reduceIte, zA, zB, zC, zD, zE, zF, reduceCtorEq, zG, zH, zI, zJ, zK, zL, zM, zN, zO, zP] <;> (try simp only [beq_iff_eq, beq_eq_false_iff_ne, bne_iff_ne, ne_eq, decide_eq_true_eq, decide_eq_false_iff_not, Bool.not_true, Bool.not_false, Bool.not_eq_true, Bool.not_eq_false, bne_eq_false_iff_eq, Decidable.not_not] at h)) | ((first | with_reducible refine WC_splitn (fun h => ?_) (fun h => ?_) | refine WC_split (fun h => ?_) (fun h => ?_)) <;> simp only [h, go_sem, ↓reduceIte, zA, zB, zC, zD, zE, zF, reduceCtorEq, zG, zH, zI, zJ, zK, zL, zM, zN, zO, zP] <;> (try simp only [beq_iff_eq, beq_eq_false_iff_ne, bne_iff_ne, ne_eq, decide_eq_true_eq, decide_eq_false_iff_not, Bool.not_true, Bool.not_false, Bool.not_eq_true, Bool.not_eq_false, bne_eq_false_iff_eq, Decidable.not_not] at h)))
  all_goals first | (symm; apply decide_eq_false; omega) | (symm; apply decide_eq_true; omega) | (rw [Bool.eq_iff_iff]; simp only [decide_eq_true_eq]; omega)
theorem number9_tri (n : Int) : Tri Try.prog G 40 [.int n] [] (.bool (withinB n 0 1000000)) [] := by
  refine tri_W0 Try.func40 (by decide) irOk40 (Nat.le_of_ble_eq_true rfl) rfl ?_
  simp only [ir40, go_sem, ↓reduceIte, zA, zB, zC, zD, zE, zF, reduceCtorEq, zG, zH, zI, zJ, zK, zL, zM, zN, zO, zP]
  unfold withinB
  repeat' (first | ((first | with_reducible refine WG_splitn (fun h => ?_) (fun h => ?_) | refine WG_split (fun h => ?_) (fun h => ?_)) <;> simp only [h, go_sem, ↓reduceIte, zA, zB, zC, zD, zE, zF, reduceCtorEq, zG, zH, zI, zJ, zK, zL, zM, zN, zO, zP] <;> (try simp only [beq_iff_eq, beq_eq_false_iff_ne, bne_iff_ne, ne_eq, decide_eq_true_eq, decide_eq_false_iff_not, Bool.not_true, Bool.not_false, Bool.not_eq_true, Bool.not_eq_false, bne_eq_false_iff_eq, Decidable.not_not] at h)) | ((first | with_reducible refine WC_splitn (fun h => ?_) (fun h => ?_) | refine WC_split (fun h => ?_) (fun h => ?_)) <;> simp only [h, go_sem, ↓reduceIte, zA, zB, zC, zD, zE, zF, reduceCtorEq, zG, zH, zI, zJ, zK, zL, zM, zN, zO, zP] <;> (try simp only [beq_iff_eq, beq_eq_false_iff_ne, bne_iff_ne, ne_eq, decide_eq_true_eq, decide_eq_false_iff_not, Bool.not_true, Bool.not_false, Bool.not_eq_true, Bool.not_eq_false, bne_eq_false_iff_eq, Decidable.not_not] at h)))
  all_goals first | (symm; apply decide_eq_false; omega) | (symm; apply decide_eq_true; omega) | (rw [Bool.eq_iff_iff]; simp only [decide_eq_true_eq]; omega)
theorem has9_tri (n : Int) (i : Nat) (hi : i < 64) : Tri Try.prog G 44 [.int n, .int i] [] (.bool (hasB n i)) [] := by
  refine tri_W0 Try.func44 (by decide) irOk44 (Nat.le_of_ble_eq_true rfl) rfl ?_
  simp only [ir44, go_sem, ↓reduceIte, zA, zB, zC, zD, zE, zF, reduceCtorEq, zG, zH, zI, zJ, zK, zL, zM, zN, zO, zP]
  have hw : IntKind.u64.wrap (i : Int) = i := by simp [IntKind.wrap, IntKind.bits, IntKind.signed]; omega
  simp only [hw, bit_eq n i hi, go_sem, ↓reduceIte, zA, zB, zC, zD, zE, zF, reduceCtorEq, zG, zH, zI, zJ, zK, zL, zM, zN, zO, zP]
def manyS (n : Int) (k : Nat) : St := ⟨[(0, .int n), (3, .int (manyTo n k)), (4, .int k)], []⟩
theorem many9_tri (n : Int) : Tri Try.prog G 49 [.int n] [] (.int (many n)) [] := by
  refine tri_W0 Try.func49 (by decide) irOk49 (Nat.le_of_ble_eq_true rfl) rfl ?_
  simp only [ir49, go_sem, ↓reduceIte, zA, zB, zC, zD, zE, zF, reduceCtorEq, zG, zH, zI, zJ, zK, zL, zM, zN, zO, zP]
  refine W_loopI [0, 3, 4] [] (fun k : Nat => k ≤ 6) (fun k => 6 - k) (manyS n) 0 ?_ (by omega) (fun k hk => ?_)
  · simp only [manyS, go_sem, ↓reduceIte, zA, zB, zC, zD, zE, zF, reduceCtorEq, zG, zH, zI, zJ, zK, zL, zM, zN, zO, zP, manyTo, Int.natCast_zero]
  simp only [manyS, go_sem, ↓reduceIte, zA, zB, zC, zD, zE, zF, reduceCtorEq, zG, zH, zI, zJ, zK, zL, zM, zN, zO, zP]
  refine WC_split (fun h => ?_) (fun h => ?_) <;> simp only [h, go_sem, ↓reduceIte, zA, zB, zC, zD, zE, zF, reduceCtorEq, zG, zH, zI, zJ, zK, zL, zM, zN, zO, zP] <;> (try simp only [beq_iff_eq, beq_eq_false_iff_ne, bne_iff_ne, ne_eq, decide_eq_true_eq, decide_eq_false_iff_not, Bool.not_true, Bool.not_false, Bool.not_eq_true, Bool.not_eq_false, bne_eq_false_iff_eq, Decidable.not_not] at h)
  · have hb := manyTo_le n k
    refine W_calld (has9_tri n k (by omega)) rfl rfl rfl rfl ?_; simp only [go_sem, ↓reduceIte, zA, zB, zC, zD, zE, zF, reduceCtorEq, zG, zH, zI, zJ, zK, zL, zM, zN, zO, zP]
    cases hh : hasB n k with
    | true =>
      have e : IntKind.i64.wrap (manyTo n k + 1) = manyTo n (k + 1) := by rw [wrap_in (by omega) (by omega)]; simp [manyTo, has01, hh]
      simp only [go_sem, ↓reduceIte, zA, zB, zC, zD, zE, zF, reduceCtorEq, zG, zH, zI, zJ, zK, zL, zM, zN, zO, zP]
      refine W_lpI (k + 1) ?_ ?_ (by omega) (by omega)
      · simp only [go_sem, ↓reduceIte, zA, zB, zC, zD, zE, zF, reduceCtorEq, zG, zH, zI, zJ, zK, zL, zM, zN, zO, zP]
      · simp only [manyS, go_sem, ↓reduceIte, zA, zB, zC, zD, zE, zF, reduceCtorEq, zG, zH, zI, zJ, zK, zL, zM, zN, zO, zP, wrap_succ (show k < 9223372036854775807 by omega), e]
    | false =>
      have e : manyTo n k = manyTo n (k + 1) := by simp [manyTo, has01, hh]
      simp only [go_sem, ↓reduceIte, zA, zB, zC, zD, zE, zF, reduceCtorEq, zG, zH, zI, zJ, zK, zL, zM, zN, zO, zP]
      refine W_lpI (k + 1) ?_ ?_ (by omega) (by omega)
      · simp only [go_sem, ↓reduceIte, zA, zB, zC, zD, zE, zF, reduceCtorEq, zG, zH, zI, zJ, zK, zL, zM, zN, zO, zP]
      · simp only [manyS, go_sem, ↓reduceIte, zA, zB, zC, zD, zE, zF, reduceCtorEq, zG, zH, zI, zJ, zK, zL, zM, zN, zO, zP, wrap_succ (show k < 9223372036854775807 by omega), e]
  · obtain rfl : k = 6 := by omega
    simp only [many, go_sem, ↓reduceIte, zA, zB, zC, zD, zE, zF, reduceCtorEq, zG, zH, zI, zJ, zK, zL, zM, zN, zO, zP]
def drains9S (s : StateD) (q : Int) (k : Nat) : St := ⟨[(1, .int q), (2, .ptr 0 0), (5, .int (drainsL (s.jobs.take k) q)), (6, .int k)], [some (.box 25 [nodesV s.nodes, jobsV s.jobs, .int s.goal, .int s.prior, .int s.mode, .int s.term])]⟩
theorem drains9_tri (s : StateD) (q : Int) (hn : s.jobs.length ≤ 9223372036854775806) : Tri Try.prog G 41 [stateV s, .int q] [] (.int (drainsL s.jobs q)) [] := by
  refine tri_W0 Try.func41 (by decide) irOk41 (Nat.le_of_ble_eq_true rfl) rfl ?_
  simp only [ir41, go_sem, ↓reduceIte, zA, zB, zC, zD, zE, zF, reduceCtorEq, zG, zH, zI, zJ, zK, zL, zM, zN, zO, zP]
  refine W_loopI [1, 2, 5, 6] [] (fun k : Nat => k ≤ s.jobs.length) (fun k => s.jobs.length - k) (drains9S s q) 0 ?_ (Nat.zero_le _) (fun k hk => ?_)
  · simp only [drains9S, go_sem, ↓reduceIte, zA, zB, zC, zD, zE, zF, reduceCtorEq, zG, zH, zI, zJ, zK, zL, zM, zN, zO, zP, List.take_zero, drainsL, List.filter_nil, Int.natCast_zero]
  simp only [drains9S, go_sem, ↓reduceIte, zA, zB, zC, zD, zE, zF, reduceCtorEq, zG, zH, zI, zJ, zK, zL, zM, zN, zO, zP]
  refine WC_split (fun h => ?_) (fun h => ?_)
  · have h := lt_of_dec h
    have hb := drainsL_le (s.jobs.take k) q
    rw [List.length_take] at hb
    have hs : s.jobs.take (k + 1) = s.jobs.take k ++ [s.jobs[k]] := by rw [List.take_succ_eq_append_getElem h]
    have hd := drainsL_snoc (s.jobs.take k) s.jobs[k] q
    simp only [get_map h, go_sem, ↓reduceIte, zA, zB, zC, zD, zE, zF, reduceCtorEq, zG, zH, zI, zJ, zK, zL, zM, zN, zO, zP]
    refine WG_split (fun h1 => ?_) (fun h1 => ?_) <;> simp only [h1, go_sem, ↓reduceIte, zA, zB, zC, zD, zE, zF, reduceCtorEq, zG, zH, zI, zJ, zK, zL, zM, zN, zO, zP] <;> (try simp only [beq_iff_eq, beq_eq_false_iff_ne, bne_iff_ne, ne_eq, decide_eq_true_eq, decide_eq_false_iff_not, Bool.not_true, Bool.not_false, Bool.not_eq_true, Bool.not_eq_false, bne_eq_false_iff_eq, Decidable.not_not] at h1)
    · simp only [get_map h, go_sem, ↓reduceIte, zA, zB, zC, zD, zE, zF, reduceCtorEq, zG, zH, zI, zJ, zK, zL, zM, zN, zO, zP]
      refine WC_split (fun h2 => ?_) (fun h2 => ?_) <;> simp only [h2, go_sem, ↓reduceIte, zA, zB, zC, zD, zE, zF, reduceCtorEq, zG, zH, zI, zJ, zK, zL, zM, zN, zO, zP] <;> (try simp only [beq_iff_eq, beq_eq_false_iff_ne, bne_iff_ne, ne_eq, decide_eq_true_eq, decide_eq_false_iff_not, Bool.not_true, Bool.not_false, Bool.not_eq_true, Bool.not_eq_false, bne_eq_false_iff_eq, Decidable.not_not] at h2)
      · refine W_lpI (k + 1) ?_ ?_ (by omega) (by omega)
        · simp only [go_sem, ↓reduceIte, zA, zB, zC, zD, zE, zF, reduceCtorEq, zG, zH, zI, zJ, zK, zL, zM, zN, zO, zP]
        · simp only [drains9S, go_sem, ↓reduceIte, zA, zB, zC, zD, zE, zF, reduceCtorEq, zG, zH, zI, zJ, zK, zL, zM, zN, zO, zP, wrap_succ (show k < 9223372036854775807 by omega), hs, hd, h1, h2, wrap_in (show -9223372036854775808 ≤ drainsL (s.jobs.take k) q + 1 by omega) (by omega)]
      · refine W_lpI (k + 1) ?_ ?_ (by omega) (by omega)
        · simp only [go_sem, ↓reduceIte, zA, zB, zC, zD, zE, zF, reduceCtorEq, zG, zH, zI, zJ, zK, zL, zM, zN, zO, zP]
        · simp only [drains9S, go_sem, ↓reduceIte, zA, zB, zC, zD, zE, zF, reduceCtorEq, zG, zH, zI, zJ, zK, zL, zM, zN, zO, zP, wrap_succ (show k < 9223372036854775807 by omega), hs, hd, h1, h2, false_and, and_false, Int.add_zero]
    · refine W_lpI (k + 1) ?_ ?_ (by omega) (by omega)
      · simp only [go_sem, ↓reduceIte, zA, zB, zC, zD, zE, zF, reduceCtorEq, zG, zH, zI, zJ, zK, zL, zM, zN, zO, zP]
      · simp only [drains9S, go_sem, ↓reduceIte, zA, zB, zC, zD, zE, zF, reduceCtorEq, zG, zH, zI, zJ, zK, zL, zM, zN, zO, zP, wrap_succ (show k < 9223372036854775807 by omega), hs, hd, h1, false_and, and_false, Int.add_zero]
  · obtain rfl := eq_of_dec h hk
    simp only [go_sem, ↓reduceIte, zA, zB, zC, zD, zE, zF, reduceCtorEq, zG, zH, zI, zJ, zK, zL, zM, zN, zO, zP, List.take_length]
def node1 : NodeD := ⟨true, false, false, 1, 0⟩
def newD (c : ConfD) : StateD := if mayB c = true then ⟨List.replicate c.nodes.toNat node1, [], 1, 1, 0, 0⟩ else zeroState
def newS (c : ConfD) (k : Nat) : St := ⟨[(1, .ptr 0 0), (2, .ptr 1 0), (3, .ptr 2 0), (10, .int c.nodes), (11, .int k)], [some (.box 32 [.int c.nodes, .int c.queues, .int c.quota, .int c.wave, .int c.lease, .int c.retry, .int c.deadline, .int c.room, .int c.disk]), some (.box 25 [.d (.val (.slice none 0 0)), .d (.val (.slice none 0 0)), .int 0, .int 0, .int 0, .int 0]), some (.box 25 [.sl 3 k 5 0 k, .d (.val (.slice none 0 0)), .int 1, .int 1, .int 0, .int 0]), some (.dat 42 5 ((List.replicate k node1).map nodeR))]⟩
theorem new_tri (c : ConfD) : Tri Try.prog G 15 [confV c] [] (stateV (newD c)) [] := by
  refine tri_W Try.func15 (by decide) irOk15 (Nat.le_of_ble_eq_true rfl) ?_
  simp only [ir15, go_sem, ↓reduceIte, zA, zB, zC, zD, zE, zF, reduceCtorEq, zG, zH, zI, zJ, zK, zL, zM, zN, zO, zP]
  refine W_calld (may_tri c) rfl rfl rfl rfl ?_; simp only [go_sem, ↓reduceIte, zA, zB, zC, zD, zE, zF, reduceCtorEq, zG, zH, zI, zJ, zK, zL, zM, zN, zO, zP]
  unfold newD
  cases hm : mayB c with
  | false =>
    simp only [go_sem, ↓reduceIte, zA, zB, zC, zD, zE, zF, reduceCtorEq, zG, zH, zI, zJ, zK, zL, zM, zN, zO, zP]
    exact BackZ [] rfl (by simp) (by simp [St.obj, objL, oneOr, St.get, getE, argR, argRs, rowsAt, zeroState, LV.int])
  | true =>
    have hc := mayB_nodes hm
    simp only [go_sem, ↓reduceIte, zA, zB, zC, zD, zE, zF, reduceCtorEq, zG, zH, zI, zJ, zK, zL, zM, zN, zO, zP]
    refine W_loopI [1, 2, 3, 10, 11] [.b 2 0 42 5] (fun k : Nat => (k : Int) ≤ c.nodes) (fun k => (c.nodes - k).toNat) (newS c) 0 ?_ (by omega) (fun k hk => ?_)
    · simp only [newS, go_sem, ↓reduceIte, zA, zB, zC, zD, zE, zF, reduceCtorEq, zG, zH, zI, zJ, zK, zL, zM, zN, zO, zP, List.replicate_zero, Int.natCast_zero]
    simp only [newS, go_sem, ↓reduceIte, zA, zB, zC, zD, zE, zF, reduceCtorEq, zG, zH, zI, zJ, zK, zL, zM, zN, zO, zP]
    refine WC_split (fun h => ?_) (fun h => ?_) <;> simp only [h, go_sem, ↓reduceIte, zA, zB, zC, zD, zE, zF, reduceCtorEq, zG, zH, zI, zJ, zK, zL, zM, zN, zO, zP] <;> (try simp only [beq_iff_eq, beq_eq_false_iff_ne, bne_iff_ne, ne_eq, decide_eq_true_eq, decide_eq_false_iff_not, Bool.not_true, Bool.not_false, Bool.not_eq_true, Bool.not_eq_false, bne_eq_false_iff_eq, Decidable.not_not] at h)
    · have hbd : (k + 1) * 24 ≤ 70368744177664 := by omega
      simp only [List.length_append, List.length_replicate, hbd, go_sem, ↓reduceIte, zA, zB, zC, zD, zE, zF, reduceCtorEq, zG, zH, zI, zJ, zK, zL, zM, zN, zO, zP]
      refine W_lpI (k + 1) ?_ ?_ (by omega) (by omega)
      · simp only [go_sem, ↓reduceIte, zA, zB, zC, zD, zE, zF, reduceCtorEq, zG, zH, zI, zJ, zK, zL, zM, zN, zO, zP]
      · simp only [newS, go_sem, ↓reduceIte, zA, zB, zC, zD, zE, zF, reduceCtorEq, zG, zH, zI, zJ, zK, zL, zM, zN, zO, zP, wrap_succ (show k < 9223372036854775807 by omega), List.replicate_succ', List.map_append]
        rfl
    · obtain rfl : k = c.nodes.toNat := by omega
      exact BackZ [3] rfl (by simp [St.obj, objL]) (by simp [St.obj, objL, oneOr, St.get, getE, argR, argRs, rowsAt, LV.int, List.take_of_length_le])
def new9S (c : ConfD) (k : Nat) : St := ⟨[(1, .ptr 0 0), (2, .ptr 1 0), (3, .ptr 2 0), (4, .int k)], [some (.box 32 [.int c.nodes, .int c.queues, .int c.quota, .int c.wave, .int c.lease, .int c.retry, .int c.deadline, .int c.room, .int c.disk]), some (.box 25 [.d (.val (.slice none 0 0)), .d (.val (.slice none 0 0)), .int 0, .int 0, .int 0, .int 0]), some (.box 25 [.sl 3 k 5 0 k, .d (.val (.slice none 0 0)), .int 0, .int 0, .int 0, .int 0]), some (.dat 42 5 ((List.replicate k node1).map nodeR))]⟩
end Dv
