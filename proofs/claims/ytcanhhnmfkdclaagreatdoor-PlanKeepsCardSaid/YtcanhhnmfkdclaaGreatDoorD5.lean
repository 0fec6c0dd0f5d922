/- The wave's contracts. -/
import Derived.Test.YtcanhhnmfkdclaaGreatDoorD4
set_option linter.unusedVariables false
set_option linter.unusedSimpArgs false
namespace Dv
open Go Go.Proofs
open Nat renaming reduceEqDiff → zA, reduceAdd → zB, reduceSub → zC, reduceMul → zD, reduceLT → zE, reduceLeDiff → zF
open Int renaming reduceLE → zG, reduceLT → zH, reduceToNat → zI, reduceBEq → zJ, reduceBNe → zK, reduceEq → zL, reduceAdd → zM, reduceSub → zN, reduceMul → zO, reduceNeg → zP
attribute [local go_sem] argEnv W_nil W_seq W_skip W_ret W_exit W_scope W_block W_blk W_reg W_regD W_cond WC_t WC_f WC_any Wx_c Wx_ops Wx_lp Wx_blk W_ops_nil W_opsD_q W_guard W_guardD WG_tt WG_ff WG_tf WG_ft WG_u WGD_tt WGD_ff WGD_tf WGD_ft WGD_u WE_some WED_some W_more W_mv W_pick W_new W_box W_build W_bsl W_ld1 W_ldn W_st W_nck W_bin W_eqb W_not W_cvt W_fad W_fld1 W_fldn W_ixa W_ixr W_ix1 W_ixs W_len W_lens W_mkf W_ext W_app W_min W_max W_isnp W_isns W_eqs W_neg W_ixn W_sli W_sls WD_more WD_mv WD_pick WD_new WD_box WD_build WD_bsl WD_ld1 WD_ldn WD_st WD_nck WD_bin WD_eqb WD_not WD_cvt WD_fad WD_fld1 WD_fldn WD_ixa WD_ixr WD_ix1 WD_ixs WD_len WD_lens WD_mkf WD_ext WD_app WD_min WD_max WD_isnp WD_isns WD_eqs WD_neg WD_ixn WD_sli WD_sls effF effM bytesOf Opd.ev getE putE binV LV.int LV.bool LV.undef Go.undef LV.cells LV.toD LV.toDs splice fillL rowsOf boxOf srcRows updL objL Eff.owned nwp St.get St.obj St.put Value.oneCell' Ends adopt Ad.ap isNil St.keep St.okKeep okObj idl idlL idlO RVs.of RV.of oneOr Ends0 EndsO_iff frzs rn rnL rnO piOf eqCells eqV boundV Option.map_some Option.map_none List.append_nil List.nil_append List.cons_append List.map_nil List.map_cons List.length_nil List.length_cons List.set_cons_zero List.set_cons_succ List.take_succ_cons List.take_zero List.take_nil List.drop_succ_cons List.drop_zero List.drop_nil List.getElem?_cons_zero List.getElem?_cons_succ List.getElem?_nil List.isEmpty_nil List.isEmpty_cons List.all_cons List.all_nil List.isEmpty_nil cond_true cond_false Bool.true_and Bool.false_and Bool.and_true Bool.and_false Bool.not_true Bool.not_false Bool.or_true Bool.true_or Bool.or_false Bool.false_or true_and and_true true_or or_true Option.some.injEq LV.d.injEq DV.val.injEq Value.bool.injEq Value.int.injEq decide_true decide_false and_self Nat.zero_add Nat.add_zero if_true if_false Int.toNat_zero beq_self_eq_true Nat.zero_lt_succ Int.toNat_natCast Int.natCast_nonneg List.length_map i64 bl List.zip_cons_cons List.zip_nil_left List.zip_nil_right nwp confV stateV nodeV jobV nodesV jobsV opV msgV nodeR jobR opR msgR zeroOp zeroMsg msgsV
variable {G : Nat → Option (List DV)}

/-- wave.behind -/
def ir57 : Nat × C × List RV := (19,
(.seq (.reg [⟨some 2,.box 27 (.t 0),none,[]⟩,
 ⟨some 3,.box 49 (.t 1),none,[]⟩,
 ⟨some 4,.mv (.c (.val (.bool false))),none,[]⟩])
 (.seq (.regD [⟨some 5,.fad 0 (.t 3),none,[]⟩,
 ⟨some 6,.ld1 (.t 5),none,[0]⟩,
 ⟨some 7,.mv (.t 6),none,[1,0]⟩,
 ⟨some 8,.fad 2 (.t 3),(some (7,true)),[2,1,0]⟩,
 ⟨some 9,.ld1 (.t 8),(some (7,true)),[3,2,1,0]⟩,
 ⟨some 10,.not (.t 9),(some (7,true)),[4,3,2,1,0]⟩,
 ⟨some 11,.pick (.t 7) (.t 10) (.c (.val (.bool false))),none,[2,1,0,5,4,3]⟩,
 ⟨some 12,.mv (.t 11),none,[6,2,1,0,5,4,3]⟩,
 ⟨some 13,.fad 3 (.t 3),(some (12,true)),[7,6,2,1,0,5,4,3]⟩,
 ⟨some 14,.ld1 (.t 13),(some (12,true)),[8,7,6,2,1,0,5,4,3]⟩,
 ⟨some 15,.ldn 6 (.t 2),(some (12,true)),[7,6,2,1,0,5,4,3]⟩,
 ⟨some 16,.call (.f 78) [(.t 15)],(some (12,true)),[10,7,6,2,1,0,5,4,3]⟩,
 ⟨some 17,.bin .neq (.t 14) (.t 16),(some (12,true)),[9,8,7,6,2,1,0,5,4,3,11,10]⟩,
 ⟨some 18,.pick (.t 12) (.t 17) (.c (.val (.bool false))),none,[7,6,2,1,0,5,4,3,12,9,8,11,10]⟩,
 ⟨some 4,.mv (.t 18),none,[13,7,6,2,1,0,5,4,3,12,9,8,11,10]⟩])
 .ret)),
[(.t 4)])
theorem irOk57 : convFn Tryz.prog Tryz.f57 = some ir57 := by kernel_rfl
/-- wave.Alone -/
def ir58 : Nat × C × List RV := (44,
(.seq (.reg [⟨some 2,.box 27 (.t 0),none,[]⟩,
 ⟨some 4,.mv (.c (.val (.bool false))),none,[]⟩])
 (.seq (.seq (.reg [⟨some 6,.mv (.t 1),none,[]⟩,
 ⟨some 7,.bin .lss (.t 6) (.c (.val (.int .i64 0))),none,[]⟩,
 ⟨some 8,.mv (.t 7),none,[]⟩,
 ⟨some 9,.mv (.t 1),(some (8,false)),[]⟩,
 ⟨some 10,.fad 0 (.t 2),(some (8,false)),[]⟩,
 ⟨some 11,.ld1 (.t 10),(some (8,false)),[]⟩,
 ⟨some 12,.len (.t 11),(some (8,false)),[]⟩,
 ⟨some 13,.bin .geq (.t 9) (.t 12),(some (8,false)),[]⟩,
 ⟨some 14,.pick (.t 8) (.c (.val (.bool true))) (.t 13),none,[]⟩,
 ⟨some 15,.mv (.t 14),none,[]⟩,
 ⟨some 16,.fad 0 (.t 2),(some (15,false)),[]⟩,
 ⟨some 17,.ld1 (.t 16),(some (15,false)),[]⟩,
 ⟨some 18,.mv (.t 1),(some (15,false)),[]⟩,
 ⟨some 19,.ixa 5 (.t 17) (.t 18),(some (15,false)),[]⟩,
 ⟨some 20,.fad 4 (.t 19),(some (15,false)),[]⟩,
 ⟨some 21,.ld1 (.t 20),(some (15,false)),[]⟩,
 ⟨some 22,.bin .eql (.t 21) (.c (.val (.int .i64 0))),(some (15,false)),[]⟩,
 ⟨some 23,.pick (.t 15) (.c (.val (.bool true))) (.t 22),none,[]⟩])
 (.cond (.t 23) (.seq (.reg [⟨some 4,.mv (.c (.val (.bool false))),none,[]⟩])
 .ret)
 .skip))
 (.seq (.regD [⟨some 24,.fad 1 (.t 2),none,[]⟩,
 ⟨some 25,.ld1 (.t 24),none,[0]⟩,
 ⟨some 26,.fad 0 (.t 2),none,[]⟩,
 ⟨some 27,.ld1 (.t 26),none,[2]⟩,
 ⟨some 28,.mv (.t 1),none,[]⟩,
 ⟨some 29,.ixa 5 (.t 27) (.t 28),none,[3,2,4]⟩,
 ⟨some 30,.fad 4 (.t 29),none,[5,3,2,4]⟩,
 ⟨some 31,.ld1 (.t 30),none,[6,5,3,2,4]⟩,
 ⟨some 32,.bin .sub (.t 31) (.c (.val (.int .i64 1))),none,[7,6,5,3,2,4]⟩,
 ⟨some 33,.ixa 12 (.t 25) (.t 32),none,[1,0,8,7,6,5,3,2,4]⟩,
 ⟨some 34,.fad 5 (.t 33),none,[9,1,0,8,7,6,5,3,2,4]⟩,
 ⟨some 35,.ld1 (.t 34),none,[10,9,1,0,8,7,6,5,3,2,4]⟩,
 ⟨some 5,.mv (.t 35),none,[11,10,9,1,0,8,7,6,5,3,2,4]⟩])
 (.seq (.reg [⟨some 36,.mv (.t 5),none,[]⟩,
 ⟨some 37,.bin .neq (.t 36) (.c (.val (.int .i64 0))),none,[]⟩,
 ⟨some 38,.mv (.t 37),none,[]⟩,
 ⟨some 39,.mv (.t 5),(some (38,true)),[]⟩,
 ⟨some 40,.ldn 6 (.t 2),(some (38,true)),[]⟩,
 ⟨some 41,.call (.f 78) [(.t 40)],(some (38,true)),[]⟩,
 ⟨some 42,.bin .neq (.t 39) (.t 41),(some (38,true)),[]⟩,
 ⟨some 43,.pick (.t 38) (.t 42) (.c (.val (.bool false))),none,[]⟩,
 ⟨some 4,.mv (.t 43),none,[]⟩])
 .ret)))),
[(.t 4)])
theorem irOk58 : convFn Tryz.prog Tryz.f58 = some ir58 := by kernel_rfl
/-- wave.Wave -/
def ir60 : Nat × C × List RV := (19,
(.seq (.reg [⟨some 1,.box 27 (.t 0),none,[]⟩,
 ⟨some 2,.mv (.c (.val (.int .i64 0))),none,[]⟩])
 (.seq (.reg [⟨some 3,.mv (.c (.val (.int .i64 0))),none,[]⟩])
 (.seq (.seq (.reg [⟨some 6,.fad 0 (.t 1),none,[]⟩,
 ⟨some 7,.ld1 (.t 6),none,[]⟩,
 ⟨some 8,.len (.t 7),none,[]⟩,
 ⟨some 9,.mv (.c (.val (.int .i64 0))),none,[]⟩])
 (.block 0 (.loop (.seq (.reg [⟨some 10,.bin .lss (.t 9) (.t 8),none,[]⟩])
 (.seq (.cond (.t 10) .skip
 (.exit 0))
 (.seq (.block 1 (.seq (.reg [⟨some 11,.ixa 5 (.t 7) (.t 9),none,[]⟩,
 ⟨some 12,.ldn 5 (.t 11),none,[]⟩,
 ⟨some 5,.new 49 [(.val (.bool false)),(.val (.bool false)),(.val (.bool false)),(.val (.int .i64 0)),(.val (.int .i64 0))],none,[]⟩,
 ⟨none,.st 5 (.t 5) (.t 12),none,[]⟩])
 (.seq (.reg [⟨some 13,.fad 1 (.t 5),none,[]⟩,
 ⟨some 14,.ld1 (.t 13),none,[]⟩])
 (.cond (.t 14) (.reg [⟨some 15,.mv (.t 3),none,[]⟩,
 ⟨some 16,.bin .add (.t 15) (.c (.val (.int .i64 1))),none,[]⟩,
 ⟨some 3,.mv (.t 16),none,[]⟩])
 .skip))))
 (.reg [⟨some 17,.bin .add (.t 9) (.c (.val (.int .i64 1))),none,[]⟩,
 ⟨some 9,.mv (.t 17),none,[]⟩])))))))
 (.seq (.reg [⟨some 18,.mv (.t 3),none,[]⟩,
 ⟨some 2,.mv (.t 18),none,[]⟩])
 .ret)))),
[(.t 2)])
theorem irOk60 : convFn Tryz.prog Tryz.f60 = some ir60 := by kernel_rfl
/-- wave.view.open -/
def ir37 : Nat × C × List RV := (41,
(.seq (.reg [⟨some 2,.box 70 (.t 0),none,[]⟩,
 ⟨some 4,.new 32 [(.val (.int .i64 0)),(.val (.int .i64 0)),(.val (.int .i64 0)),(.val (.int .i64 0)),(.val (.int .i64 0)),(.val (.int .i64 0)),(.val (.int .i64 0))],none,[]⟩,
 ⟨some 5,.mv (.c (.val (.bool false))),none,[]⟩])
 (.seq (.reg [⟨some 8,.fad 9 (.t 2),none,[]⟩,
 ⟨some 9,.fad 0 (.t 8),none,[]⟩,
 ⟨some 10,.ld1 (.t 9),none,[]⟩,
 ⟨some 11,.mv (.t 1),none,[]⟩,
 ⟨some 12,.ixa 5 (.t 10) (.t 11),none,[]⟩,
 ⟨some 13,.ldn 5 (.t 12),none,[]⟩,
 ⟨some 6,.new 49 [(.val (.bool false)),(.val (.bool false)),(.val (.bool false)),(.val (.int .i64 0)),(.val (.int .i64 0))],none,[]⟩,
 ⟨none,.st 5 (.t 6) (.t 13),none,[]⟩])
 (.seq (.reg [⟨some 14,.fad 1 (.t 6),none,[]⟩,
 ⟨some 15,.ld1 (.t 14),none,[]⟩,
 ⟨some 16,.mv (.t 15),none,[]⟩,
 ⟨some 17,.fad 0 (.t 6),(some (16,true)),[]⟩,
 ⟨some 18,.ld1 (.t 17),(some (16,true)),[]⟩,
 ⟨some 19,.pick (.t 16) (.t 18) (.c (.val (.bool false))),none,[]⟩,
 ⟨some 20,.mv (.t 19),none,[]⟩,
 ⟨some 21,.fad 2 (.t 6),(some (20,true)),[]⟩,
 ⟨some 22,.ld1 (.t 21),(some (20,true)),[]⟩,
 ⟨some 23,.not (.t 22),(some (20,true)),[]⟩,
 ⟨some 24,.pick (.t 20) (.t 23) (.c (.val (.bool false))),none,[]⟩,
 ⟨some 25,.mv (.t 24),none,[]⟩,
 ⟨some 26,.fad 9 (.t 2),(some (25,true)),[]⟩,
 ⟨some 27,.ldn 6 (.t 26),(some (25,true)),[]⟩,
 ⟨some 28,.ldn 5 (.t 6),(some (25,true)),[]⟩,
 ⟨some 29,.call (.f 57) [(.t 27),(.t 28)],(some (25,true)),[]⟩,
 ⟨some 30,.not (.t 29),(some (25,true)),[]⟩,
 ⟨some 31,.mv (.t 30),(some (25,true)),[]⟩,
 ⟨some 32,.fad 9 (.t 2),(some (31,false)),[]⟩,
 ⟨some 33,.ldn 6 (.t 32),(some (31,false)),[]⟩,
 ⟨some 34,.mv (.t 1),(some (31,false)),[]⟩,
 ⟨some 35,.call (.f 58) [(.t 33),(.t 34)],(some (31,false)),[]⟩,
 ⟨some 36,.pick (.t 31) (.c (.val (.bool true))) (.t 35),(some (25,true)),[]⟩,
 ⟨some 37,.pick (.t 25) (.t 36) (.c (.val (.bool false))),none,[]⟩,
 ⟨some 7,.mv (.t 37),none,[]⟩])
 (.seq (.reg [⟨some 38,.mv (.t 1),none,[]⟩,
 ⟨some 39,.build [(.val (.int .i64 0)),(.val (.int .i64 0)),(.val (.int .i64 0)),(.val (.int .i64 0)),(.val (.int .i64 0)),(.val (.int .i64 0)),(.val (.int .i64 0))] [(0,1,(.c (.val (.int .i64 17)))),(1,1,(.t 38))],none,[]⟩,
 ⟨some 40,.mv (.t 7),none,[]⟩,
 ⟨none,.st 7 (.t 4) (.t 39),none,[]⟩,
 ⟨some 5,.mv (.t 40),none,[]⟩])
 .ret)))),
[(.cn 4 7),(.t 5)])
theorem irOk37 : convFn Tryz.prog Tryz.f37 = some ir37 := by kernel_rfl
/-- wave.view.clear -/
def ir38 : Nat × C × List RV := (93,
(.seq (.reg [⟨some 2,.box 70 (.t 0),none,[]⟩,
 ⟨some 4,.new 32 [(.val (.int .i64 0)),(.val (.int .i64 0)),(.val (.int .i64 0)),(.val (.int .i64 0)),(.val (.int .i64 0)),(.val (.int .i64 0)),(.val (.int .i64 0))],none,[]⟩,
 ⟨some 5,.mv (.c (.val (.bool false))),none,[]⟩])
 (.seq (.reg [⟨some 8,.fad 9 (.t 2),none,[]⟩,
 ⟨some 9,.fad 0 (.t 8),none,[]⟩,
 ⟨some 10,.ld1 (.t 9),none,[]⟩,
 ⟨some 11,.mv (.t 1),none,[]⟩,
 ⟨some 12,.ixa 5 (.t 10) (.t 11),none,[]⟩,
 ⟨some 13,.ldn 5 (.t 12),none,[]⟩,
 ⟨some 6,.new 49 [(.val (.bool false)),(.val (.bool false)),(.val (.bool false)),(.val (.int .i64 0)),(.val (.int .i64 0))],none,[]⟩,
 ⟨none,.st 5 (.t 6) (.t 13),none,[]⟩])
 (.seq (.seq (.reg [⟨some 14,.fad 1 (.t 6),none,[]⟩,
 ⟨some 15,.ld1 (.t 14),none,[]⟩,
 ⟨some 16,.not (.t 15),none,[]⟩,
 ⟨some 17,.mv (.t 16),none,[]⟩,
 ⟨some 18,.fad 9 (.t 2),(some (17,false)),[]⟩,
 ⟨some 19,.ldn 6 (.t 18),(some (17,false)),[]⟩,
 ⟨some 20,.ldn 5 (.t 6),(some (17,false)),[]⟩,
 ⟨some 21,.call (.f 57) [(.t 19),(.t 20)],(some (17,false)),[]⟩,
 ⟨some 22,.not (.t 21),(some (17,false)),[]⟩,
 ⟨some 23,.pick (.t 17) (.c (.val (.bool true))) (.t 22),none,[]⟩,
 ⟨some 24,.mv (.t 23),none,[]⟩,
 ⟨some 25,.fad 9 (.t 2),(some (24,false)),[]⟩,
 ⟨some 26,.ldn 6 (.t 25),(some (24,false)),[]⟩,
 ⟨some 27,.mv (.t 1),(some (24,false)),[]⟩,
 ⟨some 28,.call (.f 58) [(.t 26),(.t 27)],(some (24,false)),[]⟩,
 ⟨some 29,.pick (.t 24) (.c (.val (.bool true))) (.t 28),none,[]⟩])
 (.cond (.t 29) (.seq (.reg [⟨some 30,.build [(.val (.int .i64 0)),(.val (.int .i64 0)),(.val (.int .i64 0)),(.val (.int .i64 0)),(.val (.int .i64 0)),(.val (.int .i64 0)),(.val (.int .i64 0))] [],none,[]⟩,
 ⟨none,.st 7 (.t 4) (.t 30),none,[]⟩,
 ⟨some 5,.mv (.c (.val (.bool false))),none,[]⟩])
 .ret)
 .skip))
 (.seq (.seq (.reg [⟨some 31,.fad 4 (.t 6),none,[]⟩,
 ⟨some 32,.ld1 (.t 31),none,[]⟩,
 ⟨some 33,.bin .eql (.t 32) (.c (.val (.int .i64 0))),none,[]⟩])
 (.cond (.t 33) (.seq (.reg [⟨some 34,.mv (.t 1),none,[]⟩,
 ⟨some 35,.build [(.val (.int .i64 0)),(.val (.int .i64 0)),(.val (.int .i64 0)),(.val (.int .i64 0)),(.val (.int .i64 0)),(.val (.int .i64 0)),(.val (.int .i64 0))] [(0,1,(.c (.val (.int .i64 18)))),(1,1,(.t 34))],none,[]⟩,
 ⟨none,.st 7 (.t 4) (.t 35),none,[]⟩,
 ⟨some 5,.mv (.c (.val (.bool true))),none,[]⟩])
 .ret)
 .skip))
 (.seq (.reg [⟨some 36,.fad 9 (.t 2),none,[]⟩,
 ⟨some 37,.fad 1 (.t 36),none,[]⟩,
 ⟨some 38,.ld1 (.t 37),none,[]⟩,
 ⟨some 39,.fad 4 (.t 6),none,[]⟩,
 ⟨some 40,.ld1 (.t 39),none,[]⟩,
 ⟨some 41,.bin .sub (.t 40) (.c (.val (.int .i64 1))),none,[]⟩,
 ⟨some 42,.ixa 12 (.t 38) (.t 41),none,[]⟩,
 ⟨some 43,.ldn 12 (.t 42),none,[]⟩,
 ⟨some 7,.new 47 [(.val (.int .i64 0)),(.val (.int .i64 0)),(.val (.int .i64 0)),(.val (.int .i64 0)),(.val (.int .i64 0)),(.val (.int .i64 0)),(.val (.int .i64 0)),(.val (.int .i64 0)),(.val (.int .i64 0)),(.val (.int .i64 0)),(.val (.int .i64 0)),(.val (.int .i64 0))],none,[]⟩,
 ⟨none,.st 12 (.t 7) (.t 43),none,[]⟩])
 (.seq (.block 0 (.seq (.reg [⟨some 45,.fad 6 (.t 7),none,[]⟩,
 ⟨some 46,.ld1 (.t 45),none,[]⟩,
 ⟨some 47,.bin .eql (.t 46) (.c (.val (.int .i64 1))),none,[]⟩,
 ⟨some 44,.mv (.t 47),none,[]⟩])
 (.cond (.t 44) (.seq (.reg [⟨some 48,.fad 4 (.t 6),none,[]⟩,
 ⟨some 49,.ld1 (.t 48),none,[]⟩,
 ⟨some 50,.build [(.val (.int .i64 0)),(.val (.int .i64 0)),(.val (.int .i64 0)),(.val (.int .i64 0)),(.val (.int .i64 0)),(.val (.int .i64 0)),(.val (.int .i64 0))] [(0,1,(.c (.val (.int .i64 11)))),(1,1,(.t 49))],none,[]⟩,
 ⟨none,.st 7 (.t 4) (.t 50),none,[]⟩,
 ⟨some 5,.mv (.c (.val (.bool true))),none,[]⟩])
 .ret)
 (.seq (.regD [⟨some 52,.fad 6 (.t 7),none,[]⟩,
 ⟨some 53,.ld1 (.t 52),none,[0]⟩,
 ⟨some 54,.bin .eql (.t 53) (.c (.val (.int .i64 2))),none,[1,0]⟩,
 ⟨some 55,.mv (.t 54),none,[2,1,0]⟩,
 ⟨some 56,.fad 8 (.t 7),(some (55,true)),[3,2,1,0]⟩,
 ⟨some 57,.ld1 (.t 56),(some (55,true)),[4,3,2,1,0]⟩,
 ⟨some 58,.call (.f 59) [(.t 57)],(some (55,true)),[5,4,3,2,1,0]⟩,
 ⟨some 59,.fad 2 (.t 7),(some (55,true)),[3,2,1,0]⟩,
 ⟨some 60,.ld1 (.t 59),(some (55,true)),[7,3,2,1,0]⟩,
 ⟨some 61,.bin .gtr (.t 58) (.t 60),(some (55,true)),[6,5,4,3,2,1,0,8,7]⟩,
 ⟨some 62,.pick (.t 55) (.t 61) (.c (.val (.bool false))),none,[3,2,1,0,9,6,5,4,8,7]⟩,
 ⟨some 51,.mv (.t 62),none,[10,3,2,1,0,9,6,5,4,8,7]⟩])
 (.cond (.t 51) (.seq (.reg [⟨some 63,.fad 4 (.t 6),none,[]⟩,
 ⟨some 64,.ld1 (.t 63),none,[]⟩,
 ⟨some 65,.mv (.t 1),none,[]⟩,
 ⟨some 66,.build [(.val (.int .i64 0)),(.val (.int .i64 0)),(.val (.int .i64 0)),(.val (.int .i64 0)),(.val (.int .i64 0)),(.val (.int .i64 0)),(.val (.int .i64 0))] [(0,1,(.c (.val (.int .i64 20)))),(1,1,(.t 64)),(2,1,(.t 65))],none,[]⟩,
 ⟨none,.st 7 (.t 4) (.t 66),none,[]⟩,
 ⟨some 5,.mv (.c (.val (.bool true))),none,[]⟩])
 .ret)
 (.seq (.regD [⟨some 68,.fad 6 (.t 7),none,[]⟩,
 ⟨some 69,.ld1 (.t 68),none,[0]⟩,
 ⟨some 70,.bin .eql (.t 69) (.c (.val (.int .i64 2))),none,[1,0]⟩,
 ⟨some 71,.mv (.t 70),none,[2,1,0]⟩,
 ⟨some 72,.fad 9 (.t 2),(some (71,true)),[3,2,1,0]⟩,
 ⟨some 73,.ldn 6 (.t 72),(some (71,true)),[4,3,2,1,0]⟩,
 ⟨some 74,.fad 0 (.t 7),(some (71,true)),[3,2,1,0]⟩,
 ⟨some 75,.ld1 (.t 74),(some (71,true)),[6,3,2,1,0]⟩,
 ⟨some 76,.call (.f 23) [(.t 73),(.t 75)],(some (71,true)),[5,4,3,2,1,0,7,6]⟩,
 ⟨some 77,.fad 0 (.t 2),(some (71,true)),[3,2,1,0]⟩,
 ⟨some 78,.fad 2 (.t 77),(some (71,true)),[9,3,2,1,0]⟩,
 ⟨some 79,.ld1 (.t 78),(some (71,true)),[10,9,3,2,1,0]⟩,
 ⟨some 80,.bin .lss (.t 76) (.t 79),(some (71,true)),[8,5,4,3,2,1,0,7,6,11,10,9]⟩,
 ⟨some 81,.pick (.t 71) (.t 80) (.c (.val (.bool false))),none,[3,2,1,0,12,8,5,4,7,6,11,10,9]⟩,
 ⟨some 67,.mv (.t 81),none,[13,3,2,1,0,12,8,5,4,7,6,11,10,9]⟩])
 (.cond (.t 67) (.seq (.reg [⟨some 82,.fad 4 (.t 6),none,[]⟩,
 ⟨some 83,.ld1 (.t 82),none,[]⟩,
 ⟨some 84,.fad 15 (.t 2),none,[]⟩,
 ⟨some 85,.ld1 (.t 84),none,[]⟩,
 ⟨some 86,.fad 0 (.t 2),none,[]⟩,
 ⟨some 87,.fad 6 (.t 86),none,[]⟩,
 ⟨some 88,.ld1 (.t 87),none,[]⟩,
 ⟨some 89,.bin .add (.t 85) (.t 88),none,[]⟩,
 ⟨some 90,.min (.c (.val (.int .i64 1000000))) (.t 89),none,[]⟩,
 ⟨some 91,.build [(.val (.int .i64 0)),(.val (.int .i64 0)),(.val (.int .i64 0)),(.val (.int .i64 0)),(.val (.int .i64 0)),(.val (.int .i64 0)),(.val (.int .i64 0))] [(0,1,(.c (.val (.int .i64 12)))),(1,1,(.t 83)),(2,1,(.t 90))],none,[]⟩,
 ⟨none,.st 7 (.t 4) (.t 91),none,[]⟩,
 ⟨some 5,.mv (.c (.val (.bool true))),none,[]⟩])
 .ret)
 .skip)))))))
 (.seq (.reg [⟨some 92,.build [(.val (.int .i64 0)),(.val (.int .i64 0)),(.val (.int .i64 0)),(.val (.int .i64 0)),(.val (.int .i64 0)),(.val (.int .i64 0)),(.val (.int .i64 0))] [],none,[]⟩,
 ⟨none,.st 7 (.t 4) (.t 92),none,[]⟩,
 ⟨some 5,.mv (.c (.val (.bool false))),none,[]⟩])
 .ret))))))),
[(.cn 4 7),(.t 5)])
theorem irOk38 : convFn Tryz.prog Tryz.f38 = some ir38 := by kernel_rfl
/-- wave.view.shut -/
def ir39 : Nat × C × List RV := (42,
(.seq (.reg [⟨some 2,.box 70 (.t 0),none,[]⟩,
 ⟨some 4,.new 32 [(.val (.int .i64 0)),(.val (.int .i64 0)),(.val (.int .i64 0)),(.val (.int .i64 0)),(.val (.int .i64 0)),(.val (.int .i64 0)),(.val (.int .i64 0))],none,[]⟩,
 ⟨some 5,.mv (.c (.val (.bool false))),none,[]⟩])
 (.seq (.reg [⟨some 8,.fad 9 (.t 2),none,[]⟩,
 ⟨some 9,.fad 0 (.t 8),none,[]⟩,
 ⟨some 10,.ld1 (.t 9),none,[]⟩,
 ⟨some 11,.mv (.t 1),none,[]⟩,
 ⟨some 12,.ixa 5 (.t 10) (.t 11),none,[]⟩,
 ⟨some 13,.ldn 5 (.t 12),none,[]⟩,
 ⟨some 6,.new 49 [(.val (.bool false)),(.val (.bool false)),(.val (.bool false)),(.val (.int .i64 0)),(.val (.int .i64 0))],none,[]⟩,
 ⟨none,.st 5 (.t 6) (.t 13),none,[]⟩])
 (.seq (.regD [⟨some 14,.fad 1 (.t 6),none,[]⟩,
 ⟨some 15,.ld1 (.t 14),none,[0]⟩,
 ⟨some 16,.not (.t 15),none,[1,0]⟩,
 ⟨some 17,.mv (.t 16),none,[2,1,0]⟩,
 ⟨some 18,.fad 9 (.t 2),(some (17,true)),[3,2,1,0]⟩,
 ⟨some 19,.ldn 6 (.t 18),(some (17,true)),[4,3,2,1,0]⟩,
 ⟨some 20,.ldn 5 (.t 6),(some (17,true)),[3,2,1,0]⟩,
 ⟨some 21,.call (.f 57) [(.t 19),(.t 20)],(some (17,true)),[5,4,3,2,1,0,6]⟩,
 ⟨some 22,.pick (.t 17) (.t 21) (.c (.val (.bool false))),none,[3,2,1,0,7,5,4,6]⟩,
 ⟨some 23,.mv (.t 22),none,[8,3,2,1,0,7,5,4,6]⟩,
 ⟨some 24,.fad 9 (.t 2),(some (23,true)),[9,8,3,2,1,0,7,5,4,6]⟩,
 ⟨some 25,.ldn 6 (.t 24),(some (23,true)),[10,9,8,3,2,1,0,7,5,4,6]⟩,
 ⟨some 26,.mv (.t 1),(some (23,true)),[9,8,3,2,1,0,7,5,4,6]⟩,
 ⟨some 27,.call (.f 58) [(.t 25),(.t 26)],(some (23,true)),[11,10,9,8,3,2,1,0,7,5,4,6,12]⟩,
 ⟨some 28,.not (.t 27),(some (23,true)),[13,11,10,9,8,3,2,1,0,7,5,4,6,12]⟩,
 ⟨some 29,.pick (.t 23) (.t 28) (.c (.val (.bool false))),none,[9,8,3,2,1,0,7,5,4,6,14,13,11,10,12]⟩,
 ⟨some 30,.mv (.t 29),none,[15,9,8,3,2,1,0,7,5,4,6,14,13,11,10,12]⟩,
 ⟨some 31,.fad 9 (.t 2),(some (30,true)),[16,15,9,8,3,2,1,0,7,5,4,6,14,13,11,10,12]⟩,
 ⟨some 32,.ldn 6 (.t 31),(some (30,true)),[17,16,15,9,8,3,2,1,0,7,5,4,6,14,13,11,10,12]⟩,
 ⟨some 33,.call (.f 60) [(.t 32)],(some (30,true)),[18,17,16,15,9,8,3,2,1,0,7,5,4,6,14,13,11,10,12]⟩,
 ⟨some 34,.fad 0 (.t 2),(some (30,true)),[16,15,9,8,3,2,1,0,7,5,4,6,14,13,11,10,12]⟩,
 ⟨some 35,.fad 3 (.t 34),(some (30,true)),[20,16,15,9,8,3,2,1,0,7,5,4,6,14,13,11,10,12]⟩,
 ⟨some 36,.ld1 (.t 35),(some (30,true)),[21,20,16,15,9,8,3,2,1,0,7,5,4,6,14,13,11,10,12]⟩,
 ⟨some 37,.bin .lss (.t 33) (.t 36),(some (30,true)),[19,18,17,16,15,9,8,3,2,1,0,7,5,4,6,14,13,11,10,12,22,21,20]⟩,
 ⟨some 38,.pick (.t 30) (.t 37) (.c (.val (.bool false))),none,[16,15,9,8,3,2,1,0,7,5,4,6,14,13,11,10,12,23,19,18,17,22,21,20]⟩,
 ⟨some 7,.mv (.t 38),none,[24,16,15,9,8,3,2,1,0,7,5,4,6,14,13,11,10,12,23,19,18,17,22,21,20]⟩])
 (.seq (.reg [⟨some 39,.mv (.t 1),none,[]⟩,
 ⟨some 40,.build [(.val (.int .i64 0)),(.val (.int .i64 0)),(.val (.int .i64 0)),(.val (.int .i64 0)),(.val (.int .i64 0)),(.val (.int .i64 0)),(.val (.int .i64 0))] [(0,1,(.c (.val (.int .i64 16)))),(1,1,(.t 39))],none,[]⟩,
 ⟨some 41,.mv (.t 7),none,[]⟩,
 ⟨none,.st 7 (.t 4) (.t 40),none,[]⟩,
 ⟨some 5,.mv (.t 41),none,[]⟩])
 .ret)))),
[(.cn 4 7),(.t 5)])
theorem irOk39 : convFn Tryz.prog Tryz.f39 = some ir39 := by kernel_rfl
/-- wave.Next -/
def ir25 : Nat × C × List RV := (54,
(.seq (.reg [⟨some 3,.box 23 (.t 0),none,[]⟩,
 ⟨some 4,.box 27 (.t 1),none,[]⟩,
 ⟨some 6,.new 32 [(.val (.int .i64 0)),(.val (.int .i64 0)),(.val (.int .i64 0)),(.val (.int .i64 0)),(.val (.int .i64 0)),(.val (.int .i64 0)),(.val (.int .i64 0))],none,[]⟩,
 ⟨some 7,.mv (.c (.val (.bool false))),none,[]⟩])
 (.scope (.seq (.seq (.reg [⟨some 14,.fad 4 (.t 4),none,[]⟩,
 ⟨some 15,.ld1 (.t 14),none,[]⟩,
 ⟨some 16,.bin .eql (.t 15) (.c (.val (.int .i64 1))),none,[]⟩])
 (.cond (.t 16) (.seq (.reg [⟨some 17,.build [(.val (.int .i64 0)),(.val (.int .i64 0)),(.val (.int .i64 0)),(.val (.int .i64 0)),(.val (.int .i64 0)),(.val (.int .i64 0)),(.val (.int .i64 0))] [],none,[]⟩,
 ⟨none,.st 7 (.t 6) (.t 17),none,[]⟩,
 ⟨some 7,.mv (.c (.val (.bool false))),none,[]⟩])
 .ret)
 .skip))
 (.seq (.reg [⟨some 18,.ldn 9 (.t 3),none,[]⟩,
 ⟨some 19,.ldn 6 (.t 4),none,[]⟩,
 ⟨some 20,.mv (.t 2),none,[]⟩,
 ⟨some 21,.build [(.val (.int .i64 0)),(.val (.int .i64 0)),(.val (.int .i64 0)),(.val (.int .i64 0)),(.val (.int .i64 0)),(.val (.int .i64 0)),(.val (.int .i64 0)),(.val (.int .i64 0)),(.val (.int .i64 0)),(.val (.slice none 0 0)),(.val (.slice none 0 0)),(.val (.int .i64 0)),(.val (.int .i64 0)),(.val (.int .i64 0)),(.val (.int .i64 0)),(.val (.int .i64 0))] [(0,9,(.t 18)),(9,6,(.t 19)),(15,1,(.t 20))],none,[]⟩,
 ⟨some 8,.new 70 [(.val (.int .i64 0)),(.val (.int .i64 0)),(.val (.int .i64 0)),(.val (.int .i64 0)),(.val (.int .i64 0)),(.val (.int .i64 0)),(.val (.int .i64 0)),(.val (.int .i64 0)),(.val (.int .i64 0)),(.val (.slice none 0 0)),(.val (.slice none 0 0)),(.val (.int .i64 0)),(.val (.int .i64 0)),(.val (.int .i64 0)),(.val (.int .i64 0)),(.val (.int .i64 0))],none,[]⟩,
 ⟨none,.st 16 (.t 8) (.t 21),none,[]⟩])
 (.seq .skip
 (.seq (.seq (.reg [⟨some 22,.ldn 16 (.t 8),none,[]⟩,
 ⟨some 23,.mkf (.func 37) [(.t 22)] [],none,[]⟩,
 ⟨some 24,.build [(.val .nilFunc)] [(0,1,(.t 23))],none,[]⟩,
 ⟨some 25,.ldn 16 (.t 8),none,[]⟩,
 ⟨some 26,.mkf (.func 38) [(.t 25)] [],none,[]⟩,
 ⟨some 27,.build [(.val .nilFunc)] [(0,1,(.t 26))],none,[]⟩,
 ⟨some 28,.ldn 16 (.t 8),none,[]⟩,
 ⟨some 29,.mkf (.func 39) [(.t 28)] [],none,[]⟩,
 ⟨some 30,.build [(.val .nilFunc)] [(0,1,(.t 29))],none,[]⟩,
 ⟨some 31,.build [(.val .nilFunc),(.val .nilFunc),(.val .nilFunc)] [(0,1,(.t 24)),(1,1,(.t 27)),(2,1,(.t 30))],none,[]⟩,
 ⟨some 32,.mv (.c (.val (.int .i64 0))),none,[]⟩])
 (.block 0 (.loop (.seq (.reg [⟨some 33,.bin .lss (.t 32) (.c (.val (.int .i64 3))),none,[]⟩])
 (.seq (.cond (.t 33) .skip
 (.exit 0))
 (.seq (.block 1 (.seq (.reg [⟨some 34,.ixn 3 1 (.t 31) (.t 32),none,[]⟩,
 ⟨some 10,.new 73 [(.val .nilFunc)],none,[]⟩,
 ⟨none,.st 1 (.t 10) (.t 34),none,[]⟩])
 (.seq (.reg [⟨some 35,.fad 0 (.t 4),none,[]⟩,
 ⟨some 36,.ld1 (.t 35),none,[]⟩,
 ⟨some 37,.len (.t 36),none,[]⟩,
 ⟨some 38,.mv (.c (.val (.int .i64 0))),none,[]⟩])
 (.block 2 (.loop (.seq (.reg [⟨some 39,.bin .lss (.t 38) (.t 37),none,[]⟩])
 (.seq (.cond (.t 39) .skip
 (.exit 2))
 (.seq (.block 3 (.seq (.reg [⟨some 40,.mv (.t 38),none,[]⟩,
 ⟨some 11,.mv (.t 40),none,[]⟩])
 (.seq (.reg [⟨some 42,.fad 0 (.t 10),none,[]⟩,
 ⟨some 43,.ld1 (.t 42),none,[]⟩,
 ⟨some 44,.mv (.t 11),none,[]⟩,
 ⟨some 45,.call (.t 43) [(.t 44)],none,[]⟩,
 ⟨some 41,.mv (.t 45),none,[]⟩,
 ⟨some 46,.ext (.t 41) 0,none,[]⟩,
 ⟨some 47,.ext (.t 41) 1,none,[]⟩,
 ⟨some 12,.new 32 [(.val (.int .i64 0)),(.val (.int .i64 0)),(.val (.int .i64 0)),(.val (.int .i64 0)),(.val (.int .i64 0)),(.val (.int .i64 0)),(.val (.int .i64 0))],none,[]⟩,
 ⟨none,.st 7 (.t 12) (.t 46),none,[]⟩,
 ⟨some 13,.mv (.t 47),none,[]⟩])
 (.seq (.reg [⟨some 48,.mv (.t 13),none,[]⟩])
 (.cond (.t 48) (.seq (.reg [⟨some 49,.ldn 7 (.t 12),none,[]⟩,
 ⟨none,.st 7 (.t 6) (.t 49),none,[]⟩,
 ⟨some 7,.mv (.c (.val (.bool true))),none,[]⟩])
 (.exit 0))
 .skip)))))
 (.reg [⟨some 50,.bin .add (.t 38) (.c (.val (.int .i64 1))),none,[]⟩,
 ⟨some 38,.mv (.t 50),none,[]⟩])))))))))
 (.reg [⟨some 51,.bin .add (.t 32) (.c (.val (.int .i64 1))),none,[]⟩,
 ⟨some 32,.mv (.t 51),none,[]⟩])))))))
 (.seq (.reg [⟨some 52,.ldn 7 (.t 6),none,[]⟩,
 ⟨some 53,.mv (.t 7),none,[]⟩,
 ⟨none,.st 7 (.t 6) (.t 52),none,[]⟩,
 ⟨some 7,.mv (.t 53),none,[]⟩])
 .ret))))))),
[(.cn 6 7),(.t 7)])
theorem irOk25 : convFn Tryz.prog Tryz.f25 = some ir25 := by kernel_rfl


theorem behind_tri (s : StateD) (n : NodeD) : Tri Tryz.prog G 57 [stateV s, nodeV n] [] (.bool (behindB s n)) [] := by
  refine tri_W0 Tryz.func57 (by decide) irOk57 (Nat.le_of_ble_eq_true rfl) rfl ?_
  simp only [ir57,go_sem,↓reduceIte,zA,zB,zC,zD,zE,zF,reduceCtorEq,zG,zH,zI,zJ,zK,zL,zM,zN,zO,zP]
  have e : behindB s n = (n.up && (!n.moving && (n.version != meant s))) := by unfold behindB; rw [Bool.eq_iff_iff]; simp [and_assoc]
  rw [e]
  repeat' (first | ((first | with_reducible refine WG_splitn (fun h => ?_) (fun h => ?_) | refine WG_split (fun h => ?_) (fun h => ?_)) <;> simp only [h,go_sem,↓reduceIte,zA,zB,zC,zD,zE,zF,reduceCtorEq,zG,zH,zI,zJ,zK,zL,zM,zN,zO,zP]) | (refine WD_calld (meant_tri s) rfl rfl rfl rfl ?_; simp only [go_sem,↓reduceIte,zA,zB,zC,zD,zE,zF,reduceCtorEq,zG,zH,zI,zJ,zK,zL,zM,zN,zO,zP]) | (refine W_calld (meant_tri s) rfl rfl rfl rfl ?_; simp only [go_sem,↓reduceIte,zA,zB,zC,zD,zE,zF,reduceCtorEq,zG,zH,zI,zJ,zK,zL,zM,zN,zO,zP]) | ((first | with_reducible refine WGD_splitn (fun h => ?_) (fun h => ?_) | refine WGD_split (fun h => ?_) (fun h => ?_)) <;> simp only [h,go_sem,↓reduceIte,zA,zB,zC,zD,zE,zF,reduceCtorEq,zG,zH,zI,zJ,zK,zL,zM,zN,zO,zP]))

/-- a state whose nodes' jobs are there. -/
structure NJ (s : StateD) : Prop where
  nodes : s.nodes.length ≤ 1000
  jobs : s.jobs.length ≤ 1000
  job : ∀ k, k < s.nodes.length → 0 ≤ (s.nodes.getD k zeroNode).job ∧ (s.nodes.getD k zeroNode).job ≤ s.jobs.length
theorem Okay.nj {c : ConfD} {s : StateD} (h : Okay c s) : NJ s := by
  have h1 := h.conf
  have h2 := h.nodes
  have h3 := h.jobs
  exact ⟨by omega, by omega, fun k hk => ⟨(h.node hk).2.2.1, (h.node hk).2.2.2⟩⟩

theorem alone_tri (s : StateD) (i : Int) (hs : NJ s) : Tri Tryz.prog G 58 [stateV s, .int i] [] (.bool (aloneB s i)) [] := by
  refine tri_W0 Tryz.func58 (by decide) irOk58 (Nat.le_of_ble_eq_true rfl) rfl ?_
  simp only [ir58,go_sem,↓reduceIte,zA,zB,zC,zD,zE,zF,reduceCtorEq,zG,zH,zI,zJ,zK,zL,zM,zN,zO,zP]
  unfold aloneB
  cases h1 : decide (i < 0) with
  | true =>
    have h1' : i < 0 := of_decide_eq_true h1
    simp only [h1',true_or,go_sem,↓reduceIte,zA,zB,zC,zD,zE,zF,reduceCtorEq,zG,zH,zI,zJ,zK,zL,zM,zN,zO,zP]
  | false =>
    have h1' : ¬ i < 0 := of_decide_eq_false h1
    simp only [h1',false_or,go_sem,↓reduceIte,zA,zB,zC,zD,zE,zF,reduceCtorEq,zG,zH,zI,zJ,zK,zL,zM,zN,zO,zP]
    cases h2 : decide (i ≥ (s.nodes.length : Int)) with
    | true =>
      have h2' : (s.nodes.length : Int) ≤ i := of_decide_eq_true h2
      simp only [h2',go_sem,↓reduceIte,zA,zB,zC,zD,zE,zF,reduceCtorEq,zG,zH,zI,zJ,zK,zL,zM,zN,zO,zP]
    | false =>
      have h2' : ¬ (s.nodes.length : Int) ≤ i := of_decide_eq_false h2
      have h0 : 0 ≤ i := by omega
      have hk : i.toNat < s.nodes.length := by omega
      have hg := get_mapD (f := nodeR) zeroNode hk
      have hjb := hs.job _ hk
      have hjl := hs.jobs
      unfold aloneN pinOf
      generalize s.nodes.getD i.toNat zeroNode = n at *
      simp only [h0,h2',hg,go_sem,↓reduceIte,zA,zB,zC,zD,zE,zF,reduceCtorEq,zG,zH,zI,zJ,zK,zL,zM,zN,zO,zP]
      cases h3 : (n.job == 0) with
      | true =>
        have h3' : n.job = 0 := by simpa using h3
        simp only [h3',go_sem,↓reduceIte,zA,zB,zC,zD,zE,zF,reduceCtorEq,zG,zH,zI,zJ,zK,zL,zM,zN,zO,zP]
      | false =>
        have h3' : n.job ≠ 0 := by simpa using h3
        have hw : IntKind.i64.wrap (n.job - 1) = n.job - 1 := wrap_in (by omega) (by omega)
        have hg2 := get_mapD (f := jobR) zeroJob (show (n.job - 1).toNat < s.jobs.length by omega)
        have h4 : 0 ≤ n.job - 1 := by omega
        generalize s.jobs.getD (n.job - 1).toNat zeroJob = j at *
        have e : (decide (j.pin ≠ 0) && decide (j.pin ≠ meant s)) = ((j.pin != 0) && (j.pin != meant s)) := by rw [Bool.eq_iff_iff]; simp
        simp only [e,h3',hw,hg,hg2,h0,h4,go_sem,↓reduceIte,zA,zB,zC,zD,zE,zF,reduceCtorEq,zG,zH,zI,zJ,zK,zL,zM,zN,zO,zP]
        repeat' (first | ((first | with_reducible refine WG_splitn (fun h => ?_) (fun h => ?_) | refine WG_split (fun h => ?_) (fun h => ?_)) <;> simp only [h,go_sem,↓reduceIte,zA,zB,zC,zD,zE,zF,reduceCtorEq,zG,zH,zI,zJ,zK,zL,zM,zN,zO,zP]) | (refine W_calld (meant_tri s) rfl rfl rfl rfl ?_; simp only [go_sem,↓reduceIte,zA,zB,zC,zD,zE,zF,reduceCtorEq,zG,zH,zI,zJ,zK,zL,zM,zN,zO,zP]))

def waveS (s : StateD) (k : Nat) : St := ⟨[(3, .int (waveL (s.nodes.take k))), (7, nodesV s.nodes), (8, .int s.nodes.length), (9, .int k)], [some (.box 27 [nodesV s.nodes, jobsV s.jobs, .int s.goal, .int s.prior, .int s.mode, .int s.term])]⟩
theorem wave_tri (s : StateD) (hn : s.nodes.length ≤ 1000) : Tri Tryz.prog G 60 [stateV s] [] (.int (waveL s.nodes)) [] := by
  refine tri_W0 Tryz.func60 (by decide) irOk60 (Nat.le_of_ble_eq_true rfl) rfl ?_
  simp only [ir60,go_sem,↓reduceIte,zA,zB,zC,zD,zE,zF,reduceCtorEq,zG,zH,zI,zJ,zK,zL,zM,zN,zO,zP]
  refine W_loopI [3, 7, 8, 9] [] (fun k : Nat => k ≤ s.nodes.length) (fun k => s.nodes.length - k) (waveS s) 0 ?_ (Nat.zero_le _) (fun k hk => ?_)
  · simp only [waveS,go_sem,↓reduceIte,zA,zB,zC,zD,zE,zF,reduceCtorEq,zG,zH,zI,zJ,zK,zL,zM,zN,zO,zP,List.take_zero,waveL,List.filter_nil,Int.natCast_zero]
  simp only [waveS,go_sem,↓reduceIte,zA,zB,zC,zD,zE,zF,reduceCtorEq,zG,zH,zI,zJ,zK,zL,zM,zN,zO,zP]
  refine WC_split (fun h => ?_) (fun h => ?_)
  · have h := lt_of_dec h
    have hb := waveL_le (s.nodes.take k)
    rw [List.length_take] at hb
    have hs : s.nodes.take (k + 1) = s.nodes.take k ++ [s.nodes[k]] := by rw [List.take_succ_eq_append_getElem h]
    have hd := waveL_snoc (s.nodes.take k) s.nodes[k]
    simp only [get_map h,go_sem,↓reduceIte,zA,zB,zC,zD,zE,zF,reduceCtorEq,zG,zH,zI,zJ,zK,zL,zM,zN,zO,zP]
    cases hc : s.nodes[k].cordon <;> simp only [go_sem,↓reduceIte,zA,zB,zC,zD,zE,zF,reduceCtorEq,zG,zH,zI,zJ,zK,zL,zM,zN,zO,zP]
    · refine W_lpI (k + 1) ?_ ?_ h (by omega)
      · simp only [go_sem,↓reduceIte,zA,zB,zC,zD,zE,zF,reduceCtorEq,zG,zH,zI,zJ,zK,zL,zM,zN,zO,zP]
      · simp only [waveS,go_sem,↓reduceIte,zA,zB,zC,zD,zE,zF,reduceCtorEq,zG,zH,zI,zJ,zK,zL,zM,zN,zO,zP,wrap_succ (show k < 9223372036854775807 by omega),hs,hd,hc,Bool.false_eq_true,Int.add_zero]
    · refine W_lpI (k + 1) ?_ ?_ h (by omega)
      · simp only [go_sem,↓reduceIte,zA,zB,zC,zD,zE,zF,reduceCtorEq,zG,zH,zI,zJ,zK,zL,zM,zN,zO,zP]
      · simp only [waveS,go_sem,↓reduceIte,zA,zB,zC,zD,zE,zF,reduceCtorEq,zG,zH,zI,zJ,zK,zL,zM,zN,zO,zP,wrap_succ (show k < 9223372036854775807 by omega),hs,hd,hc,wrap_in (show -9223372036854775808 ≤ waveL (s.nodes.take k) + 1 by omega) (by omega)]
  · obtain rfl := eq_of_dec h hk
    simp only [go_sem,↓reduceIte,zA,zB,zC,zD,zE,zF,reduceCtorEq,zG,zH,zI,zJ,zK,zL,zM,zN,zO,zP,List.take_length]

def viewV (c : ConfD) (s : StateD) (now : Int) : LV := .agg [.int c.nodes, .int c.queues, .int c.quota, .int c.wave, .int c.lease, .int c.retry, .int c.deadline, .int c.room, .int c.disk, nodesV s.nodes, jobsV s.jobs, .int s.goal, .int s.prior, .int s.mode, .int s.term, .int now]

theorem open_tri (c : ConfD) (s : StateD) (now : Int) (k : Nat) (hs : NJ s) (hk : k < s.nodes.length) : Tri Tryz.prog G 37 [viewV c s now, .int k] [] (.tup [opV ⟨17, k, 0, 0, 0, 0, 0⟩, .bool (openB s (s.nodes.getD k zeroNode))]) [] := by
  refine tri_W0 Tryz.func37 (by decide) irOk37 (Nat.le_of_ble_eq_true rfl) rfl ?_
  have hg := get_mapD (f := nodeR) zeroNode hk
  have ha := alone_of s k hk
  generalize s.nodes.getD k zeroNode = n at *
  obtain ⟨up, co, mo, ve, jo⟩ := n
  unfold openB
  simp only [ir37,viewV,hg,go_sem,↓reduceIte,zA,zB,zC,zD,zE,zF,reduceCtorEq,zG,zH,zI,zJ,zK,zL,zM,zN,zO,zP]
  cases co <;> simp only [go_sem,↓reduceIte,zA,zB,zC,zD,zE,zF,reduceCtorEq,zG,zH,zI,zJ,zK,zL,zM,zN,zO,zP]
  cases up <;> simp only [go_sem,↓reduceIte,zA,zB,zC,zD,zE,zF,reduceCtorEq,zG,zH,zI,zJ,zK,zL,zM,zN,zO,zP]
  cases mo <;> simp only [go_sem,↓reduceIte,zA,zB,zC,zD,zE,zF,reduceCtorEq,zG,zH,zI,zJ,zK,zL,zM,zN,zO,zP]
  refine W_calld (behind_tri s ⟨true, true, false, ve, jo⟩) rfl rfl rfl rfl ?_; simp only [go_sem,↓reduceIte,zA,zB,zC,zD,zE,zF,reduceCtorEq,zG,zH,zI,zJ,zK,zL,zM,zN,zO,zP]
  cases hb : behindB s ⟨true, true, false, ve, jo⟩ <;> simp only [go_sem,↓reduceIte,zA,zB,zC,zD,zE,zF,reduceCtorEq,zG,zH,zI,zJ,zK,zL,zM,zN,zO,zP]
  refine W_calld (alone_tri s k hs) rfl rfl rfl rfl ?_; simp only [go_sem,↓reduceIte,zA,zB,zC,zD,zE,zF,reduceCtorEq,zG,zH,zI,zJ,zK,zL,zM,zN,zO,zP]
  rw [ha]

def optV (o : Option OpD) : LV := .tup [opV (o.getD zeroOp), .bool o.isSome]
theorem clear_tri (c : ConfD) (s : StateD) (now : Int) (k : Nat) (hs : NJ s) (hk : k < s.nodes.length) (h1 : -1000000000 ≤ now + c.deadline ∧ now + c.deadline ≤ 1000000000) : Tri Tryz.prog G 38 [viewV c s now, .int k] [] (optV (clearO c s now (s.nodes.getD k zeroNode) k)) [] := by
  refine tri_W0 Tryz.func38 (by decide) irOk38 (Nat.le_of_ble_eq_true rfl) rfl ?_
  have hg := get_mapD (f := nodeR) zeroNode hk
  have ha := alone_of s k hk
  have hjb := hs.job _ hk
  have hjl := hs.jobs
  have hwd : IntKind.i64.wrap (now + c.deadline) = now + c.deadline := wrap_in (by omega) (by omega)
  generalize s.nodes.getD k zeroNode = n at *
  obtain ⟨up, co, mo, ve, jo⟩ := n
  unfold clearO
  simp only [ir38,viewV,hg,go_sem,↓reduceIte,zA,zB,zC,zD,zE,zF,reduceCtorEq,zG,zH,zI,zJ,zK,zL,zM,zN,zO,zP]
  cases co with
  | false => simp only [go_sem,↓reduceIte,zA,zB,zC,zD,zE,zF,reduceCtorEq,zG,zH,zI,zJ,zK,zL,zM,zN,zO,zP,optV,Option.getD_none,Option.isSome_none]
  | true =>
  simp only [Bool.true_eq_false,false_or,go_sem,↓reduceIte,zA,zB,zC,zD,zE,zF,reduceCtorEq,zG,zH,zI,zJ,zK,zL,zM,zN,zO,zP]
  refine W_calld (behind_tri s ⟨up, true, mo, ve, jo⟩) rfl rfl rfl rfl ?_; simp only [go_sem,↓reduceIte,zA,zB,zC,zD,zE,zF,reduceCtorEq,zG,zH,zI,zJ,zK,zL,zM,zN,zO,zP]
  cases hb : behindB s ⟨up, true, mo, ve, jo⟩ with
  | false => simp only [go_sem,↓reduceIte,zA,zB,zC,zD,zE,zF,reduceCtorEq,zG,zH,zI,zJ,zK,zL,zM,zN,zO,zP,optV,Option.getD_none,Option.isSome_none]
  | true =>
  simp only [Bool.true_eq_false,false_or,go_sem,↓reduceIte,zA,zB,zC,zD,zE,zF,reduceCtorEq,zG,zH,zI,zJ,zK,zL,zM,zN,zO,zP]
  refine W_calld (alone_tri s k hs) rfl rfl rfl rfl ?_; simp only [go_sem,↓reduceIte,zA,zB,zC,zD,zE,zF,reduceCtorEq,zG,zH,zI,zJ,zK,zL,zM,zN,zO,zP]
  rw [ha]
  cases hal : aloneN s ⟨up, true, mo, ve, jo⟩ with
  | true => simp only [go_sem,↓reduceIte,zA,zB,zC,zD,zE,zF,reduceCtorEq,zG,zH,zI,zJ,zK,zL,zM,zN,zO,zP,optV,Option.getD_none,Option.isSome_none]
  | false =>
  simp only [Bool.false_eq_true,go_sem,↓reduceIte,zA,zB,zC,zD,zE,zF,reduceCtorEq,zG,zH,zI,zJ,zK,zL,zM,zN,zO,zP]
  cases hj0 : (jo == 0) with
  | true =>
    have hj0' : jo = 0 := by simpa using hj0
    simp only [hj0',go_sem,↓reduceIte,zA,zB,zC,zD,zE,zF,reduceCtorEq,zG,zH,zI,zJ,zK,zL,zM,zN,zO,zP,optV,Option.getD_some,Option.isSome_some]
  | false =>
  have hj0' : jo ≠ 0 := by simpa using hj0
  have hw : IntKind.i64.wrap (jo - 1) = jo - 1 := wrap_in (by dsimp only at hjb; omega) (by dsimp only at hjb; omega)
  have hg2 := get_mapD (f := jobR) zeroJob (show (jo - 1).toNat < s.jobs.length by dsimp only at hjb; omega)
  have h4 : 0 ≤ jo - 1 := by dsimp only at hjb; omega
  generalize s.jobs.getD (jo - 1).toNat zeroJob = j at *
  simp only [hw,hg2,h4,hj0',go_sem,↓reduceIte,zA,zB,zC,zD,zE,zF,reduceCtorEq,zG,zH,zI,zJ,zK,zL,zM,zN,zO,zP]
  have e2 : (if 1000000 ≤ now + c.deadline then (1000000 : Int) else now + c.deadline) = if now + c.deadline < 1000000 then now + c.deadline else 1000000 := by split <;> split <;> omega
  rw [e2]
  cases hp1 : (j.phase == 1) with
  | true =>
    have hp1' : j.phase = 1 := by simpa using hp1
    rw [if_pos hp1']
    simp only [go_sem,↓reduceIte,zA,zB,zC,zD,zE,zF,reduceCtorEq,zG,zH,zI,zJ,zK,zL,zM,zN,zO,zP,optV,Option.getD_some,Option.isSome_some]
  | false =>
  have hp1' : ¬ j.phase = 1 := by simpa using hp1
  rw [if_neg hp1']
  simp only [go_sem,↓reduceIte,zA,zB,zC,zD,zE,zF,reduceCtorEq,zG,zH,zI,zJ,zK,zL,zM,zN,zO,zP]
  cases hp2 : (j.phase == 2) with
  | false =>
    have hp2' : ¬ j.phase = 2 := by simpa using hp2
    rw [if_neg (fun h => hp2' h.1), if_neg (fun h => hp2' h.1)]
    simp only [hp2,go_sem,↓reduceIte,zA,zB,zC,zD,zE,zF,reduceCtorEq,zG,zH,zI,zJ,zK,zL,zM,zN,zO,zP,optV,Option.getD_none,Option.isSome_none]
  | true =>
  have hp2' : j.phase = 2 := by simpa using hp2
  simp only [hp2',true_and,hp2,go_sem,↓reduceIte,zA,zB,zC,zD,zE,zF,reduceCtorEq,zG,zH,zI,zJ,zK,zL,zM,zN,zO,zP]
  refine WD_calld (count_tri _) rfl rfl rfl rfl ?_; simp only [go_sem,↓reduceIte,zA,zB,zC,zD,zE,zF,reduceCtorEq,zG,zH,zI,zJ,zK,zL,zM,zN,zO,zP]
  cases hq : decide (many (j.nodes % 64) > j.min) with
  | true =>
    have hq' : j.min < many (j.nodes % 64) := of_decide_eq_true hq
    rw [if_pos hq']
    simp only [go_sem,↓reduceIte,zA,zB,zC,zD,zE,zF,reduceCtorEq,zG,zH,zI,zJ,zK,zL,zM,zN,zO,zP,optV,Option.getD_some,Option.isSome_some]
  | false =>
  have hq' : ¬ j.min < many (j.nodes % 64) := of_decide_eq_false hq
  rw [if_neg hq']
  simp only [hp2,go_sem,↓reduceIte,zA,zB,zC,zD,zE,zF,reduceCtorEq,zG,zH,zI,zJ,zK,zL,zM,zN,zO,zP]
  refine WD_calld (drains_tri s j.queue (by omega)) rfl rfl rfl rfl ?_; simp only [go_sem,↓reduceIte,zA,zB,zC,zD,zE,zF,reduceCtorEq,zG,zH,zI,zJ,zK,zL,zM,zN,zO,zP]
  cases hd : decide (drainsL s.jobs j.queue < c.quota) with
  | true =>
    have hd' := of_decide_eq_true hd
    rw [if_pos hd']
    simp only [hwd,go_sem,↓reduceIte,zA,zB,zC,zD,zE,zF,reduceCtorEq,zG,zH,zI,zJ,zK,zL,zM,zN,zO,zP,optV,Option.getD_some,Option.isSome_some]
  | false =>
    have hd' := of_decide_eq_false hd
    rw [if_neg hd']
    simp only [go_sem,↓reduceIte,zA,zB,zC,zD,zE,zF,reduceCtorEq,zG,zH,zI,zJ,zK,zL,zM,zN,zO,zP,optV,Option.getD_none,Option.isSome_none]

theorem shut_tri (c : ConfD) (s : StateD) (now : Int) (k : Nat) (hs : NJ s) (hk : k < s.nodes.length) : Tri Tryz.prog G 39 [viewV c s now, .int k] [] (.tup [opV ⟨16, k, 0, 0, 0, 0, 0⟩, .bool (shutB c s (s.nodes.getD k zeroNode))]) [] := by
  refine tri_W0 Tryz.func39 (by decide) irOk39 (Nat.le_of_ble_eq_true rfl) rfl ?_
  have hg := get_mapD (f := nodeR) zeroNode hk
  have ha := alone_of s k hk
  generalize s.nodes.getD k zeroNode = n at *
  obtain ⟨up, co, mo, ve, jo⟩ := n
  unfold shutB
  simp only [ir39,viewV,hg,go_sem,↓reduceIte,zA,zB,zC,zD,zE,zF,reduceCtorEq,zG,zH,zI,zJ,zK,zL,zM,zN,zO,zP]
  cases co <;> simp only [go_sem,↓reduceIte,zA,zB,zC,zD,zE,zF,reduceCtorEq,zG,zH,zI,zJ,zK,zL,zM,zN,zO,zP]
  refine WD_calld (behind_tri s ⟨up, false, mo, ve, jo⟩) rfl rfl rfl rfl ?_; simp only [go_sem,↓reduceIte,zA,zB,zC,zD,zE,zF,reduceCtorEq,zG,zH,zI,zJ,zK,zL,zM,zN,zO,zP]
  cases hb : behindB s ⟨up, false, mo, ve, jo⟩ <;> simp only [go_sem,↓reduceIte,zA,zB,zC,zD,zE,zF,reduceCtorEq,zG,zH,zI,zJ,zK,zL,zM,zN,zO,zP]
  refine WD_calld (alone_tri s k hs) rfl rfl rfl rfl ?_; simp only [go_sem,↓reduceIte,zA,zB,zC,zD,zE,zF,reduceCtorEq,zG,zH,zI,zJ,zK,zL,zM,zN,zO,zP]
  rw [ha]
  cases hal : aloneN s ⟨up, false, mo, ve, jo⟩ <;> simp only [go_sem,↓reduceIte,zA,zB,zC,zD,zE,zF,reduceCtorEq,zG,zH,zI,zJ,zK,zL,zM,zN,zO,zP]
  refine WD_calld (wave_tri s hs.nodes) rfl rfl rfl rfl ?_; simp only [go_sem,↓reduceIte,zA,zB,zC,zD,zE,zF,reduceCtorEq,zG,zH,zI,zJ,zK,zL,zM,zN,zO,zP]
end Dv
