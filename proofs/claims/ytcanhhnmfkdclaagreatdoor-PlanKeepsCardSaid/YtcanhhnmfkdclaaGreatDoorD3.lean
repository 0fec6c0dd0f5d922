/- The book: Drains, fits, stands, sound, Right. -/
import Derived.Test.YtcanhhnmfkdclaaGreatDoorDB
set_option linter.unusedVariables false
set_option linter.unusedSimpArgs false
namespace Dv
open Go Go.Proofs
open Nat renaming reduceEqDiff → zA, reduceAdd → zB, reduceSub → zC, reduceMul → zD, reduceLT → zE, reduceLeDiff → zF
open Int renaming reduceLE → zG, reduceLT → zH, reduceToNat → zI, reduceBEq → zJ, reduceBNe → zK, reduceEq → zL, reduceAdd → zM, reduceSub → zN, reduceMul → zO, reduceNeg → zP
attribute [local go_sem] argEnv W_nil W_seq W_skip W_ret W_exit W_scope W_block W_blk W_reg W_regD W_cond WC_t WC_f WC_any Wx_c Wx_ops Wx_lp Wx_blk W_ops_nil W_opsD_q W_guard W_guardD WG_tt WG_ff WG_tf WG_ft WG_u WGD_tt WGD_ff WGD_tf WGD_ft WGD_u WE_some WED_some W_more W_mv W_pick W_new W_box W_build W_bsl W_ld1 W_ldn W_st W_nck W_bin W_eqb W_not W_cvt W_fad W_fld1 W_fldn W_ixa W_ixr W_ix1 W_ixs W_len W_lens W_mkf W_ext W_app W_min W_max W_isnp W_isns W_eqs W_neg W_ixn W_sli W_sls WD_more WD_mv WD_pick WD_new WD_box WD_build WD_bsl WD_ld1 WD_ldn WD_st WD_nck WD_bin WD_eqb WD_not WD_cvt WD_fad WD_fld1 WD_fldn WD_ixa WD_ixr WD_ix1 WD_ixs WD_len WD_lens WD_mkf WD_ext WD_app WD_min WD_max WD_isnp WD_isns WD_eqs WD_neg WD_ixn WD_sli WD_sls effF effM bytesOf Opd.ev getE putE binV LV.int LV.bool LV.undef Go.undef LV.cells LV.toD LV.toDs splice fillL rowsOf boxOf srcRows updL objL Eff.owned nwp St.get St.obj St.put Value.oneCell' Ends adopt Ad.ap isNil St.keep St.okKeep okObj idl idlL idlO RVs.of RV.of oneOr Ends0 EndsO_iff frzs rn rnL rnO piOf eqCells eqV boundV Option.map_some Option.map_none List.append_nil List.nil_append List.cons_append List.map_nil List.map_cons List.length_nil List.length_cons List.set_cons_zero List.set_cons_succ List.take_succ_cons List.take_zero List.take_nil List.drop_succ_cons List.drop_zero List.drop_nil List.getElem?_cons_zero List.getElem?_cons_succ List.getElem?_nil List.isEmpty_nil List.isEmpty_cons List.all_cons List.all_nil List.isEmpty_nil cond_true cond_false Bool.true_and Bool.false_and Bool.and_true Bool.and_false Bool.not_true Bool.not_false Bool.or_true Bool.true_or Bool.or_false Bool.false_or true_and and_true true_or or_true Option.some.injEq LV.d.injEq DV.val.injEq Value.bool.injEq Value.int.injEq decide_true decide_false and_self Nat.zero_add Nat.add_zero if_true if_false Int.toNat_zero beq_self_eq_true Nat.zero_lt_succ Int.toNat_natCast Int.natCast_nonneg List.length_map i64 bl List.zip_cons_cons List.zip_nil_left List.zip_nil_right nwp confV stateV nodeV jobV nodesV jobsV opV msgV nodeR jobR opR msgR zeroOp zeroMsg msgsV
variable {G : Nat → Option (List DV)}

/-- book.Drains -/
def ir23 : Nat × C × List RV := (28,
(.seq (.reg [⟨some 2,.box 27 (.t 0),none,[]⟩,
 ⟨some 4,.mv (.c (.val (.int .i64 0))),none,[]⟩])
 (.seq (.reg [⟨some 5,.mv (.c (.val (.int .i64 0))),none,[]⟩])
 (.seq (.seq (.reg [⟨some 8,.fad 1 (.t 2),none,[]⟩,
 ⟨some 9,.ld1 (.t 8),none,[]⟩,
 ⟨some 10,.len (.t 9),none,[]⟩,
 ⟨some 11,.mv (.c (.val (.int .i64 0))),none,[]⟩])
 (.block 0 (.loop (.seq (.reg [⟨some 12,.bin .lss (.t 11) (.t 10),none,[]⟩])
 (.seq (.cond (.t 12) .skip
 (.exit 0))
 (.seq (.block 1 (.seq (.reg [⟨some 13,.ixa 12 (.t 9) (.t 11),none,[]⟩,
 ⟨some 14,.ldn 12 (.t 13),none,[]⟩,
 ⟨some 7,.new 47 [(.val (.int .i64 0)),(.val (.int .i64 0)),(.val (.int .i64 0)),(.val (.int .i64 0)),(.val (.int .i64 0)),(.val (.int .i64 0)),(.val (.int .i64 0)),(.val (.int .i64 0)),(.val (.int .i64 0)),(.val (.int .i64 0)),(.val (.int .i64 0)),(.val (.int .i64 0))],none,[]⟩,
 ⟨none,.st 12 (.t 7) (.t 14),none,[]⟩])
 (.seq (.reg [⟨some 15,.fad 0 (.t 7),none,[]⟩,
 ⟨some 16,.ld1 (.t 15),none,[]⟩,
 ⟨some 17,.mv (.t 1),none,[]⟩,
 ⟨some 18,.bin .eql (.t 16) (.t 17),none,[]⟩,
 ⟨some 19,.mv (.t 18),none,[]⟩,
 ⟨some 20,.fad 6 (.t 7),(some (19,true)),[]⟩,
 ⟨some 21,.ld1 (.t 20),(some (19,true)),[]⟩,
 ⟨some 22,.bin .eql (.t 21) (.c (.val (.int .i64 3))),(some (19,true)),[]⟩,
 ⟨some 23,.pick (.t 19) (.t 22) (.c (.val (.bool false))),none,[]⟩])
 (.cond (.t 23) (.reg [⟨some 24,.mv (.t 5),none,[]⟩,
 ⟨some 25,.bin .add (.t 24) (.c (.val (.int .i64 1))),none,[]⟩,
 ⟨some 5,.mv (.t 25),none,[]⟩])
 .skip))))
 (.reg [⟨some 26,.bin .add (.t 11) (.c (.val (.int .i64 1))),none,[]⟩,
 ⟨some 11,.mv (.t 26),none,[]⟩])))))))
 (.seq (.reg [⟨some 27,.mv (.t 5),none,[]⟩,
 ⟨some 4,.mv (.t 27),none,[]⟩])
 .ret)))),
[(.t 4)])
theorem irOk23 : convFn Tryz.prog Tryz.f23 = some ir23 := by kernel_rfl
/-- book.fits -/
def ir35 : Nat × C × List RV := (63,
(.seq (.reg [⟨some 4,.box 27 (.t 0),none,[]⟩,
 ⟨some 5,.box 47 (.t 1),none,[]⟩,
 ⟨some 8,.mv (.c (.val (.bool false))),none,[]⟩])
 (.seq (.seq (.regD [⟨some 12,.mv (.t 2),none,[]⟩,
 ⟨some 13,.bin .lss (.t 12) (.c (.val (.int .i64 0))),none,[0]⟩,
 ⟨some 14,.mv (.t 13),none,[1,0]⟩,
 ⟨some 15,.mv (.t 2),(some (14,false)),[2,1,0]⟩,
 ⟨some 16,.fad 0 (.t 4),(some (14,false)),[2,1,0]⟩,
 ⟨some 17,.ld1 (.t 16),(some (14,false)),[4,2,1,0]⟩,
 ⟨some 18,.len (.t 17),(some (14,false)),[5,4,2,1,0]⟩,
 ⟨some 19,.bin .shl (.c (.val (.int .i64 1))) (.t 18),(some (14,false)),[6,5,4,2,1,0]⟩,
 ⟨some 20,.bin .geq (.t 15) (.t 19),(some (14,false)),[3,2,1,0,7,6,5,4]⟩,
 ⟨some 21,.pick (.t 14) (.c (.val (.bool true))) (.t 20),none,[2,1,0,8,3,7,6,5,4]⟩,
 ⟨some 22,.mv (.t 21),none,[9,2,1,0,8,3,7,6,5,4]⟩,
 ⟨some 23,.mv (.t 2),(some (22,false)),[10,9,2,1,0,8,3,7,6,5,4]⟩,
 ⟨some 24,.cvt .u64 (.t 23),(some (22,false)),[11,10,9,2,1,0,8,3,7,6,5,4]⟩,
 ⟨some 25,.call (.f 56) [(.t 24)],(some (22,false)),[12,11,10,9,2,1,0,8,3,7,6,5,4]⟩,
 ⟨some 26,.fad 2 (.t 5),(some (22,false)),[10,9,2,1,0,8,3,7,6,5,4]⟩,
 ⟨some 27,.ld1 (.t 26),(some (22,false)),[14,10,9,2,1,0,8,3,7,6,5,4]⟩,
 ⟨some 28,.fad 3 (.t 5),(some (22,false)),[10,9,2,1,0,8,3,7,6,5,4]⟩,
 ⟨some 29,.ld1 (.t 28),(some (22,false)),[16,10,9,2,1,0,8,3,7,6,5,4]⟩,
 ⟨some 30,.call (.f 20) [(.t 25),(.t 27),(.t 29)],(some (22,false)),[13,12,11,10,9,2,1,0,8,3,7,6,5,4,15,14,17,16]⟩,
 ⟨some 31,.not (.t 30),(some (22,false)),[18,13,12,11,10,9,2,1,0,8,3,7,6,5,4,15,14,17,16]⟩,
 ⟨some 32,.pick (.t 22) (.c (.val (.bool true))) (.t 31),none,[10,9,2,1,0,8,3,7,6,5,4,19,18,13,12,11,15,14,17,16]⟩])
 (.cond (.t 32) (.seq (.reg [⟨some 8,.mv (.c (.val (.bool false))),none,[]⟩])
 .ret)
 .skip))
 (.seq (.reg [⟨some 33,.fad 5 (.t 5),none,[]⟩,
 ⟨some 34,.ld1 (.t 33),none,[]⟩,
 ⟨some 9,.mv (.t 34),none,[]⟩])
 (.seq (.seq (.reg [⟨some 35,.fad 0 (.t 4),none,[]⟩,
 ⟨some 36,.ld1 (.t 35),none,[]⟩,
 ⟨some 37,.len (.t 36),none,[]⟩,
 ⟨some 38,.mv (.c (.val (.int .i64 0))),none,[]⟩])
 (.block 0 (.loop (.seq (.reg [⟨some 39,.bin .lss (.t 38) (.t 37),none,[]⟩])
 (.seq (.cond (.t 39) .skip
 (.exit 0))
 (.seq (.block 1 (.seq (.reg [⟨some 40,.mv (.t 38),none,[]⟩,
 ⟨some 41,.ixa 5 (.t 36) (.t 38),none,[]⟩,
 ⟨some 42,.ldn 5 (.t 41),none,[]⟩,
 ⟨some 11,.new 49 [(.val (.bool false)),(.val (.bool false)),(.val (.bool false)),(.val (.int .i64 0)),(.val (.int .i64 0))],none,[]⟩,
 ⟨some 10,.mv (.t 40),none,[]⟩,
 ⟨none,.st 5 (.t 11) (.t 42),none,[]⟩])
 (.seq (.seq (.reg [⟨some 43,.mv (.t 2),none,[]⟩,
 ⟨some 44,.mv (.t 10),none,[]⟩,
 ⟨some 45,.bin .shr (.t 43) (.t 44),none,[]⟩,
 ⟨some 46,.bin .and (.t 45) (.c (.val (.int .i64 1))),none,[]⟩,
 ⟨some 47,.bin .eql (.t 46) (.c (.val (.int .i64 0))),none,[]⟩])
 (.cond (.t 47) (.exit 1)
 .skip))
 (.seq (.seq (.reg [⟨some 48,.mv (.t 9),none,[]⟩,
 ⟨some 49,.bin .eql (.t 48) (.c (.val (.int .i64 0))),none,[]⟩])
 (.cond (.t 49) (.reg [⟨some 50,.fad 3 (.t 11),none,[]⟩,
 ⟨some 51,.ld1 (.t 50),none,[]⟩,
 ⟨some 9,.mv (.t 51),none,[]⟩])
 .skip))
 (.seq (.reg [⟨some 52,.mv (.t 3),none,[]⟩,
 ⟨some 53,.ldn 5 (.t 11),none,[]⟩,
 ⟨some 54,.call (.t 52) [(.t 53)],none,[]⟩,
 ⟨some 55,.not (.t 54),none,[]⟩,
 ⟨some 56,.mv (.t 55),none,[]⟩,
 ⟨some 57,.fad 3 (.t 11),(some (56,false)),[]⟩,
 ⟨some 58,.ld1 (.t 57),(some (56,false)),[]⟩,
 ⟨some 59,.mv (.t 9),(some (56,false)),[]⟩,
 ⟨some 60,.bin .neq (.t 58) (.t 59),(some (56,false)),[]⟩,
 ⟨some 61,.pick (.t 56) (.c (.val (.bool true))) (.t 60),none,[]⟩])
 (.cond (.t 61) (.seq (.reg [⟨some 8,.mv (.c (.val (.bool false))),none,[]⟩])
 .ret)
 .skip))))))
 (.reg [⟨some 62,.bin .add (.t 38) (.c (.val (.int .i64 1))),none,[]⟩,
 ⟨some 38,.mv (.t 62),none,[]⟩])))))))
 (.seq (.reg [⟨some 8,.mv (.c (.val (.bool true))),none,[]⟩])
 .ret))))),
[(.t 8)])
theorem irOk35 : convFn Tryz.prog Tryz.f35 = some ir35 := by kernel_rfl
/-- book.stands -/
def ir21 : Nat × C × List RV := (58,
(.seq (.reg [⟨some 4,.box 23 (.t 0),none,[]⟩,
 ⟨some 5,.box 27 (.t 1),none,[]⟩,
 ⟨some 6,.box 47 (.t 2),none,[]⟩,
 ⟨some 7,.box 3 (.t 3),none,[]⟩,
 ⟨some 8,.mv (.c (.val (.bool false))),none,[]⟩])
 (.seq (.seq (.reg [⟨some 9,.ldn 9 (.t 4),none,[]⟩,
 ⟨some 10,.ldn 12 (.t 6),none,[]⟩,
 ⟨some 11,.call (.f 33) [(.t 9),(.t 10)],none,[]⟩,
 ⟨some 12,.not (.t 11),none,[]⟩,
 ⟨some 13,.mv (.t 12),none,[]⟩,
 ⟨some 14,.fad 6 (.t 6),(some (13,false)),[]⟩,
 ⟨some 15,.ld1 (.t 14),(some (13,false)),[]⟩,
 ⟨some 16,.call (.f 20) [(.t 15),(.c (.val (.int .i64 0))),(.c (.val (.int .i64 4)))],(some (13,false)),[]⟩,
 ⟨some 17,.not (.t 16),(some (13,false)),[]⟩,
 ⟨some 18,.pick (.t 13) (.c (.val (.bool true))) (.t 17),none,[]⟩,
 ⟨some 19,.mv (.t 18),none,[]⟩,
 ⟨some 20,.fad 7 (.t 6),(some (19,false)),[]⟩,
 ⟨some 21,.ld1 (.t 20),(some (19,false)),[]⟩,
 ⟨some 22,.call (.f 20) [(.t 21),(.c (.val (.int .i64 0))),(.c (.val (.int .i64 1000000)))],(some (19,false)),[]⟩,
 ⟨some 23,.not (.t 22),(some (19,false)),[]⟩,
 ⟨some 24,.pick (.t 19) (.c (.val (.bool true))) (.t 23),none,[]⟩,
 ⟨some 25,.mv (.t 24),none,[]⟩,
 ⟨some 26,.fad 9 (.t 6),(some (25,false)),[]⟩,
 ⟨some 27,.ld1 (.t 26),(some (25,false)),[]⟩,
 ⟨some 28,.call (.f 20) [(.t 27),(.c (.val (.int .i64 0))),(.c (.val (.int .i64 1000000)))],(some (25,false)),[]⟩,
 ⟨some 29,.not (.t 28),(some (25,false)),[]⟩,
 ⟨some 30,.pick (.t 25) (.c (.val (.bool true))) (.t 29),none,[]⟩,
 ⟨some 31,.mv (.t 30),none,[]⟩,
 ⟨some 32,.fad 10 (.t 6),(some (31,false)),[]⟩,
 ⟨some 33,.ld1 (.t 32),(some (31,false)),[]⟩,
 ⟨some 34,.call (.f 20) [(.t 33),(.c (.val (.int .i64 0))),(.c (.val (.int .i64 1000000)))],(some (31,false)),[]⟩,
 ⟨some 35,.not (.t 34),(some (31,false)),[]⟩,
 ⟨some 36,.pick (.t 31) (.c (.val (.bool true))) (.t 35),none,[]⟩,
 ⟨some 37,.mv (.t 36),none,[]⟩,
 ⟨some 38,.fad 11 (.t 6),(some (37,false)),[]⟩,
 ⟨some 39,.ld1 (.t 38),(some (37,false)),[]⟩,
 ⟨some 40,.fad 7 (.t 6),(some (37,false)),[]⟩,
 ⟨some 41,.ld1 (.t 40),(some (37,false)),[]⟩,
 ⟨some 42,.call (.f 20) [(.t 39),(.c (.val (.int .i64 0))),(.t 41)],(some (37,false)),[]⟩,
 ⟨some 43,.not (.t 42),(some (37,false)),[]⟩,
 ⟨some 44,.pick (.t 37) (.c (.val (.bool true))) (.t 43),none,[]⟩])
 (.cond (.t 44) (.seq (.reg [⟨some 8,.mv (.c (.val (.bool false))),none,[]⟩])
 .ret)
 .skip))
 (.seq (.seq (.reg [⟨some 45,.fad 6 (.t 6),none,[]⟩,
 ⟨some 46,.ld1 (.t 45),none,[]⟩,
 ⟨some 47,.call (.f 34) [(.t 46)],none,[]⟩,
 ⟨some 48,.not (.t 47),none,[]⟩])
 (.cond (.t 48) (.seq (.reg [⟨some 49,.fad 8 (.t 6),none,[]⟩,
 ⟨some 50,.ld1 (.t 49),none,[]⟩,
 ⟨some 51,.bin .eql (.t 50) (.c (.val (.int .i64 0))),none,[]⟩,
 ⟨some 8,.mv (.t 51),none,[]⟩])
 .ret)
 .skip))
 (.seq (.reg [⟨some 52,.ldn 6 (.t 5),none,[]⟩,
 ⟨some 53,.ldn 12 (.t 6),none,[]⟩,
 ⟨some 54,.fad 8 (.t 6),none,[]⟩,
 ⟨some 55,.ld1 (.t 54),none,[]⟩,
 ⟨some 56,.mkf (.func 36) [] [(.t 7)],none,[]⟩,
 ⟨some 57,.call (.f 35) [(.t 52),(.t 53),(.t 55),(.t 56)],none,[]⟩,
 ⟨some 8,.mv (.t 57),none,[]⟩])
 .ret)))),
[(.t 8)])
theorem irOk21 : convFn Tryz.prog Tryz.f21 = some ir21 := by kernel_rfl
/-- book.sound -/
def ir22 : Nat × C × List RV := (56,
(.seq (.reg [⟨some 3,.box 27 (.t 0),none,[]⟩,
 ⟨some 4,.box 49 (.t 1),none,[]⟩,
 ⟨some 6,.mv (.c (.val (.bool false))),none,[]⟩])
 (.seq (.seq (.reg [⟨some 7,.fad 3 (.t 4),none,[]⟩,
 ⟨some 8,.ld1 (.t 7),none,[]⟩,
 ⟨some 9,.call (.f 20) [(.t 8),(.c (.val (.int .i64 1))),(.c (.val (.int .i64 9)))],none,[]⟩,
 ⟨some 10,.not (.t 9),none,[]⟩,
 ⟨some 11,.mv (.t 10),none,[]⟩,
 ⟨some 12,.fad 4 (.t 4),(some (11,false)),[]⟩,
 ⟨some 13,.ld1 (.t 12),(some (11,false)),[]⟩,
 ⟨some 14,.fad 1 (.t 3),(some (11,false)),[]⟩,
 ⟨some 15,.ld1 (.t 14),(some (11,false)),[]⟩,
 ⟨some 16,.len (.t 15),(some (11,false)),[]⟩,
 ⟨some 17,.call (.f 20) [(.t 13),(.c (.val (.int .i64 0))),(.t 16)],(some (11,false)),[]⟩,
 ⟨some 18,.not (.t 17),(some (11,false)),[]⟩,
 ⟨some 19,.pick (.t 11) (.c (.val (.bool true))) (.t 18),none,[]⟩,
 ⟨some 20,.mv (.t 19),none,[]⟩,
 ⟨some 21,.fad 2 (.t 4),(some (20,false)),[]⟩,
 ⟨some 22,.ld1 (.t 21),(some (20,false)),[]⟩,
 ⟨some 23,.mv (.t 22),(some (20,false)),[]⟩,
 ⟨some 24,.fad 0 (.t 4),(some (23,true)),[]⟩,
 ⟨some 25,.ld1 (.t 24),(some (23,true)),[]⟩,
 ⟨some 26,.not (.t 25),(some (23,true)),[]⟩,
 ⟨some 27,.mv (.t 26),(some (23,true)),[]⟩,
 ⟨some 28,.fad 1 (.t 4),(some (27,false)),[]⟩,
 ⟨some 29,.ld1 (.t 28),(some (27,false)),[]⟩,
 ⟨some 30,.not (.t 29),(some (27,false)),[]⟩,
 ⟨some 31,.pick (.t 27) (.c (.val (.bool true))) (.t 30),(some (23,true)),[]⟩,
 ⟨some 32,.mv (.t 31),(some (23,true)),[]⟩,
 ⟨some 33,.fad 4 (.t 4),(some (32,false)),[]⟩,
 ⟨some 34,.ld1 (.t 33),(some (32,false)),[]⟩,
 ⟨some 35,.bin .neq (.t 34) (.c (.val (.int .i64 0))),(some (32,false)),[]⟩,
 ⟨some 36,.pick (.t 32) (.c (.val (.bool true))) (.t 35),(some (23,true)),[]⟩,
 ⟨some 37,.pick (.t 23) (.t 36) (.c (.val (.bool false))),(some (20,false)),[]⟩,
 ⟨some 38,.pick (.t 20) (.c (.val (.bool true))) (.t 37),none,[]⟩])
 (.cond (.t 38) (.seq (.reg [⟨some 6,.mv (.c (.val (.bool false))),none,[]⟩])
 .ret)
 .skip))
 (.seq (.reg [⟨some 39,.fad 4 (.t 4),none,[]⟩,
 ⟨some 40,.ld1 (.t 39),none,[]⟩,
 ⟨some 41,.bin .eql (.t 40) (.c (.val (.int .i64 0))),none,[]⟩,
 ⟨some 42,.mv (.t 41),none,[]⟩,
 ⟨some 43,.fad 1 (.t 3),(some (42,false)),[]⟩,
 ⟨some 44,.ld1 (.t 43),(some (42,false)),[]⟩,
 ⟨some 45,.fad 4 (.t 4),(some (42,false)),[]⟩,
 ⟨some 46,.ld1 (.t 45),(some (42,false)),[]⟩,
 ⟨some 47,.bin .sub (.t 46) (.c (.val (.int .i64 1))),(some (42,false)),[]⟩,
 ⟨some 48,.ixa 12 (.t 44) (.t 47),(some (42,false)),[]⟩,
 ⟨some 49,.fad 8 (.t 48),(some (42,false)),[]⟩,
 ⟨some 50,.ld1 (.t 49),(some (42,false)),[]⟩,
 ⟨some 51,.mv (.t 2),(some (42,false)),[]⟩,
 ⟨some 52,.bin .shr (.t 50) (.t 51),(some (42,false)),[]⟩,
 ⟨some 53,.bin .and (.t 52) (.c (.val (.int .i64 1))),(some (42,false)),[]⟩,
 ⟨some 54,.bin .eql (.t 53) (.c (.val (.int .i64 1))),(some (42,false)),[]⟩,
 ⟨some 55,.pick (.t 42) (.c (.val (.bool true))) (.t 54),none,[]⟩,
 ⟨some 6,.mv (.t 55),none,[]⟩])
 .ret))),
[(.t 6)])
theorem irOk22 : convFn Tryz.prog Tryz.f22 = some ir22 := by kernel_rfl
/-- book.Right -/
def ir8 : Nat × C × List RV := (93,
(.seq (.reg [⟨some 2,.box 23 (.t 0),none,[]⟩,
 ⟨some 3,.box 27 (.t 1),none,[]⟩,
 ⟨some 4,.mv (.c (.val (.bool false))),none,[]⟩])
 (.seq (.seq (.reg [⟨some 10,.ldn 9 (.t 2),none,[]⟩,
 ⟨some 11,.call (.f 19) [(.t 10)],none,[]⟩,
 ⟨some 12,.not (.t 11),none,[]⟩,
 ⟨some 13,.mv (.t 12),none,[]⟩,
 ⟨some 14,.fad 0 (.t 3),(some (13,false)),[]⟩,
 ⟨some 15,.ld1 (.t 14),(some (13,false)),[]⟩,
 ⟨some 16,.len (.t 15),(some (13,false)),[]⟩,
 ⟨some 17,.fad 0 (.t 2),(some (13,false)),[]⟩,
 ⟨some 18,.ld1 (.t 17),(some (13,false)),[]⟩,
 ⟨some 19,.bin .neq (.t 16) (.t 18),(some (13,false)),[]⟩,
 ⟨some 20,.pick (.t 13) (.c (.val (.bool true))) (.t 19),none,[]⟩,
 ⟨some 21,.mv (.t 20),none,[]⟩,
 ⟨some 22,.fad 1 (.t 3),(some (21,false)),[]⟩,
 ⟨some 23,.ld1 (.t 22),(some (21,false)),[]⟩,
 ⟨some 24,.len (.t 23),(some (21,false)),[]⟩,
 ⟨some 25,.bin .gtr (.t 24) (.c (.val (.int .i64 24))),(some (21,false)),[]⟩,
 ⟨some 26,.pick (.t 21) (.c (.val (.bool true))) (.t 25),none,[]⟩,
 ⟨some 27,.mv (.t 26),none,[]⟩,
 ⟨some 28,.fad 2 (.t 3),(some (27,false)),[]⟩,
 ⟨some 29,.ld1 (.t 28),(some (27,false)),[]⟩,
 ⟨some 30,.call (.f 20) [(.t 29),(.c (.val (.int .i64 1))),(.c (.val (.int .i64 9)))],(some (27,false)),[]⟩,
 ⟨some 31,.not (.t 30),(some (27,false)),[]⟩,
 ⟨some 32,.pick (.t 27) (.c (.val (.bool true))) (.t 31),none,[]⟩,
 ⟨some 33,.mv (.t 32),none,[]⟩,
 ⟨some 34,.fad 3 (.t 3),(some (33,false)),[]⟩,
 ⟨some 35,.ld1 (.t 34),(some (33,false)),[]⟩,
 ⟨some 36,.call (.f 20) [(.t 35),(.c (.val (.int .i64 1))),(.c (.val (.int .i64 9)))],(some (33,false)),[]⟩,
 ⟨some 37,.not (.t 36),(some (33,false)),[]⟩,
 ⟨some 38,.pick (.t 33) (.c (.val (.bool true))) (.t 37),none,[]⟩,
 ⟨some 39,.mv (.t 38),none,[]⟩,
 ⟨some 40,.fad 4 (.t 3),(some (39,false)),[]⟩,
 ⟨some 41,.ld1 (.t 40),(some (39,false)),[]⟩,
 ⟨some 42,.call (.f 20) [(.t 41),(.c (.val (.int .i64 0))),(.c (.val (.int .i64 2)))],(some (39,false)),[]⟩,
 ⟨some 43,.not (.t 42),(some (39,false)),[]⟩,
 ⟨some 44,.pick (.t 39) (.c (.val (.bool true))) (.t 43),none,[]⟩,
 ⟨some 45,.mv (.t 44),none,[]⟩,
 ⟨some 46,.fad 5 (.t 3),(some (45,false)),[]⟩,
 ⟨some 47,.ld1 (.t 46),(some (45,false)),[]⟩,
 ⟨some 48,.call (.f 20) [(.t 47),(.c (.val (.int .i64 0))),(.c (.val (.int .i64 1000000)))],(some (45,false)),[]⟩,
 ⟨some 49,.not (.t 48),(some (45,false)),[]⟩,
 ⟨some 50,.pick (.t 45) (.c (.val (.bool true))) (.t 49),none,[]⟩])
 (.cond (.t 50) (.seq (.reg [⟨some 4,.mv (.c (.val (.bool false))),none,[]⟩])
 .ret)
 .skip))
 (.seq (.seq (.reg [⟨some 51,.fad 1 (.t 3),none,[]⟩,
 ⟨some 52,.ld1 (.t 51),none,[]⟩,
 ⟨some 53,.len (.t 52),none,[]⟩,
 ⟨some 54,.mv (.c (.val (.int .i64 0))),none,[]⟩])
 (.block 0 (.loop (.seq (.reg [⟨some 55,.bin .lss (.t 54) (.t 53),none,[]⟩])
 (.seq (.cond (.t 55) .skip
 (.exit 0))
 (.seq (.block 1 (.seq (.reg [⟨some 56,.mv (.t 54),none,[]⟩,
 ⟨some 57,.ixa 12 (.t 52) (.t 54),none,[]⟩,
 ⟨some 58,.ldn 12 (.t 57),none,[]⟩,
 ⟨some 6,.new 47 [(.val (.int .i64 0)),(.val (.int .i64 0)),(.val (.int .i64 0)),(.val (.int .i64 0)),(.val (.int .i64 0)),(.val (.int .i64 0)),(.val (.int .i64 0)),(.val (.int .i64 0)),(.val (.int .i64 0)),(.val (.int .i64 0)),(.val (.int .i64 0)),(.val (.int .i64 0))],none,[]⟩,
 ⟨some 5,.mv (.t 56),none,[]⟩,
 ⟨none,.st 12 (.t 6) (.t 58),none,[]⟩])
 (.seq (.reg [⟨some 59,.ldn 9 (.t 2),none,[]⟩,
 ⟨some 60,.ldn 6 (.t 3),none,[]⟩,
 ⟨some 61,.ldn 12 (.t 6),none,[]⟩,
 ⟨some 62,.mv (.t 5),none,[]⟩,
 ⟨some 63,.bin .add (.t 62) (.c (.val (.int .i64 1))),none,[]⟩,
 ⟨some 64,.call (.f 21) [(.t 59),(.t 60),(.t 61),(.t 63)],none,[]⟩,
 ⟨some 65,.not (.t 64),none,[]⟩])
 (.cond (.t 65) (.seq (.reg [⟨some 4,.mv (.c (.val (.bool false))),none,[]⟩])
 .ret)
 .skip))))
 (.reg [⟨some 66,.bin .add (.t 54) (.c (.val (.int .i64 1))),none,[]⟩,
 ⟨some 54,.mv (.t 66),none,[]⟩])))))))
 (.seq (.seq (.reg [⟨some 67,.fad 0 (.t 3),none,[]⟩,
 ⟨some 68,.ld1 (.t 67),none,[]⟩,
 ⟨some 69,.len (.t 68),none,[]⟩,
 ⟨some 70,.mv (.c (.val (.int .i64 0))),none,[]⟩])
 (.block 2 (.loop (.seq (.reg [⟨some 71,.bin .lss (.t 70) (.t 69),none,[]⟩])
 (.seq (.cond (.t 71) .skip
 (.exit 2))
 (.seq (.block 3 (.seq (.reg [⟨some 72,.mv (.t 70),none,[]⟩,
 ⟨some 73,.ixa 5 (.t 68) (.t 70),none,[]⟩,
 ⟨some 74,.ldn 5 (.t 73),none,[]⟩,
 ⟨some 8,.new 49 [(.val (.bool false)),(.val (.bool false)),(.val (.bool false)),(.val (.int .i64 0)),(.val (.int .i64 0))],none,[]⟩,
 ⟨some 7,.mv (.t 72),none,[]⟩,
 ⟨none,.st 5 (.t 8) (.t 74),none,[]⟩])
 (.seq (.reg [⟨some 75,.ldn 6 (.t 3),none,[]⟩,
 ⟨some 76,.ldn 5 (.t 8),none,[]⟩,
 ⟨some 77,.mv (.t 7),none,[]⟩,
 ⟨some 78,.call (.f 22) [(.t 75),(.t 76),(.t 77)],none,[]⟩,
 ⟨some 79,.not (.t 78),none,[]⟩])
 (.cond (.t 79) (.seq (.reg [⟨some 4,.mv (.c (.val (.bool false))),none,[]⟩])
 .ret)
 .skip))))
 (.reg [⟨some 80,.bin .add (.t 70) (.c (.val (.int .i64 1))),none,[]⟩,
 ⟨some 70,.mv (.t 80),none,[]⟩])))))))
 (.seq (.seq (.reg [⟨some 81,.fad 1 (.t 2),none,[]⟩,
 ⟨some 82,.ld1 (.t 81),none,[]⟩,
 ⟨some 83,.mv (.c (.val (.int .i64 0))),none,[]⟩])
 (.block 4 (.loop (.seq (.reg [⟨some 84,.bin .lss (.t 83) (.t 82),none,[]⟩])
 (.seq (.cond (.t 84) .skip
 (.exit 4))
 (.seq (.block 5 (.seq (.reg [⟨some 85,.mv (.t 83),none,[]⟩,
 ⟨some 9,.mv (.t 85),none,[]⟩])
 (.seq (.regD [⟨some 86,.ldn 6 (.t 3),none,[]⟩,
 ⟨some 87,.mv (.t 9),none,[]⟩,
 ⟨some 88,.call (.f 23) [(.t 86),(.t 87)],none,[0,1]⟩,
 ⟨some 89,.fad 2 (.t 2),none,[]⟩,
 ⟨some 90,.ld1 (.t 89),none,[3]⟩,
 ⟨some 91,.bin .gtr (.t 88) (.t 90),none,[2,0,1,4,3]⟩])
 (.cond (.t 91) (.seq (.reg [⟨some 4,.mv (.c (.val (.bool false))),none,[]⟩])
 .ret)
 .skip))))
 (.reg [⟨some 92,.bin .add (.t 83) (.c (.val (.int .i64 1))),none,[]⟩,
 ⟨some 83,.mv (.t 92),none,[]⟩])))))))
 (.seq (.reg [⟨some 4,.mv (.c (.val (.bool true))),none,[]⟩])
 .ret)))))),
[(.t 4)])
theorem irOk8 : convFn Tryz.prog Tryz.f8 = some ir8 := by kernel_rfl


def drainsS (s : StateD) (q : Int) (k : Nat) : St := ⟨[(1, .int q), (5, .int (drainsL (s.jobs.take k) q)), (9, jobsV s.jobs), (10, .int s.jobs.length), (11, .int k)], [some (.box 27 [nodesV s.nodes, jobsV s.jobs, .int s.goal, .int s.prior, .int s.mode, .int s.term])]⟩
theorem drains_tri (s : StateD) (q : Int) (hn : s.jobs.length ≤ 9223372036854775806) : Tri Tryz.prog G 23 [stateV s, .int q] [] (.int (drainsL s.jobs q)) [] := by
  refine tri_W0 Tryz.func23 (by decide) irOk23 (Nat.le_of_ble_eq_true rfl) rfl ?_
  simp only [ir23,go_sem,↓reduceIte,zA,zB,zC,zD,zE,zF,reduceCtorEq,zG,zH,zI,zJ,zK,zL,zM,zN,zO,zP]
  refine W_loopI [1, 5, 9, 10, 11] [] (fun k : Nat => k ≤ s.jobs.length) (fun k => s.jobs.length - k) (drainsS s q) 0 ?_ (Nat.zero_le _) (fun k hk => ?_)
  · simp only [drainsS,go_sem,↓reduceIte,zA,zB,zC,zD,zE,zF,reduceCtorEq,zG,zH,zI,zJ,zK,zL,zM,zN,zO,zP,List.take_zero,drainsL,List.filter_nil,Int.natCast_zero]
  simp only [drainsS,go_sem,↓reduceIte,zA,zB,zC,zD,zE,zF,reduceCtorEq,zG,zH,zI,zJ,zK,zL,zM,zN,zO,zP]
  refine WC_split (fun h => ?_) (fun h => ?_)
  · have h := lt_of_dec h
    have hb := drainsL_le (s.jobs.take k) q
    rw [List.length_take] at hb
    have hs : s.jobs.take (k + 1) = s.jobs.take k ++ [s.jobs[k]] := by rw [List.take_succ_eq_append_getElem h]
    have hd := drainsL_snoc (s.jobs.take k) s.jobs[k] q
    simp only [get_map h,go_sem,↓reduceIte,zA,zB,zC,zD,zE,zF,reduceCtorEq,zG,zH,zI,zJ,zK,zL,zM,zN,zO,zP]
    refine WG_split (fun h1 => ?_) (fun h1 => ?_) <;> simp only [h1,go_sem,↓reduceIte,zA,zB,zC,zD,zE,zF,reduceCtorEq,zG,zH,zI,zJ,zK,zL,zM,zN,zO,zP] <;> (try simp only [beq_iff_eq,beq_eq_false_iff_ne,bne_iff_ne,ne_eq,decide_eq_true_eq,decide_eq_false_iff_not,Bool.not_true,Bool.not_false,Bool.not_eq_true,Bool.not_eq_false,bne_eq_false_iff_eq,Decidable.not_not] at h1)
    · refine WC_split (fun h2 => ?_) (fun h2 => ?_) <;> simp only [h2,go_sem,↓reduceIte,zA,zB,zC,zD,zE,zF,reduceCtorEq,zG,zH,zI,zJ,zK,zL,zM,zN,zO,zP] <;> (try simp only [beq_iff_eq,beq_eq_false_iff_ne,bne_iff_ne,ne_eq,decide_eq_true_eq,decide_eq_false_iff_not,Bool.not_true,Bool.not_false,Bool.not_eq_true,Bool.not_eq_false,bne_eq_false_iff_eq,Decidable.not_not] at h2)
      · refine W_lpI (k + 1) ?_ ?_ (by omega) (by omega)
        · simp only [go_sem,↓reduceIte,zA,zB,zC,zD,zE,zF,reduceCtorEq,zG,zH,zI,zJ,zK,zL,zM,zN,zO,zP]
        · simp only [drainsS,go_sem,↓reduceIte,zA,zB,zC,zD,zE,zF,reduceCtorEq,zG,zH,zI,zJ,zK,zL,zM,zN,zO,zP,wrap_succ (show k < 9223372036854775807 by omega),hs,hd,h1,h2,wrap_in (show -9223372036854775808 ≤ drainsL (s.jobs.take k) q + 1 by omega) (by omega)]
      · refine W_lpI (k + 1) ?_ ?_ (by omega) (by omega)
        · simp only [go_sem,↓reduceIte,zA,zB,zC,zD,zE,zF,reduceCtorEq,zG,zH,zI,zJ,zK,zL,zM,zN,zO,zP]
        · simp only [drainsS,go_sem,↓reduceIte,zA,zB,zC,zD,zE,zF,reduceCtorEq,zG,zH,zI,zJ,zK,zL,zM,zN,zO,zP,wrap_succ (show k < 9223372036854775807 by omega),hs,hd,h1,h2,and_false,Int.add_zero]
    · refine W_lpI (k + 1) ?_ ?_ (by omega) (by omega)
      · simp only [go_sem,↓reduceIte,zA,zB,zC,zD,zE,zF,reduceCtorEq,zG,zH,zI,zJ,zK,zL,zM,zN,zO,zP]
      · simp only [drainsS,go_sem,↓reduceIte,zA,zB,zC,zD,zE,zF,reduceCtorEq,zG,zH,zI,zJ,zK,zL,zM,zN,zO,zP,wrap_succ (show k < 9223372036854775807 by omega),hs,hd,h1,false_and,Int.add_zero]
  · obtain rfl := eq_of_dec h hk
    simp only [go_sem,↓reduceIte,zA,zB,zC,zD,zE,zF,reduceCtorEq,zG,zH,zI,zJ,zK,zL,zM,zN,zO,zP,List.take_length]

def fitsS (s : StateD) (j : JobD) (nodes : Int) (f et : Nat) (cells : List LV) (kv : Nat × Int) : St := ⟨[(2, .int nodes), (3, .fn (.func f) [] [.ptr 0 0]), (9, .int kv.2), (36, nodesV s.nodes), (37, .int s.nodes.length), (38, .int kv.1)], [some (.box et cells), some (.box 27 [nodesV s.nodes, jobsV s.jobs, .int s.goal, .int s.prior, .int s.mode, .int s.term]), some (.box 47 [.int j.queue, .int j.prio, .int j.min, .int j.max, .int j.work, .int j.pin, .int j.phase, .int j.inc, .int j.nodes, .int j.since, .int j.til, .int j.epoch])]⟩
theorem fits1_tri (s : StateD) (j : JobD) (nodes : Int) (f et : Nat) (cells : List LV) (takes : NodeD → Bool) (hn : s.nodes.length ≤ 6) (hd : idlL 0 cells = true) (hT : ∀ n, Tri Tryz.prog G f [nodeV n, .ptr 0 0] [.box et cells] (.bool (takes n)) [.box et cells]) :
    Tri Tryz.prog G 35 [stateV s, jobV j, .int nodes, .fn (.func f) [] [.ptr 0 0]] [.box et cells] (.bool (fitsB s.nodes j nodes takes)) [.box et cells] := by
  refine tri_WO Tryz.func35 (by decide) irOk35 (Nat.le_of_ble_eq_true rfl) rfl (by simp [idlO,hd]) rfl ?_
  have hp : (2 : Int) ^ s.nodes.length ≤ 64 ∧ 1 ≤ (2 : Int) ^ s.nodes.length := by
    have : s.nodes.length = 0 ∨ s.nodes.length = 1 ∨ s.nodes.length = 2 ∨ s.nodes.length = 3 ∨ s.nodes.length = 4 ∨ s.nodes.length = 5 ∨ s.nodes.length = 6 := by omega
    rcases this with h | h | h | h | h | h | h <;> rw [h] <;> decide
  have hw := shl_one s.nodes.length hn
  have hd3 : idlL 3 cells = true := idl_up.2 cells 3 hd
  have hrn : ∀ π, rnL π cells = cells := fun π => rnL_data π cells hd
  simp only [ir35,go_sem,↓reduceIte,zA,zB,zC,zD,zE,zF,reduceCtorEq,zG,zH,zI,zJ,zK,zL,zM,zN,zO,zP,hw]
  unfold fitsB
  have none : ∀ {x y : Prop} [Decidable x] [Decidable y] {b : Bool}, x ∨ y → (if x ∨ y then false else b) = false := fun h => by rw [if_pos h]
  refine WGD_split (fun h1 => ?_) (fun h1 => ?_) <;> simp only [h1,go_sem,↓reduceIte,zA,zB,zC,zD,zE,zF,reduceCtorEq,zG,zH,zI,zJ,zK,zL,zM,zN,zO,zP] <;> (try simp only [beq_iff_eq,beq_eq_false_iff_ne,bne_iff_ne,ne_eq,decide_eq_true_eq,decide_eq_false_iff_not,Bool.not_true,Bool.not_false,Bool.not_eq_true,Bool.not_eq_false,bne_eq_false_iff_eq,Decidable.not_not] at h1)
  · simp only [hw]
    refine WGD_split (fun h2 => ?_) (fun h2 => ?_) <;> simp only [h2,go_sem,↓reduceIte,zA,zB,zC,zD,zE,zF,reduceCtorEq,zG,zH,zI,zJ,zK,zL,zM,zN,zO,zP] <;> (try simp only [beq_iff_eq,beq_eq_false_iff_ne,bne_iff_ne,ne_eq,decide_eq_true_eq,decide_eq_false_iff_not,Bool.not_true,Bool.not_false,Bool.not_eq_true,Bool.not_eq_false,bne_eq_false_iff_eq,Decidable.not_not] at h2)
    · obtain ⟨m, rfl⟩ := Int.eq_ofNat_of_zero_le (show 0 ≤ nodes by omega)
      have hm : m < 64 := by omega
      have hwu : IntKind.u64.wrap (m : Int) = m := by simp [IntKind.wrap,IntKind.bits,IntKind.signed]; omega
      rw [if_neg (by omega)]
      simp only [hwu]
      refine WD_calld (ones_tri m hm) rfl rfl rfl rfl ?_; simp only [go_sem,↓reduceIte,zA,zB,zC,zD,zE,zF,reduceCtorEq,zG,zH,zI,zJ,zK,zL,zM,zN,zO,zP]
      refine WD_calld (within_tri _ _ _) rfl rfl rfl rfl ?_; simp only [go_sem,↓reduceIte,zA,zB,zC,zD,zE,zF,reduceCtorEq,zG,zH,zI,zJ,zK,zL,zM,zN,zO,zP]
      cases hb : withinB (many m) j.min j.max with
      | false => simp only [go_sem,↓reduceIte,zA,zB,zC,zD,zE,zF,reduceCtorEq,zG,zH,zI,zJ,zK,zL,zM,zN,zO,zP]
      | true =>
        simp only [go_sem,↓reduceIte,zA,zB,zC,zD,zE,zF,reduceCtorEq,zG,zH,zI,zJ,zK,zL,zM,zN,zO,zP]
        generalize hF0 : fitsLoop m takes s.nodes 0 j.pin = r
        refine W_loopI [2, 3, 9, 36, 37, 38] [] (fun kv : Nat × Int => kv.1 ≤ s.nodes.length ∧ fitsLoop m takes (s.nodes.drop kv.1) kv.1 kv.2 = r) (fun kv => s.nodes.length - kv.1) (fitsS s j m f et cells) (0, j.pin) ?_ ⟨Nat.zero_le _, hF0⟩ ?_
        · simp only [fitsS,go_sem,↓reduceIte,zA,zB,zC,zD,zE,zF,reduceCtorEq,zG,zH,zI,zJ,zK,zL,zM,zN,zO,zP,Int.natCast_zero]
        rintro ⟨k, v⟩ ⟨hk, hF⟩
        dsimp only at hk hF
        simp only [fitsS,go_sem,↓reduceIte,zA,zB,zC,zD,zE,zF,reduceCtorEq,zG,zH,zI,zJ,zK,zL,zM,zN,zO,zP]
        refine WC_split (fun h => ?_) (fun h => ?_)
        · have h := lt_of_dec h
          rw [List.drop_eq_getElem_cons h] at hF
          unfold fitsLoop at hF
          simp only [get_map h,go_sem,↓reduceIte,zA,zB,zC,zD,zE,zF,reduceCtorEq,zG,zH,zI,zJ,zK,zL,zM,zN,zO,zP,bit_eq0 (m : Int) k (by omega)]
          have go : ∀ v', fitsLoop m takes (s.nodes.drop (k + 1)) (k + 1) v' = r → (k + 1, v').1 ≤ s.nodes.length ∧ fitsLoop m takes (s.nodes.drop (k + 1, v').1) (k + 1, v').1 (k + 1, v').2 = r := fun v' h' => ⟨h, h'⟩
          cases hb1 : hasB (m : Int) k with
          | false =>
            rw [if_pos hb1] at hF
            simp only [go_sem,↓reduceIte,zA,zB,zC,zD,zE,zF,reduceCtorEq,zG,zH,zI,zJ,zK,zL,zM,zN,zO,zP]
            refine W_lpI (k + 1, v) ?_ ?_ (go _ hF) (by dsimp only; omega)
            · simp only [go_sem,↓reduceIte,zA,zB,zC,zD,zE,zF,reduceCtorEq,zG,zH,zI,zJ,zK,zL,zM,zN,zO,zP,hd3]
            · simp only [fitsS,go_sem,↓reduceIte,zA,zB,zC,zD,zE,zF,reduceCtorEq,zG,zH,zI,zJ,zK,zL,zM,zN,zO,zP,wrap_succ (show k < 9223372036854775807 by omega)]
          | true =>
            rw [if_neg (by simp [hb1])] at hF
            simp only [go_sem,↓reduceIte,zA,zB,zC,zD,zE,zF,reduceCtorEq,zG,zH,zI,zJ,zK,zL,zM,zN,zO,zP]
            have hd1 : idlL 1 cells = true := idl_up.2 cells 1 hd
            refine WC_split (fun hv => ?_) (fun hv => ?_) <;> simp only [hv,go_sem,↓reduceIte,zA,zB,zC,zD,zE,zF,reduceCtorEq,zG,zH,zI,zJ,zK,zL,zM,zN,zO,zP] <;> (try simp only [beq_iff_eq,beq_eq_false_iff_ne,bne_iff_ne,ne_eq,decide_eq_true_eq,decide_eq_false_iff_not,Bool.not_true,Bool.not_false,Bool.not_eq_true,Bool.not_eq_false,bne_eq_false_iff_eq,Decidable.not_not] at hv)
            · rw [if_pos hv] at hF
              refine W_callo [0] (hT s.nodes[k]) rfl (by simp only [argRs,argR,List.map_cons,List.map_nil,go_sem,↓reduceIte,zA,zB,zC,zD,zE,zF,reduceCtorEq,zG,zH,zI,zJ,zK,zL,zM,zN,zO,zP,hrn,hd1]) (by decide) (by simp only [go_sem,↓reduceIte,zA,zB,zC,zD,zE,zF,reduceCtorEq,zG,zH,zI,zJ,zK,zL,zM,zN,zO,zP,hrn,hd1]) (by simp only [go_sem,↓reduceIte,zA,zB,zC,zD,zE,zF,reduceCtorEq,zG,zH,zI,zJ,zK,zL,zM,zN,zO,zP,List.all_cons,List.all_nil,hrn,hd1]) (by simp) ?_; simp only [go_sem,↓reduceIte,zA,zB,zC,zD,zE,zF,reduceCtorEq,zG,zH,zI,zJ,zK,zL,zM,zN,zO,zP,hrn,hd1]
              cases ht : takes s.nodes[k] with
              | false =>
                rw [if_neg (by simp [ht])] at hF
                simp only [go_sem,↓reduceIte,zA,zB,zC,zD,zE,zF,reduceCtorEq,zG,zH,zI,zJ,zK,zL,zM,zN,zO,zP,hrn,← hF]
              | true =>
                by_cases hq : s.nodes[k].version = s.nodes[k].version
                · rw [if_pos ⟨ht, hq⟩] at hF
                  have hq1 : (s.nodes[k].version != s.nodes[k].version) = false := by simp [← hq]
                  simp only [go_sem,↓reduceIte,zA,zB,zC,zD,zE,zF,reduceCtorEq,zG,zH,zI,zJ,zK,zL,zM,zN,zO,zP,hrn,hq1]
                  refine W_lpI (k + 1, s.nodes[k].version) ?_ ?_ (go _ hF) (by dsimp only; omega)
                  · simp only [go_sem,↓reduceIte,zA,zB,zC,zD,zE,zF,reduceCtorEq,zG,zH,zI,zJ,zK,zL,zM,zN,zO,zP,hd3]
                  · simp only [fitsS,go_sem,↓reduceIte,zA,zB,zC,zD,zE,zF,reduceCtorEq,zG,zH,zI,zJ,zK,zL,zM,zN,zO,zP,wrap_succ (show k < 9223372036854775807 by omega)]
                · rw [if_neg (fun h' => hq h'.2)] at hF
                  have hq1 : (s.nodes[k].version != s.nodes[k].version) = true := bne_iff_ne.2 hq
                  simp only [go_sem,↓reduceIte,zA,zB,zC,zD,zE,zF,reduceCtorEq,zG,zH,zI,zJ,zK,zL,zM,zN,zO,zP,hrn,hq1,← hF]
            · rw [if_neg hv] at hF
              refine W_callo [0] (hT s.nodes[k]) rfl (by simp only [argRs,argR,List.map_cons,List.map_nil,go_sem,↓reduceIte,zA,zB,zC,zD,zE,zF,reduceCtorEq,zG,zH,zI,zJ,zK,zL,zM,zN,zO,zP,hrn,hd1]) (by decide) (by simp only [go_sem,↓reduceIte,zA,zB,zC,zD,zE,zF,reduceCtorEq,zG,zH,zI,zJ,zK,zL,zM,zN,zO,zP,hrn,hd1]) (by simp only [go_sem,↓reduceIte,zA,zB,zC,zD,zE,zF,reduceCtorEq,zG,zH,zI,zJ,zK,zL,zM,zN,zO,zP,List.all_cons,List.all_nil,hrn,hd1]) (by simp) ?_; simp only [go_sem,↓reduceIte,zA,zB,zC,zD,zE,zF,reduceCtorEq,zG,zH,zI,zJ,zK,zL,zM,zN,zO,zP,hrn,hd1]
              cases ht : takes s.nodes[k] with
              | false =>
                rw [if_neg (by simp [ht])] at hF
                simp only [go_sem,↓reduceIte,zA,zB,zC,zD,zE,zF,reduceCtorEq,zG,zH,zI,zJ,zK,zL,zM,zN,zO,zP,hrn,← hF]
              | true =>
                by_cases hq : s.nodes[k].version = v
                · rw [if_pos ⟨ht, hq⟩] at hF
                  have hq1 : (s.nodes[k].version != v) = false := by simp [← hq]
                  simp only [go_sem,↓reduceIte,zA,zB,zC,zD,zE,zF,reduceCtorEq,zG,zH,zI,zJ,zK,zL,zM,zN,zO,zP,hrn,hq1]
                  refine W_lpI (k + 1, v) ?_ ?_ (go _ hF) (by dsimp only; omega)
                  · simp only [go_sem,↓reduceIte,zA,zB,zC,zD,zE,zF,reduceCtorEq,zG,zH,zI,zJ,zK,zL,zM,zN,zO,zP,hd3]
                  · simp only [fitsS,go_sem,↓reduceIte,zA,zB,zC,zD,zE,zF,reduceCtorEq,zG,zH,zI,zJ,zK,zL,zM,zN,zO,zP,wrap_succ (show k < 9223372036854775807 by omega)]
                · rw [if_neg (fun h' => hq h'.2)] at hF
                  have hq1 : (s.nodes[k].version != v) = true := bne_iff_ne.2 hq
                  simp only [go_sem,↓reduceIte,zA,zB,zC,zD,zE,zF,reduceCtorEq,zG,zH,zI,zJ,zK,zL,zM,zN,zO,zP,hrn,hq1,← hF]
        · obtain rfl := eq_of_dec h hk
          rw [List.drop_length] at hF
          simp only [go_sem,↓reduceIte,zA,zB,zC,zD,zE,zF,reduceCtorEq,zG,zH,zI,zJ,zK,zL,zM,zN,zO,zP,← hF,fitsLoop]
    · rw [if_pos (.inr h2)]
  · rw [if_pos (.inl h1)]
end Dv
