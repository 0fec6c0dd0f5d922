/- The plan's next op; the document's. -/
import Derived.Test.YtcanhhnmfkdclaaGreatDoorTC
import Derived.Test.YtcanhhnmfkdclaaGreatDoorT17
import Derived.Test.YtcanhhnmfkdclaaGreatDoorQ6
set_option linter.unusedVariables false
set_option linter.unusedSimpArgs false
namespace Dv
open Go Go.Proofs
open Nat renaming reduceEqDiff → zA, reduceAdd → zB, reduceSub → zC, reduceMul → zD, reduceLT → zE, reduceLeDiff → zF
open Int renaming reduceLE → zG, reduceLT → zH, reduceToNat → zI, reduceBEq → zJ, reduceBNe → zK, reduceEq → zL, reduceAdd → zM, reduceSub → zN, reduceMul → zO, reduceNeg → zP
attribute [local go_sem] argEnv W_nil W_seq W_skip W_ret W_exit W_scope W_block W_blk W_reg W_regD W_cond WC_t WC_f WC_any Wx_c Wx_ops Wx_lp Wx_blk W_ops_nil W_opsD_q W_guard W_guardD WG_tt WG_ff WG_tf WG_ft WG_u WGD_tt WGD_ff WGD_tf WGD_ft WGD_u WE_some WED_some W_more W_mv W_pick W_new W_box W_build W_bsl W_ld1 W_ldn W_st W_nck W_bin W_eqb W_not W_cvt W_fad W_fld1 W_fldn W_ixa W_ixr W_ix1 W_ixs W_len W_lens W_mkf W_ext W_app W_min W_max W_isnp W_isns W_eqs W_neg W_ixn W_sli W_sls WD_more WD_mv WD_pick WD_new WD_box WD_build WD_bsl WD_ld1 WD_ldn WD_st WD_nck WD_bin WD_eqb WD_not WD_cvt WD_fad WD_fld1 WD_fldn WD_ixa WD_ixr WD_ix1 WD_ixs WD_len WD_lens WD_mkf WD_ext WD_app WD_min WD_max WD_isnp WD_isns WD_eqs WD_neg WD_ixn WD_sli WD_sls effF effM bytesOf Opd.ev getE putE binV LV.int LV.bool LV.undef Go.undef LV.cells LV.toD LV.toDs splice fillL rowsOf boxOf srcRows updL objL Eff.owned nwp St.get St.obj St.put Value.oneCell' Ends adopt Ad.ap isNil St.keep St.okKeep okObj idl idlL idlO RVs.of RV.of oneOr Ends0 EndsO_iff frzs rn rnL rnO piOf eqCells eqV boundV Option.map_some Option.map_none List.append_nil List.nil_append List.cons_append List.map_nil List.map_cons List.length_nil List.length_cons List.set_cons_zero List.set_cons_succ List.take_succ_cons List.take_zero List.take_nil List.drop_succ_cons List.drop_zero List.drop_nil List.getElem?_cons_zero List.getElem?_cons_succ List.getElem?_nil List.isEmpty_nil List.isEmpty_cons List.all_cons List.all_nil List.isEmpty_nil cond_true cond_false Bool.true_and Bool.false_and Bool.and_true Bool.and_false Bool.not_true Bool.not_false Bool.or_true Bool.true_or Bool.or_false Bool.false_or true_and and_true true_or or_true Option.some.injEq LV.d.injEq DV.val.injEq Value.bool.injEq Value.int.injEq decide_true decide_false and_self Nat.zero_add Nat.add_zero if_true if_false Int.toNat_zero beq_self_eq_true Nat.zero_lt_succ Int.toNat_natCast Int.natCast_nonneg List.length_map i64 bl List.zip_cons_cons List.zip_nil_left List.zip_nil_right nwp confV stateV nodeV jobV nodesV jobsV opV msgV nodeR jobR opR msgR zeroOp zeroMsg msgsV
variable {G : Nat → Option (List DV)}

/-- plan.Late -/
def ir13 : Nat × C × List RV := (32,
(.seq (.reg [⟨some 2,.box 27 (.t 0),none,[]⟩,
 ⟨some 4,.mv (.c (.val (.slice none 0 0))),none,[]⟩])
 (.seq (.reg [⟨some 5,.mv (.c (.val (.slice none 0 0))),none,[]⟩])
 (.seq (.seq (.reg [⟨some 8,.fad 1 (.t 2),none,[]⟩,
 ⟨some 9,.ld1 (.t 8),none,[]⟩,
 ⟨some 10,.len (.t 9),none,[]⟩,
 ⟨some 11,.mv (.c (.val (.int .i64 0))),none,[]⟩])
 (.block 0 (.loop (.seq (.reg [⟨some 12,.bin .lss (.t 11) (.t 10),none,[]⟩])
 (.seq (.cond (.t 12) .skip
 (.exit 0))
 (.seq (.block 1 (.seq (.reg [⟨some 13,.mv (.t 11),none,[]⟩,
 ⟨some 14,.ixa 12 (.t 9) (.t 11),none,[]⟩,
 ⟨some 15,.ldn 12 (.t 14),none,[]⟩,
 ⟨some 7,.new 47 [(.val (.int .i64 0)),(.val (.int .i64 0)),(.val (.int .i64 0)),(.val (.int .i64 0)),(.val (.int .i64 0)),(.val (.int .i64 0)),(.val (.int .i64 0)),(.val (.int .i64 0)),(.val (.int .i64 0)),(.val (.int .i64 0)),(.val (.int .i64 0)),(.val (.int .i64 0))],none,[]⟩,
 ⟨some 6,.mv (.t 13),none,[]⟩,
 ⟨none,.st 12 (.t 7) (.t 15),none,[]⟩])
 (.seq (.reg [⟨some 16,.fad 6 (.t 7),none,[]⟩,
 ⟨some 17,.ld1 (.t 16),none,[]⟩,
 ⟨some 18,.bin .eql (.t 17) (.c (.val (.int .i64 3))),none,[]⟩,
 ⟨some 19,.mv (.t 18),none,[]⟩,
 ⟨some 20,.fad 10 (.t 7),(some (19,true)),[]⟩,
 ⟨some 21,.ld1 (.t 20),(some (19,true)),[]⟩,
 ⟨some 22,.mv (.t 1),(some (19,true)),[]⟩,
 ⟨some 23,.bin .leq (.t 21) (.t 22),(some (19,true)),[]⟩,
 ⟨some 24,.pick (.t 19) (.t 23) (.c (.val (.bool false))),none,[]⟩])
 (.cond (.t 24) (.reg [⟨some 25,.mv (.t 5),none,[]⟩,
 ⟨some 26,.mv (.t 6),none,[]⟩,
 ⟨some 27,.bin .add (.t 26) (.c (.val (.int .i64 1))),none,[]⟩,
 ⟨some 28,.bsl 3 1 [(.t 27)],none,[]⟩,
 ⟨some 29,.app 3 1 8 (.t 25) (.t 28),none,[]⟩,
 ⟨some 5,.mv (.t 29),none,[]⟩])
 .skip))))
 (.reg [⟨some 30,.bin .add (.t 11) (.c (.val (.int .i64 1))),none,[]⟩,
 ⟨some 11,.mv (.t 30),none,[]⟩])))))))
 (.seq (.reg [⟨some 31,.mv (.t 5),none,[]⟩,
 ⟨some 4,.mv (.t 31),none,[]⟩])
 .ret)))),
[(.t 4)])
theorem irOk13 : convFn Tryz.prog Tryz.f13 = some ir13 := by kernel_rfl
/-- plan.evict -/
def ir24 : Nat × C × List RV := (20,
(.seq (.reg [⟨some 3,.box 23 (.t 0),none,[]⟩,
 ⟨some 4,.box 27 (.t 1),none,[]⟩,
 ⟨some 6,.new 32 [(.val (.int .i64 0)),(.val (.int .i64 0)),(.val (.int .i64 0)),(.val (.int .i64 0)),(.val (.int .i64 0)),(.val (.int .i64 0)),(.val (.int .i64 0))],none,[]⟩,
 ⟨some 7,.mv (.c (.val (.bool false))),none,[]⟩])
 (.seq (.reg [⟨some 9,.ldn 6 (.t 4),none,[]⟩,
 ⟨some 10,.mv (.t 2),none,[]⟩,
 ⟨some 11,.call (.f 13) [(.t 9),(.t 10)],none,[]⟩,
 ⟨some 8,.mv (.t 11),none,[]⟩])
 (.seq (.seq (.reg [⟨some 12,.mv (.t 8),none,[]⟩,
 ⟨some 13,.len (.t 12),none,[]⟩,
 ⟨some 14,.bin .eql (.t 13) (.c (.val (.int .i64 0))),none,[]⟩])
 (.cond (.t 14) (.seq (.reg [⟨some 15,.build [(.val (.int .i64 0)),(.val (.int .i64 0)),(.val (.int .i64 0)),(.val (.int .i64 0)),(.val (.int .i64 0)),(.val (.int .i64 0)),(.val (.int .i64 0))] [],none,[]⟩,
 ⟨none,.st 7 (.t 6) (.t 15),none,[]⟩,
 ⟨some 7,.mv (.c (.val (.bool false))),none,[]⟩])
 .ret)
 .skip))
 (.seq (.reg [⟨some 16,.mv (.t 8),none,[]⟩,
 ⟨some 17,.ixa 1 (.t 16) (.c (.val (.int .i64 0))),none,[]⟩,
 ⟨some 18,.ld1 (.t 17),none,[]⟩,
 ⟨some 19,.build [(.val (.int .i64 0)),(.val (.int .i64 0)),(.val (.int .i64 0)),(.val (.int .i64 0)),(.val (.int .i64 0)),(.val (.int .i64 0)),(.val (.int .i64 0))] [(0,1,(.c (.val (.int .i64 14)))),(1,1,(.t 18))],none,[]⟩,
 ⟨none,.st 7 (.t 6) (.t 19),none,[]⟩,
 ⟨some 7,.mv (.c (.val (.bool true))),none,[]⟩])
 .ret)))),
[(.cn 6 7),(.t 7)])
theorem irOk24 : convFn Tryz.prog Tryz.f24 = some ir24 := by kernel_rfl
/-- plan.hold -/
def ir26 : Nat × C × List RV := (24,
(.seq (.reg [⟨some 3,.box 23 (.t 0),none,[]⟩,
 ⟨some 4,.box 27 (.t 1),none,[]⟩,
 ⟨some 6,.new 32 [(.val (.int .i64 0)),(.val (.int .i64 0)),(.val (.int .i64 0)),(.val (.int .i64 0)),(.val (.int .i64 0)),(.val (.int .i64 0)),(.val (.int .i64 0))],none,[]⟩,
 ⟨some 7,.mv (.c (.val (.bool false))),none,[]⟩])
 (.seq (.reg [⟨some 12,.ldn 6 (.t 4),none,[]⟩,
 ⟨some 13,.mv (.t 2),none,[]⟩,
 ⟨some 14,.call (.f 40) [(.t 12),(.t 13)],none,[]⟩,
 ⟨some 11,.mv (.t 14),none,[]⟩,
 ⟨some 15,.ext (.t 11) 0,none,[]⟩,
 ⟨some 16,.ext (.t 11) 1,none,[]⟩,
 ⟨some 17,.ext (.t 11) 2,none,[]⟩,
 ⟨some 8,.mv (.t 15),none,[]⟩,
 ⟨some 9,.mv (.t 16),none,[]⟩,
 ⟨some 10,.mv (.t 17),none,[]⟩])
 (.seq (.seq (.reg [⟨some 18,.mv (.t 10),none,[]⟩,
 ⟨some 19,.not (.t 18),none,[]⟩])
 (.cond (.t 19) (.seq (.reg [⟨some 20,.build [(.val (.int .i64 0)),(.val (.int .i64 0)),(.val (.int .i64 0)),(.val (.int .i64 0)),(.val (.int .i64 0)),(.val (.int .i64 0)),(.val (.int .i64 0))] [],none,[]⟩,
 ⟨none,.st 7 (.t 6) (.t 20),none,[]⟩,
 ⟨some 7,.mv (.c (.val (.bool false))),none,[]⟩])
 .ret)
 .skip))
 (.seq (.reg [⟨some 21,.mv (.t 8),none,[]⟩,
 ⟨some 22,.mv (.t 9),none,[]⟩,
 ⟨some 23,.build [(.val (.int .i64 0)),(.val (.int .i64 0)),(.val (.int .i64 0)),(.val (.int .i64 0)),(.val (.int .i64 0)),(.val (.int .i64 0)),(.val (.int .i64 0))] [(0,1,(.c (.val (.int .i64 9)))),(1,1,(.t 21)),(2,1,(.t 22))],none,[]⟩,
 ⟨none,.st 7 (.t 6) (.t 23),none,[]⟩,
 ⟨some 7,.mv (.c (.val (.bool true))),none,[]⟩])
 .ret)))),
[(.cn 6 7),(.t 7)])
theorem irOk26 : convFn Tryz.prog Tryz.f26 = some ir26 := by kernel_rfl
/-- plan.Next -/
def ir10 : Nat × C × List RV := (32,
(.seq (.reg [⟨some 3,.box 23 (.t 0),none,[]⟩,
 ⟨some 4,.box 27 (.t 1),none,[]⟩,
 ⟨some 6,.new 32 [(.val (.int .i64 0)),(.val (.int .i64 0)),(.val (.int .i64 0)),(.val (.int .i64 0)),(.val (.int .i64 0)),(.val (.int .i64 0)),(.val (.int .i64 0))],none,[]⟩,
 ⟨some 7,.mv (.c (.val (.bool false))),none,[]⟩])
 (.seq (.seq (.reg [⟨some 12,.build [(.val .nilFunc)] [(0,1,(.f 24))],none,[]⟩,
 ⟨some 13,.build [(.val .nilFunc)] [(0,1,(.f 25))],none,[]⟩,
 ⟨some 14,.build [(.val .nilFunc)] [(0,1,(.f 26))],none,[]⟩,
 ⟨some 15,.build [(.val .nilFunc),(.val .nilFunc),(.val .nilFunc)] [(0,1,(.t 12)),(1,1,(.t 13)),(2,1,(.t 14))],none,[]⟩,
 ⟨some 16,.mv (.c (.val (.int .i64 0))),none,[]⟩])
 (.block 0 (.loop (.seq (.reg [⟨some 17,.bin .lss (.t 16) (.c (.val (.int .i64 3))),none,[]⟩])
 (.seq (.cond (.t 17) .skip
 (.exit 0))
 (.seq (.block 1 (.seq (.reg [⟨some 18,.ixn 3 1 (.t 15) (.t 16),none,[]⟩,
 ⟨some 9,.new 56 [(.val .nilFunc)],none,[]⟩,
 ⟨none,.st 1 (.t 9) (.t 18),none,[]⟩])
 (.seq (.reg [⟨some 20,.fad 0 (.t 9),none,[]⟩,
 ⟨some 21,.ld1 (.t 20),none,[]⟩,
 ⟨some 22,.ldn 9 (.t 3),none,[]⟩,
 ⟨some 23,.ldn 6 (.t 4),none,[]⟩,
 ⟨some 24,.mv (.t 2),none,[]⟩,
 ⟨some 25,.call (.t 21) [(.t 22),(.t 23),(.t 24)],none,[]⟩,
 ⟨some 19,.mv (.t 25),none,[]⟩,
 ⟨some 26,.ext (.t 19) 0,none,[]⟩,
 ⟨some 27,.ext (.t 19) 1,none,[]⟩,
 ⟨some 10,.new 32 [(.val (.int .i64 0)),(.val (.int .i64 0)),(.val (.int .i64 0)),(.val (.int .i64 0)),(.val (.int .i64 0)),(.val (.int .i64 0)),(.val (.int .i64 0))],none,[]⟩,
 ⟨none,.st 7 (.t 10) (.t 26),none,[]⟩,
 ⟨some 11,.mv (.t 27),none,[]⟩])
 (.seq (.reg [⟨some 28,.mv (.t 11),none,[]⟩])
 (.cond (.t 28) (.seq (.reg [⟨some 29,.ldn 7 (.t 10),none,[]⟩,
 ⟨none,.st 7 (.t 6) (.t 29),none,[]⟩,
 ⟨some 7,.mv (.c (.val (.bool true))),none,[]⟩])
 .ret)
 .skip)))))
 (.reg [⟨some 30,.bin .add (.t 16) (.c (.val (.int .i64 1))),none,[]⟩,
 ⟨some 16,.mv (.t 30),none,[]⟩])))))))
 (.seq (.reg [⟨some 31,.build [(.val (.int .i64 0)),(.val (.int .i64 0)),(.val (.int .i64 0)),(.val (.int .i64 0)),(.val (.int .i64 0)),(.val (.int .i64 0)),(.val (.int .i64 0))] [],none,[]⟩,
 ⟨none,.st 7 (.t 6) (.t 31),none,[]⟩,
 ⟨some 7,.mv (.c (.val (.bool false))),none,[]⟩])
 .ret))),
[(.cn 6 7),(.t 7)])
theorem irOk10 : convFn Tryz.prog Tryz.f10 = some ir10 := by kernel_rfl
def ltS (s : StateD) (now : Int) (k : Nat) : St := ⟨[(1, .int now), (2, .ptr 0 0), (5, .sl 1 (lateTo s now k).length 1 0 (lateTo s now k).length), (9, jobsV s.jobs), (10, .int s.jobs.length), (11, .int k)], [some (boxS s), some (.dat 3 1 (natR (lateTo s now k)))]⟩
set_option maxHeartbeats 4000000 in
theorem late_tri (s : StateD) (now : Int) (hn : s.jobs.length ≤ 1000) : Tri Tryz.prog G 13 [stateV s, .int now] [] (.d (.lst 1 (natR (lateN s now)))) [] := by
  refine tri_W Tryz.func13 (by decide) irOk13 (Nat.le_of_ble_eq_true rfl) ?_
  simp only [ir13,go_sem,↓reduceIte,zA,zB,zC,zD,zE,zF,reduceCtorEq,zG,zH,zI,zJ,zK,zL,zM,zN,zO,zP]
  refine W_loopI [1, 2, 5, 9, 10, 11] [.t 5 3 1] (fun k : Nat => k ≤ s.jobs.length) (fun k => s.jobs.length - k) (ltS s now) 0 ?_ (Nat.zero_le _) (fun k hk => ?_)
  · simp only [ltS,boxS,go_sem,↓reduceIte,zA,zB,zC,zD,zE,zF,reduceCtorEq,zG,zH,zI,zJ,zK,zL,zM,zN,zO,zP,lateTo,List.range_zero,List.filter_nil,natR,Int.natCast_zero]
  simp only [ltS,boxS,List.length_map,go_sem,↓reduceIte,zA,zB,zC,zD,zE,zF,reduceCtorEq,zG,zH,zI,zJ,zK,zL,zM,zN,zO,zP]
  by_cases hlt : k < s.jobs.length
  · have hg := get_mapD (f := jobR) zeroJob hlt
    have hk2 := lateTo_succ s now k
    have hlen := lateTo_len s now k
    have hbd : ((lateTo s now k).length + 1) * 8 ≤ 70368744177664 := by omega
    have hq : lateB s now k = (decide ((s.jobs.getD k zeroJob).phase = 3) && decide ((s.jobs.getD k zeroJob).til ≤ now)) := rfl
    generalize s.jobs.getD k zeroJob = j at *
    simp only [jobR] at hg
    simp only [decide_eq_true (show ((k : Nat) : Int) < ((s.jobs.length : Nat) : Int) by omega),hg,go_sem,↓reduceIte,zA,zB,zC,zD,zE,zF,reduceCtorEq,zG,zH,zI,zJ,zK,zL,zM,zN,zO,zP]
    by_cases hb : j.phase = 3
    case neg =>
      rw [hq, decide_eq_false hb, Bool.false_and, if_neg (by decide), List.append_nil] at hk2
      simp only [show (j.phase == 3) = false from beq_eq_false_iff_ne.2 hb,go_sem,↓reduceIte,zA,zB,zC,zD,zE,zF,reduceCtorEq,zG,zH,zI,zJ,zK,zL,zM,zN,zO,zP]
      refine W_lpI (k + 1) ?_ ?_ (by omega) (by omega)
      · simp only [go_sem,↓reduceIte,zA,zB,zC,zD,zE,zF,reduceCtorEq,zG,zH,zI,zJ,zK,zL,zM,zN,zO,zP]
      · simp only [ltS,boxS,hk2,natR,List.map_append,List.length_append,go_sem,↓reduceIte,zA,zB,zC,zD,zE,zF,reduceCtorEq,zG,zH,zI,zJ,zK,zL,zM,zN,zO,zP,wrap_succ (show k < 9223372036854775807 by omega)]
    simp only [show (j.phase == 3) = true from beq_iff_eq.2 hb,go_sem,↓reduceIte,zA,zB,zC,zD,zE,zF,reduceCtorEq,zG,zH,zI,zJ,zK,zL,zM,zN,zO,zP]
    by_cases hu : j.til ≤ now
    · rw [hq, decide_eq_true hb, decide_eq_true hu, Bool.true_and, if_pos rfl] at hk2
      simp only [decide_eq_true hu,natR,List.length_append,hbd,wrap_succ (show k < 9223372036854775807 by omega),go_sem,↓reduceIte,zA,zB,zC,zD,zE,zF,reduceCtorEq,zG,zH,zI,zJ,zK,zL,zM,zN,zO,zP]
      refine W_lpI (k + 1) ?_ ?_ (by omega) (by omega)
      · simp only [go_sem,↓reduceIte,zA,zB,zC,zD,zE,zF,reduceCtorEq,zG,zH,zI,zJ,zK,zL,zM,zN,zO,zP]
      · simp only [ltS,boxS,hk2,natR,List.map_append,List.length_append,go_sem,↓reduceIte,zA,zB,zC,zD,zE,zF,reduceCtorEq,zG,zH,zI,zJ,zK,zL,zM,zN,zO,zP,wrap_succ (show k < 9223372036854775807 by omega)]
    · rw [hq, decide_eq_false hu, Bool.and_false, if_neg (by decide), List.append_nil] at hk2
      simp only [decide_eq_false hu,go_sem,↓reduceIte,zA,zB,zC,zD,zE,zF,reduceCtorEq,zG,zH,zI,zJ,zK,zL,zM,zN,zO,zP]
      refine W_lpI (k + 1) ?_ ?_ (by omega) (by omega)
      · simp only [go_sem,↓reduceIte,zA,zB,zC,zD,zE,zF,reduceCtorEq,zG,zH,zI,zJ,zK,zL,zM,zN,zO,zP]
      · simp only [ltS,boxS,hk2,natR,List.map_append,List.length_append,go_sem,↓reduceIte,zA,zB,zC,zD,zE,zF,reduceCtorEq,zG,zH,zI,zJ,zK,zL,zM,zN,zO,zP,wrap_succ (show k < 9223372036854775807 by omega)]
  · obtain rfl : k = s.jobs.length := by omega
    simp only [decide_eq_false (show ¬ ((s.jobs.length : Nat) : Int) < ((s.jobs.length : Nat) : Int) by omega),show lateTo s now s.jobs.length = lateN s now from rfl,go_sem,↓reduceIte,zA,zB,zC,zD,zE,zF,reduceCtorEq,zG,zH,zI,zJ,zK,zL,zM,zN,zO,zP]
    exact BackZ [1] rfl (by simp [St.obj,objL]) (by simp [St.obj,objL,oneOr,St.get,getE,argR,rowsAt,natR,List.take_of_length_le])
theorem pevict_tri (c : ConfD) (s : StateD) (now : Int) (hn : s.jobs.length ≤ 1000) : Tri Tryz.prog G 24 [confV c, stateV s, .int now] [] (optV (evictO s now)) [] := by
  refine tri_W0 Tryz.func24 (by decide) irOk24 (Nat.le_of_ble_eq_true rfl) rfl ?_
  simp only [ir24,go_sem,↓reduceIte,zA,zB,zC,zD,zE,zF,reduceCtorEq,zG,zH,zI,zJ,zK,zL,zM,zN,zO,zP]
  unfold evictO
  refine W_calld (late_tri s now hn) rfl rfl rfl rfl ?_; simp only [go_sem,↓reduceIte,zA,zB,zC,zD,zE,zF,reduceCtorEq,zG,zH,zI,zJ,zK,zL,zM,zN,zO,zP]
  cases lateN s now with
  | nil => simp only [natR,List.map_nil,List.length_nil,Int.natCast_zero,beq_self_eq_true,optV,Option.getD_none,Option.isSome_none,zeroOp,go_sem,↓reduceIte,zA,zB,zC,zD,zE,zF,reduceCtorEq,zG,zH,zI,zJ,zK,zL,zM,zN,zO,zP]
  | cons k l =>
    simp only [natR,List.map_cons,List.length_cons,List.length_map,show ((((l.length + 1 : Nat) : Int)) == 0) = false from beq_eq_false_iff_ne.2 (by omega),List.getElem?_cons_zero,optV,Option.getD_some,Option.isSome_some,go_sem,↓reduceIte,zA,zB,zC,zD,zE,zF,reduceCtorEq,zG,zH,zI,zJ,zK,zL,zM,zN,zO,zP]
theorem phold_tri (c : ConfD) (s : StateD) (h : FitS s) (now : Int) (h0 : TimeR now) : Tri Tryz.prog G 26 [confV c, stateV s, .int now] [] (optV (holdO s now)) [] := by
  refine tri_W0 Tryz.func26 (by decide) irOk26 (Nat.le_of_ble_eq_true rfl) rfl ?_
  simp only [ir26,go_sem,↓reduceIte,zA,zB,zC,zD,zE,zF,reduceCtorEq,zG,zH,zI,zJ,zK,zL,zM,zN,zO,zP]
  unfold holdO
  refine W_calld (anext_tri s h now h0) rfl rfl rfl rfl ?_; simp only [go_sem,↓reduceIte,zA,zB,zC,zD,zE,zF,reduceCtorEq,zG,zH,zI,zJ,zK,zL,zM,zN,zO,zP]
  generalize anextS s now = r
  obtain ⟨job, n, ok⟩ := r
  cases ok with
  | true => simp only [if_true,optV,Option.getD_some,Option.isSome_some,go_sem,↓reduceIte,zA,zB,zC,zD,zE,zF,reduceCtorEq,zG,zH,zI,zJ,zK,zL,zM,zN,zO,zP]
  | false => simp only [Bool.false_eq_true,if_false,optV,Option.getD_none,Option.isSome_none,zeroOp,go_sem,↓reduceIte,zA,zB,zC,zD,zE,zF,reduceCtorEq,zG,zH,zI,zJ,zK,zL,zM,zN,zO,zP]
def plFns : List LV := [.d (.fn (.func 24) [] []), .d (.fn (.func 25) [] []), .d (.fn (.func 26) [] [])]
def restP (c : ConfD) (s : StateD) (now : Int) : Nat → Option OpD
  | 0 => planO c s now
  | 1 => match nextW c s now with
    | some o => some o
    | none => holdO s now
  | 2 => holdO s now
  | _ => none
def plNS (c : ConfD) (s : StateD) (now : Int) (i : Nat) : St := ⟨[(2, .int now), (3, .ptr 0 0), (4, .ptr 1 0), (6, .ptr 2 0), (7, .bool false), (15, .agg plFns), (16, .int i)], [some (boxC7 c), some (boxS7 s), some opO7]⟩
theorem time_dead {c : ConfD} (hm : mayB c = true) {now : Int} (h0 : TimeR now) : -1000000000 ≤ now + c.deadline ∧ now + c.deadline ≤ 1000000000 := by
  unfold mayB at hm
  simp only [Bool.and_eq_true] at hm
  have := within_t hm.1.1.2
  have h1 := h0.1
  have h2 := h0.2
  omega
theorem RightP.nj {c : ConfD} {s : StateD} (h : RightP c s) : NJ s := ⟨by have := h.len; omega, by have := h.jobs; omega, h.job⟩
set_option maxHeartbeats 4000000 in
theorem plan_tri (c : ConfD) (s : StateD) (h : RightP c s) (now : Int) (h0 : TimeR now) : Tri Tryz.prog G 10 [confV c, stateV s, .int now] [] (optV (planO c s now)) [] := by
  refine tri_W0 Tryz.func10 (by decide) irOk10 (Nat.le_of_ble_eq_true rfl) rfl ?_
  simp only [ir10,go_sem,↓reduceIte,zA,zB,zC,zD,zE,zF,reduceCtorEq,zG,zH,zI,zJ,zK,zL,zM,zN,zO,zP]
  generalize hr : planO c s now = r
  have hd := time_dead h.conf h0
  refine W_loopI [2, 3, 4, 6, 7, 15, 16] [] (fun i : Nat => i ≤ 3 ∧ restP c s now i = r) (fun i => 3 - i) (plNS c s now) 0 ?_ ⟨by omega, hr⟩ ?_
  · simp only [plNS,plFns,boxC7,boxS7,opO7,Int.natCast_zero,go_sem,↓reduceIte,zA,zB,zC,zD,zE,zF,reduceCtorEq,zG,zH,zI,zJ,zK,zL,zM,zN,zO,zP]
  clear hr
  rintro i ⟨hi, hr⟩
  simp only [plNS,plFns,boxC7,boxS7,opO7,go_sem,↓reduceIte,zA,zB,zC,zD,zE,zF,reduceCtorEq,zG,zH,zI,zJ,zK,zL,zM,zN,zO,zP]
  match i, hi with
  | 0, _ =>
    simp only [restP,planO] at hr
    simp only [show (decide (((0 : Nat) : Int) < 3)) = true from rfl,go_sem,↓reduceIte,zA,zB,zC,zD,zE,zF,reduceCtorEq,zG,zH,zI,zJ,zK,zL,zM,zN,zO,zP]
    refine W_calld (pevict_tri c s now (by have := h.jobs; omega)) rfl rfl rfl rfl ?_; simp only [go_sem,↓reduceIte,zA,zB,zC,zD,zE,zF,reduceCtorEq,zG,zH,zI,zJ,zK,zL,zM,zN,zO,zP]
    generalize evictO s now = o at hr ⊢
    cases o with
    | some o =>
      try dsimp only at hr
      subst hr
      obtain ⟨o1, o2, o3, o4, o5, o6, o7⟩ := o
      simp only [optV,Option.getD_some,Option.isSome_some,go_sem,↓reduceIte,zA,zB,zC,zD,zE,zF,reduceCtorEq,zG,zH,zI,zJ,zK,zL,zM,zN,zO,zP]
    | none =>
      try dsimp only at hr
      simp only [optV,Option.getD_none,Option.isSome_none,zeroOp,go_sem,↓reduceIte,zA,zB,zC,zD,zE,zF,reduceCtorEq,zG,zH,zI,zJ,zK,zL,zM,zN,zO,zP]
      refine W_lpI 1 ?_ ?_ ⟨by omega, by first | exact hr | (subst hr; rfl)⟩ (by omega)
      · simp only [go_sem,↓reduceIte,zA,zB,zC,zD,zE,zF,reduceCtorEq,zG,zH,zI,zJ,zK,zL,zM,zN,zO,zP]
      · simp only [plNS,plFns,boxC7,boxS7,opO7,go_sem,↓reduceIte,zA,zB,zC,zD,zE,zF,reduceCtorEq,zG,zH,zI,zJ,zK,zL,zM,zN,zO,zP]
        rfl
  | 1, _ =>
    simp only [restP] at hr
    simp only [show (decide (((1 : Nat) : Int) < 3)) = true from rfl,go_sem,↓reduceIte,zA,zB,zC,zD,zE,zF,reduceCtorEq,zG,zH,zI,zJ,zK,zL,zM,zN,zO,zP]
    refine W_calld (next_tri c s now h.nj hd) rfl rfl rfl rfl ?_; simp only [go_sem,↓reduceIte,zA,zB,zC,zD,zE,zF,reduceCtorEq,zG,zH,zI,zJ,zK,zL,zM,zN,zO,zP]
    generalize nextW c s now = o at hr ⊢
    cases o with
    | some o =>
      try dsimp only at hr
      subst hr
      obtain ⟨o1, o2, o3, o4, o5, o6, o7⟩ := o
      simp only [optV,Option.getD_some,Option.isSome_some,go_sem,↓reduceIte,zA,zB,zC,zD,zE,zF,reduceCtorEq,zG,zH,zI,zJ,zK,zL,zM,zN,zO,zP]
    | none =>
      try dsimp only at hr
      simp only [optV,Option.getD_none,Option.isSome_none,zeroOp,go_sem,↓reduceIte,zA,zB,zC,zD,zE,zF,reduceCtorEq,zG,zH,zI,zJ,zK,zL,zM,zN,zO,zP]
      refine W_lpI 2 ?_ ?_ ⟨by omega, by first | exact hr | (subst hr; rfl)⟩ (by omega)
      · simp only [go_sem,↓reduceIte,zA,zB,zC,zD,zE,zF,reduceCtorEq,zG,zH,zI,zJ,zK,zL,zM,zN,zO,zP]
      · simp only [plNS,plFns,boxC7,boxS7,opO7,go_sem,↓reduceIte,zA,zB,zC,zD,zE,zF,reduceCtorEq,zG,zH,zI,zJ,zK,zL,zM,zN,zO,zP]
        rfl
  | 2, _ =>
    simp only [restP] at hr
    simp only [show (decide (((2 : Nat) : Int) < 3)) = true from rfl,go_sem,↓reduceIte,zA,zB,zC,zD,zE,zF,reduceCtorEq,zG,zH,zI,zJ,zK,zL,zM,zN,zO,zP]
    refine W_calld (phold_tri c s h.fits now h0) rfl rfl rfl rfl ?_; simp only [go_sem,↓reduceIte,zA,zB,zC,zD,zE,zF,reduceCtorEq,zG,zH,zI,zJ,zK,zL,zM,zN,zO,zP]
    generalize holdO s now = o at hr ⊢
    cases o with
    | some o =>
      try dsimp only at hr
      subst hr
      obtain ⟨o1, o2, o3, o4, o5, o6, o7⟩ := o
      simp only [optV,Option.getD_some,Option.isSome_some,go_sem,↓reduceIte,zA,zB,zC,zD,zE,zF,reduceCtorEq,zG,zH,zI,zJ,zK,zL,zM,zN,zO,zP]
    | none =>
      try dsimp only at hr
      simp only [optV,Option.getD_none,Option.isSome_none,zeroOp,go_sem,↓reduceIte,zA,zB,zC,zD,zE,zF,reduceCtorEq,zG,zH,zI,zJ,zK,zL,zM,zN,zO,zP]
      refine W_lpI 3 ?_ ?_ ⟨by omega, by first | exact hr | (subst hr; rfl)⟩ (by omega)
      · simp only [go_sem,↓reduceIte,zA,zB,zC,zD,zE,zF,reduceCtorEq,zG,zH,zI,zJ,zK,zL,zM,zN,zO,zP]
      · simp only [plNS,plFns,boxC7,boxS7,opO7,go_sem,↓reduceIte,zA,zB,zC,zD,zE,zF,reduceCtorEq,zG,zH,zI,zJ,zK,zL,zM,zN,zO,zP]
        rfl
  | 3, _ =>
    simp only [restP] at hr
    subst hr
    simp only [show (decide (((3 : Nat) : Int) < 3)) = false from rfl,optV,Option.getD_none,Option.isSome_none,zeroOp,go_sem,↓reduceIte,zA,zB,zC,zD,zE,zF,reduceCtorEq,zG,zH,zI,zJ,zK,zL,zM,zN,zO,zP]
end Dv
