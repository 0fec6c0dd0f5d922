/- Layer 18's laws: PlanParts, PlanKeeps. -/
import Derived.Test.YtcanhhnmfkdclaaGreatDoorU7
set_option linter.unusedVariables false
set_option linter.unusedSimpArgs false
namespace Dv
open Go Go.Proofs
open Nat renaming reduceEqDiff → zA, reduceAdd → zB, reduceSub → zC, reduceMul → zD, reduceLT → zE, reduceLeDiff → zF
open Int renaming reduceLE → zG, reduceLT → zH, reduceToNat → zI, reduceBEq → zJ, reduceBNe → zK, reduceEq → zL, reduceAdd → zM, reduceSub → zN, reduceMul → zO, reduceNeg → zP
attribute [local go_sem] argEnv W_nil W_seq W_skip W_ret W_exit W_scope W_block W_blk W_reg W_regD W_cond WC_t WC_f WC_any Wx_c Wx_ops Wx_lp Wx_blk W_ops_nil W_opsD_q W_guard W_guardD WG_tt WG_ff WG_tf WG_ft WG_u WGD_tt WGD_ff WGD_tf WGD_ft WGD_u WE_some WED_some W_more W_mv W_pick W_new W_box W_build W_bsl W_ld1 W_ldn W_st W_nck W_bin W_eqb W_not W_cvt W_fad W_fld1 W_fldn W_ixa W_ixr W_ix1 W_ixs W_len W_lens W_mkf W_ext W_app W_min W_max W_isnp W_isns W_eqs W_neg W_ixn W_sli W_sls WD_more WD_mv WD_pick WD_new WD_box WD_build WD_bsl WD_ld1 WD_ldn WD_st WD_nck WD_bin WD_eqb WD_not WD_cvt WD_fad WD_fld1 WD_fldn WD_ixa WD_ixr WD_ix1 WD_ixs WD_len WD_lens WD_mkf WD_ext WD_app WD_min WD_max WD_isnp WD_isns WD_eqs WD_neg WD_ixn WD_sli WD_sls effF effM bytesOf Opd.ev getE putE binV LV.int LV.bool LV.undef Go.undef LV.cells LV.toD LV.toDs splice fillL rowsOf boxOf srcRows updL objL Eff.owned nwp St.get St.obj St.put Value.oneCell' Ends adopt Ad.ap isNil St.keep St.okKeep okObj idl idlL idlO RVs.of RV.of oneOr Ends0 EndsO_iff frzs rn rnL rnO piOf eqCells eqV boundV Option.map_some Option.map_none List.append_nil List.nil_append List.cons_append List.map_nil List.map_cons List.length_nil List.length_cons List.set_cons_zero List.set_cons_succ List.take_succ_cons List.take_zero List.take_nil List.drop_succ_cons List.drop_zero List.drop_nil List.getElem?_cons_zero List.getElem?_cons_succ List.getElem?_nil List.isEmpty_nil List.isEmpty_cons List.all_cons List.all_nil List.isEmpty_nil cond_true cond_false Bool.true_and Bool.false_and Bool.and_true Bool.and_false Bool.not_true Bool.not_false Bool.or_true Bool.true_or Bool.or_false Bool.false_or true_and and_true true_or or_true Option.some.injEq LV.d.injEq DV.val.injEq Value.bool.injEq Value.int.injEq decide_true decide_false and_self Nat.zero_add Nat.add_zero if_true if_false Int.toNat_zero beq_self_eq_true Nat.zero_lt_succ Int.toNat_natCast Int.natCast_nonneg List.length_map i64 bl List.zip_cons_cons List.zip_nil_left List.zip_nil_right nwp confV stateV nodeV jobV nodesV jobsV opV msgV nodeR jobR opR msgR zeroOp zeroMsg msgsV
variable {G : Nat → Option (List DV)}

/-- dunnagelaw18.PlanKeeps -/
def ir6 : Nat × C × List RV := (136,
(.seq (.reg [⟨some 3,.box 23 (.t 0),none,[]⟩,
 ⟨some 4,.box 27 (.t 1),none,[]⟩,
 ⟨some 6,.mv (.c (.val (.bool false))),none,[]⟩])
 (.seq (.seq (.reg [⟨some 12,.call (.f 7) [],none,[]⟩,
 ⟨some 13,.not (.t 12),none,[]⟩])
 (.cond (.t 13) (.seq (.reg [⟨some 6,.mv (.c (.val (.bool false))),none,[]⟩])
 .ret)
 .skip))
 (.seq (.seq (.reg [⟨some 14,.ldn 9 (.t 3),none,[]⟩,
 ⟨some 15,.ldn 6 (.t 4),none,[]⟩,
 ⟨some 16,.call (.f 8) [(.t 14),(.t 15)],none,[]⟩,
 ⟨some 17,.not (.t 16),none,[]⟩,
 ⟨some 18,.mv (.t 17),none,[]⟩,
 ⟨some 19,.mv (.t 2),(some (18,false)),[]⟩,
 ⟨some 20,.call (.f 9) [(.t 19)],(some (18,false)),[]⟩,
 ⟨some 21,.not (.t 20),(some (18,false)),[]⟩,
 ⟨some 22,.pick (.t 18) (.c (.val (.bool true))) (.t 21),none,[]⟩])
 (.cond (.t 22) (.seq (.reg [⟨some 6,.mv (.c (.val (.bool true))),none,[]⟩])
 .ret)
 .skip))
 (.seq (.reg [⟨some 24,.ldn 9 (.t 3),none,[]⟩,
 ⟨some 25,.ldn 6 (.t 4),none,[]⟩,
 ⟨some 26,.mv (.t 2),none,[]⟩,
 ⟨some 27,.call (.f 15) [(.t 24),(.t 25),(.t 26),(.c (.val (.int .i64 90)))],none,[]⟩,
 ⟨some 23,.mv (.t 27),none,[]⟩,
 ⟨some 28,.ext (.t 23) 0,none,[]⟩,
 ⟨some 29,.ext (.t 23) 1,none,[]⟩,
 ⟨some 7,.new 27 [(.val (.slice none 0 0)),(.val (.slice none 0 0)),(.val (.int .i64 0)),(.val (.int .i64 0)),(.val (.int .i64 0)),(.val (.int .i64 0))],none,[]⟩,
 ⟨none,.st 6 (.t 7) (.t 28),none,[]⟩,
 ⟨some 8,.mv (.t 29),none,[]⟩])
 (.seq (.seq (.reg [⟨some 9,.mv (.c (.val (.int .i64 0))),none,[]⟩])
 (.block 0 (.loop (.seq (.seq (.reg [⟨some 30,.mv (.t 9),none,[]⟩,
 ⟨some 31,.mv (.t 8),none,[]⟩,
 ⟨some 32,.len (.t 31),none,[]⟩,
 ⟨some 33,.bin .lss (.t 30) (.t 32),none,[]⟩])
 (.cond (.t 33) .skip
 (.exit 0)))
 (.seq (.block 1 (.seq (.reg [⟨some 36,.mv (.t 8),none,[]⟩,
 ⟨some 37,.mv (.t 9),none,[]⟩,
 ⟨some 38,.ixa 7 (.t 36) (.t 37),none,[]⟩,
 ⟨some 39,.fad 0 (.t 38),none,[]⟩,
 ⟨some 40,.ld1 (.t 39),none,[]⟩,
 ⟨some 10,.mv (.t 40),none,[]⟩])
 (.seq (.reg [⟨some 41,.mv (.t 10),none,[]⟩,
 ⟨some 42,.bin .neq (.t 41) (.c (.val (.int .i64 9))),none,[]⟩,
 ⟨some 43,.mv (.t 42),none,[]⟩,
 ⟨some 44,.mv (.t 10),(some (43,true)),[]⟩,
 ⟨some 45,.bin .neq (.t 44) (.c (.val (.int .i64 11))),(some (43,true)),[]⟩,
 ⟨some 46,.pick (.t 43) (.t 45) (.c (.val (.bool false))),none,[]⟩,
 ⟨some 47,.mv (.t 46),none,[]⟩,
 ⟨some 48,.mv (.t 10),(some (47,true)),[]⟩,
 ⟨some 49,.bin .neq (.t 48) (.c (.val (.int .i64 20))),(some (47,true)),[]⟩,
 ⟨some 50,.pick (.t 47) (.t 49) (.c (.val (.bool false))),none,[]⟩,
 ⟨some 51,.mv (.t 50),none,[]⟩,
 ⟨some 52,.mv (.t 10),(some (51,true)),[]⟩,
 ⟨some 53,.bin .neq (.t 52) (.c (.val (.int .i64 12))),(some (51,true)),[]⟩,
 ⟨some 54,.pick (.t 51) (.t 53) (.c (.val (.bool false))),none,[]⟩,
 ⟨some 55,.mv (.t 54),none,[]⟩,
 ⟨some 56,.mv (.t 10),(some (55,true)),[]⟩,
 ⟨some 57,.bin .neq (.t 56) (.c (.val (.int .i64 14))),(some (55,true)),[]⟩,
 ⟨some 58,.pick (.t 55) (.t 57) (.c (.val (.bool false))),none,[]⟩,
 ⟨some 59,.mv (.t 58),none,[]⟩,
 ⟨some 60,.mv (.t 10),(some (59,true)),[]⟩,
 ⟨some 61,.bin .neq (.t 60) (.c (.val (.int .i64 16))),(some (59,true)),[]⟩,
 ⟨some 62,.pick (.t 59) (.t 61) (.c (.val (.bool false))),none,[]⟩,
 ⟨some 63,.mv (.t 62),none,[]⟩,
 ⟨some 64,.mv (.t 10),(some (63,true)),[]⟩,
 ⟨some 65,.bin .neq (.t 64) (.c (.val (.int .i64 17))),(some (63,true)),[]⟩,
 ⟨some 66,.pick (.t 63) (.t 65) (.c (.val (.bool false))),none,[]⟩,
 ⟨some 67,.mv (.t 66),none,[]⟩,
 ⟨some 68,.mv (.t 10),(some (67,true)),[]⟩,
 ⟨some 69,.bin .neq (.t 68) (.c (.val (.int .i64 18))),(some (67,true)),[]⟩,
 ⟨some 70,.pick (.t 67) (.t 69) (.c (.val (.bool false))),none,[]⟩])
 (.cond (.t 70) (.seq (.reg [⟨some 6,.mv (.c (.val (.bool false))),none,[]⟩])
 .ret)
 .skip))))
 (.reg [⟨some 34,.mv (.t 9),none,[]⟩,
 ⟨some 35,.bin .add (.t 34) (.c (.val (.int .i64 1))),none,[]⟩,
 ⟨some 9,.mv (.t 35),none,[]⟩]))))))
 (.seq (.seq (.reg [⟨some 11,.mv (.c (.val (.int .i64 0))),none,[]⟩])
 (.block 2 (.loop (.seq (.seq (.reg [⟨some 71,.mv (.t 11),none,[]⟩,
 ⟨some 72,.fad 1 (.t 4),none,[]⟩,
 ⟨some 73,.ld1 (.t 72),none,[]⟩,
 ⟨some 74,.len (.t 73),none,[]⟩,
 ⟨some 75,.bin .lss (.t 71) (.t 74),none,[]⟩])
 (.cond (.t 75) .skip
 (.exit 2)))
 (.seq (.block 3 (.seq (.regD [⟨some 78,.fad 1 (.t 4),none,[]⟩,
 ⟨some 79,.ld1 (.t 78),none,[0]⟩,
 ⟨some 80,.mv (.t 11),none,[]⟩,
 ⟨some 81,.ixa 12 (.t 79) (.t 80),none,[1,0,2]⟩,
 ⟨some 82,.fad 6 (.t 81),none,[3,1,0,2]⟩,
 ⟨some 83,.ld1 (.t 82),none,[4,3,1,0,2]⟩,
 ⟨some 84,.bin .eql (.t 83) (.c (.val (.int .i64 4))),none,[5,4,3,1,0,2]⟩,
 ⟨some 85,.fad 1 (.t 7),none,[]⟩,
 ⟨some 86,.ld1 (.t 85),none,[7]⟩,
 ⟨some 87,.mv (.t 11),none,[]⟩,
 ⟨some 88,.ixa 12 (.t 86) (.t 87),none,[8,7,9]⟩,
 ⟨some 89,.fad 6 (.t 88),none,[10,8,7,9]⟩,
 ⟨some 90,.ld1 (.t 89),none,[11,10,8,7,9]⟩,
 ⟨some 91,.bin .eql (.t 90) (.c (.val (.int .i64 4))),none,[12,11,10,8,7,9]⟩,
 ⟨some 92,.eqb true (.t 84) (.t 91),none,[6,5,4,3,1,0,2,13,12,11,10,8,7,9]⟩,
 ⟨some 93,.mv (.t 92),none,[14,6,5,4,3,1,0,2,13,12,11,10,8,7,9]⟩,
 ⟨some 94,.fad 1 (.t 4),(some (93,false)),[15,14,6,5,4,3,1,0,2,13,12,11,10,8,7,9]⟩,
 ⟨some 95,.ld1 (.t 94),(some (93,false)),[16,15,14,6,5,4,3,1,0,2,13,12,11,10,8,7,9]⟩,
 ⟨some 96,.mv (.t 11),(some (93,false)),[15,14,6,5,4,3,1,0,2,13,12,11,10,8,7,9]⟩,
 ⟨some 97,.ixa 12 (.t 95) (.t 96),(some (93,false)),[17,16,15,14,6,5,4,3,1,0,2,13,12,11,10,8,7,9,18]⟩,
 ⟨some 98,.fad 11 (.t 97),(some (93,false)),[19,17,16,15,14,6,5,4,3,1,0,2,13,12,11,10,8,7,9,18]⟩,
 ⟨some 99,.ld1 (.t 98),(some (93,false)),[20,19,17,16,15,14,6,5,4,3,1,0,2,13,12,11,10,8,7,9,18]⟩,
 ⟨some 100,.fad 1 (.t 7),(some (93,false)),[15,14,6,5,4,3,1,0,2,13,12,11,10,8,7,9]⟩,
 ⟨some 101,.ld1 (.t 100),(some (93,false)),[22,15,14,6,5,4,3,1,0,2,13,12,11,10,8,7,9]⟩,
 ⟨some 102,.mv (.t 11),(some (93,false)),[15,14,6,5,4,3,1,0,2,13,12,11,10,8,7,9]⟩,
 ⟨some 103,.ixa 12 (.t 101) (.t 102),(some (93,false)),[23,22,15,14,6,5,4,3,1,0,2,13,12,11,10,8,7,9,24]⟩,
 ⟨some 104,.fad 11 (.t 103),(some (93,false)),[25,23,22,15,14,6,5,4,3,1,0,2,13,12,11,10,8,7,9,24]⟩,
 ⟨some 105,.ld1 (.t 104),(some (93,false)),[26,25,23,22,15,14,6,5,4,3,1,0,2,13,12,11,10,8,7,9,24]⟩,
 ⟨some 106,.bin .neq (.t 99) (.t 105),(some (93,false)),[21,20,19,17,16,15,14,6,5,4,3,1,0,2,13,12,11,10,8,7,9,18,27,26,25,23,22,24]⟩,
 ⟨some 107,.pick (.t 93) (.c (.val (.bool true))) (.t 106),none,[15,14,6,5,4,3,1,0,2,13,12,11,10,8,7,9,28,21,20,19,17,16,18,27,26,25,23,22,24]⟩])
 (.cond (.t 107) (.seq (.reg [⟨some 6,.mv (.c (.val (.bool false))),none,[]⟩])
 .ret)
 .skip)))
 (.reg [⟨some 76,.mv (.t 11),none,[]⟩,
 ⟨some 77,.bin .add (.t 76) (.c (.val (.int .i64 1))),none,[]⟩,
 ⟨some 11,.mv (.t 77),none,[]⟩]))))))
 (.seq (.reg [⟨some 108,.fad 1 (.t 7),none,[]⟩,
 ⟨some 109,.ld1 (.t 108),none,[]⟩,
 ⟨some 110,.len (.t 109),none,[]⟩,
 ⟨some 111,.fad 1 (.t 4),none,[]⟩,
 ⟨some 112,.ld1 (.t 111),none,[]⟩,
 ⟨some 113,.len (.t 112),none,[]⟩,
 ⟨some 114,.bin .eql (.t 110) (.t 113),none,[]⟩,
 ⟨some 115,.mv (.t 114),none,[]⟩,
 ⟨some 116,.fad 2 (.t 7),(some (115,true)),[]⟩,
 ⟨some 117,.ld1 (.t 116),(some (115,true)),[]⟩,
 ⟨some 118,.fad 2 (.t 4),(some (115,true)),[]⟩,
 ⟨some 119,.ld1 (.t 118),(some (115,true)),[]⟩,
 ⟨some 120,.bin .eql (.t 117) (.t 119),(some (115,true)),[]⟩,
 ⟨some 121,.pick (.t 115) (.t 120) (.c (.val (.bool false))),none,[]⟩,
 ⟨some 122,.mv (.t 121),none,[]⟩,
 ⟨some 123,.fad 4 (.t 7),(some (122,true)),[]⟩,
 ⟨some 124,.ld1 (.t 123),(some (122,true)),[]⟩,
 ⟨some 125,.fad 4 (.t 4),(some (122,true)),[]⟩,
 ⟨some 126,.ld1 (.t 125),(some (122,true)),[]⟩,
 ⟨some 127,.bin .eql (.t 124) (.t 126),(some (122,true)),[]⟩,
 ⟨some 128,.pick (.t 122) (.t 127) (.c (.val (.bool false))),none,[]⟩,
 ⟨some 129,.mv (.t 128),none,[]⟩,
 ⟨some 130,.fad 5 (.t 7),(some (129,true)),[]⟩,
 ⟨some 131,.ld1 (.t 130),(some (129,true)),[]⟩,
 ⟨some 132,.fad 5 (.t 4),(some (129,true)),[]⟩,
 ⟨some 133,.ld1 (.t 132),(some (129,true)),[]⟩,
 ⟨some 134,.bin .eql (.t 131) (.t 133),(some (129,true)),[]⟩,
 ⟨some 135,.pick (.t 129) (.t 134) (.c (.val (.bool false))),none,[]⟩,
 ⟨some 6,.mv (.t 135),none,[]⟩])
 .ret))))))),
[(.t 6)])
theorem irOk6 : convFn Tryz.prog Tryz.f6 = some ir6 := by kernel_rfl


def boxC (c : ConfD) : LObj := .box 23 [.int c.nodes, .int c.queues, .int c.quota, .int c.wave, .int c.lease, .int c.retry, .int c.deadline, .int c.room, .int c.disk]
def keeps18S1 (c : ConfD) (s u : StateD) (l : List OpD) (k : Nat) : St := ⟨[(4, .ptr 1 0), (7, .ptr 2 0), (8, .d (.lst 7 (l.map opR))), (9, .int k)], [some (boxC c), some (boxS s), some (boxS u)]⟩
def keeps18S2 (c : ConfD) (s u : StateD) (k : Nat) : St := ⟨[(4, .ptr 1 0), (7, .ptr 2 0), (11, .int k)], [some (boxC c), some (boxS s), some (boxS u)]⟩
set_option maxHeartbeats 4000000 in
theorem planKeeps_tri (c : ConfD) (s : StateD) (now : Int) : Tri Tryz.prog bookG 6 [confV c, stateV s, .int now] [] (.bool true) [] := by
  refine tri_W0 Tryz.func6 (by decide) irOk6 (Nat.le_of_ble_eq_true rfl) rfl ?_
  simp only [ir6,go_sem,↓reduceIte,zA,zB,zC,zD,zE,zF,reduceCtorEq,zG,zH,zI,zJ,zK,zL,zM,zN,zO,zP]
  refine W_calld (alive18_tri) rfl rfl rfl rfl ?_; simp only [go_sem,↓reduceIte,zA,zB,zC,zD,zE,zF,reduceCtorEq,zG,zH,zI,zJ,zK,zL,zM,zN,zO,zP]
  refine W_calld (right_tri c s) rfl rfl rfl rfl ?_; simp only [go_sem,↓reduceIte,zA,zB,zC,zD,zE,zF,reduceCtorEq,zG,zH,zI,zJ,zK,zL,zM,zN,zO,zP]
  cases hr : rightB c s with
  | false => simp only [go_sem,↓reduceIte,zA,zB,zC,zD,zE,zF,reduceCtorEq,zG,zH,zI,zJ,zK,zL,zM,zN,zO,zP]
  | true =>
  simp only [go_sem,↓reduceIte,zA,zB,zC,zD,zE,zF,reduceCtorEq,zG,zH,zI,zJ,zK,zL,zM,zN,zO,zP]
  refine W_calld (time18_tri now) rfl rfl rfl rfl ?_; simp only [go_sem,↓reduceIte,zA,zB,zC,zD,zE,zF,reduceCtorEq,zG,zH,zI,zJ,zK,zL,zM,zN,zO,zP]
  cases ht : timeB now with
  | false => simp only [go_sem,↓reduceIte,zA,zB,zC,zD,zE,zF,reduceCtorEq,zG,zH,zI,zJ,zK,zL,zM,zN,zO,zP]
  | true =>
  have h := (right_iff c s).1 hr
  have hsj := h.jobs
  have t0 : TimeR now := by unfold timeB at ht; exact (of_decide_eq_true ht : 0 ≤ now ∧ now ≤ 1000000)
  simp only [go_sem,↓reduceIte,zA,zB,zC,zD,zE,zF,reduceCtorEq,zG,zH,zI,zJ,zK,zL,zM,zN,zO,zP]
  have hP := run_tri c s h now 90 t0 (by decide)
  obtain ⟨hu, hl⟩ := run_lens (now := now) h (show (90 : Int) ≤ 90 by decide)
  obtain ⟨hk, hks⟩ := runTo_keep (c := c) (now := now) 90 s
  have e90 : runTo c now 90 s [] = runD c s now 90 := rfl
  rw [e90] at hk hks
  generalize runD c s now 90 = r at *
  obtain ⟨u, l⟩ := r
  dsimp only at hP hu hl hk hks
  refine W_calld (hP) rfl rfl rfl rfl ?_; simp only [go_sem,↓reduceIte,zA,zB,zC,zD,zE,zF,reduceCtorEq,zG,zH,zI,zJ,zK,zL,zM,zN,zO,zP]
  refine W_loopI [4, 7, 8, 9] [] (fun k : Nat => k ≤ l.length) (fun k => l.length - k) (keeps18S1 c s u l) 0 ?_ (Nat.zero_le _) ?_
  · simp only [keeps18S1,boxC,boxS,Int.natCast_zero,go_sem,↓reduceIte,zA,zB,zC,zD,zE,zF,reduceCtorEq,zG,zH,zI,zJ,zK,zL,zM,zN,zO,zP]
  · intro k hkk
    simp only [keeps18S1,boxC,boxS,List.length_map,go_sem,↓reduceIte,zA,zB,zC,zD,zE,zF,reduceCtorEq,zG,zH,zI,zJ,zK,zL,zM,zN,zO,zP]
    by_cases hlt : k < l.length
    · have hga := get_mapD (f := opR) zeroOp hlt
      have hkd := hks (l.getD k zeroOp) (by rw [List.getD_eq_getElem?_getD, List.getElem?_eq_getElem hlt]; exact List.getElem_mem hlt)
      unfold planK at hkd
      have hkd := of_decide_eq_true hkd
      generalize l.getD k zeroOp = x at *
      simp only [opR] at hga
      simp only [decide_eq_true (show ((k : Nat) : Int) < ((l.length : Nat) : Int) by omega),hga,go_sem,↓reduceIte,zA,zB,zC,zD,zE,zF,reduceCtorEq,zG,zH,zI,zJ,zK,zL,zM,zN,zO,zP]
      rcases hkd with hkd | hkd | hkd | hkd | hkd | hkd | hkd | hkd <;> simp only [hkd,show ∀ a b : Int,(a != b) = !(a == b) from fun _ _ => rfl,Int.reduceBEq,Bool.not_true,Bool.not_false,go_sem,↓reduceIte,zA,zB,zC,zD,zE,zF,reduceCtorEq,zG,zH,zI,zJ,zK,zL,zM,zN,zO,zP]
      all_goals
        refine W_lpI (k + 1) ?_ ?_ (by omega) (by omega)
        · simp only [go_sem,↓reduceIte,zA,zB,zC,zD,zE,zF,reduceCtorEq,zG,zH,zI,zJ,zK,zL,zM,zN,zO,zP]
        · simp only [keeps18S1,boxC,boxS,wrap_succ (show k < 9223372036854775807 by omega),go_sem,↓reduceIte,zA,zB,zC,zD,zE,zF,reduceCtorEq,zG,zH,zI,zJ,zK,zL,zM,zN,zO,zP]
    · obtain rfl : k = l.length := by omega
      simp only [decide_eq_false (show ¬ ((l.length : Nat) : Int) < ((l.length : Nat) : Int) by omega),go_sem,↓reduceIte,zA,zB,zC,zD,zE,zF,reduceCtorEq,zG,zH,zI,zJ,zK,zL,zM,zN,zO,zP]
      refine W_loopI [4, 7, 11] [] (fun k : Nat => k ≤ s.jobs.length) (fun k => s.jobs.length - k) (keeps18S2 c s u) 0 ?_ (Nat.zero_le _) ?_
      · simp only [keeps18S2,boxC,boxS,Int.natCast_zero,go_sem,↓reduceIte,zA,zB,zC,zD,zE,zF,reduceCtorEq,zG,zH,zI,zJ,zK,zL,zM,zN,zO,zP]
      intro k hkk
      simp only [keeps18S2,boxC,boxS,List.length_map,go_sem,↓reduceIte,zA,zB,zC,zD,zE,zF,reduceCtorEq,zG,zH,zI,zJ,zK,zL,zM,zN,zO,zP]
      by_cases hlt : k < s.jobs.length
      · have hga := get_mapD (f := jobR) zeroJob hlt
        have hgb := get_mapD (f := jobR) zeroJob (show k < u.jobs.length by rw [hk.len]; exact hlt)
        obtain ⟨j1, j2⟩ := hk.job k hlt
        unfold joA at j1 j2
        generalize s.jobs.getD k zeroJob = a at *
        generalize u.jobs.getD k zeroJob = b at *
        have e1 : (b.phase == 4) = (a.phase == 4) := by rw [Bool.eq_iff_iff, beq_iff_eq, beq_iff_eq]; exact j1
        simp only [jobR] at hga hgb
        simp only [decide_eq_true (show ((k : Nat) : Int) < ((s.jobs.length : Nat) : Int) by omega),hga,hgb,e1,j2,bne_self_eq_false,go_sem,↓reduceIte,zA,zB,zC,zD,zE,zF,reduceCtorEq,zG,zH,zI,zJ,zK,zL,zM,zN,zO,zP]
        refine W_lpI (k + 1) ?_ ?_ (by omega) (by omega)
        · simp only [go_sem,↓reduceIte,zA,zB,zC,zD,zE,zF,reduceCtorEq,zG,zH,zI,zJ,zK,zL,zM,zN,zO,zP]
        · simp only [keeps18S2,boxC,boxS,wrap_succ (show k < 9223372036854775807 by omega),go_sem,↓reduceIte,zA,zB,zC,zD,zE,zF,reduceCtorEq,zG,zH,zI,zJ,zK,zL,zM,zN,zO,zP]
      · obtain rfl : k = s.jobs.length := by omega
        simp only [decide_eq_false (show ¬ ((s.jobs.length : Nat) : Int) < ((s.jobs.length : Nat) : Int) by omega),hk.len,hk.goal,hk.mode,hk.term,beq_self_eq_true,go_sem,↓reduceIte,zA,zB,zC,zD,zE,zF,reduceCtorEq,zG,zH,zI,zJ,zK,zL,zM,zN,zO,zP]
end Dv
