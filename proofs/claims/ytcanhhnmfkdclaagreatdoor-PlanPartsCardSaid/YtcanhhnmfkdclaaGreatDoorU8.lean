/- Layer 18's laws: PlanParts, PlanKeeps. -/
import Derived.Test.YtcanhhnmfkdclaaGreatDoorU7
set_option linter.unusedVariables false
set_option linter.unusedSimpArgs false
namespace Dv
open Go Go.Proofs
open Nat renaming reduceEqDiff → zA, reduceAdd → zB, reduceSub → zC, reduceMul → zD, reduceLT → zE, reduceLeDiff → zF
open Int renaming reduceLE → zG, reduceLT → zH, reduceToNat → zI, reduceBEq → zJ, reduceBNe → zK, reduceEq → zL, reduceAdd → zM, reduceSub → zN, reduceMul → zO, reduceNeg → zP
attribute [local go_sem] argEnv W_nil W_seq W_skip W_ret W_exit W_scope W_block W_blk W_reg W_regD W_cond WC_t WC_f WC_any Wx_c Wx_ops Wx_lp Wx_blk W_ops_nil W_opsD_q W_guard W_guardD WG_tt WG_ff WG_tf WG_ft WG_u WGD_tt WGD_ff WGD_tf WGD_ft WGD_u WE_some WED_some W_more W_mv W_pick W_new W_box W_build W_bsl W_ld1 W_ldn W_st W_nck W_bin W_eqb W_not W_cvt W_fad W_fld1 W_fldn W_ixa W_ixr W_ix1 W_ixs W_len W_lens W_mkf W_ext W_app W_min W_max W_isnp W_isns W_eqs W_neg W_ixn W_sli W_sls WD_more WD_mv WD_pick WD_new WD_box WD_build WD_bsl WD_ld1 WD_ldn WD_st WD_nck WD_bin WD_eqb WD_not WD_cvt WD_fad WD_fld1 WD_fldn WD_ixa WD_ixr WD_ix1 WD_ixs WD_len WD_lens WD_mkf WD_ext WD_app WD_min WD_max WD_isnp WD_isns WD_eqs WD_neg WD_ixn WD_sli WD_sls effF effM bytesOf Opd.ev getE putE binV LV.int LV.bool LV.undef Go.undef LV.cells LV.toD LV.toDs splice fillL rowsOf boxOf srcRows updL objL Eff.owned nwp St.get St.obj St.put Value.oneCell' Ends adopt Ad.ap isNil St.keep St.okKeep okObj idl idlL idlO RVs.of RV.of oneOr Ends0 EndsO_iff frzs rn rnL rnO piOf eqCells eqV boundV Option.map_some Option.map_none List.append_nil List.nil_append List.cons_append List.map_nil List.map_cons List.length_nil List.length_cons List.set_cons_zero List.set_cons_succ List.take_succ_cons List.take_zero List.take_nil List.drop_succ_cons List.drop_zero List.drop_nil List.getElem?_cons_zero List.getElem?_cons_succ List.getElem?_nil List.isEmpty_nil List.isEmpty_cons List.all_cons List.all_nil List.isEmpty_nil cond_true cond_false Bool.true_and Bool.false_and Bool.and_true Bool.and_false Bool.not_true Bool.not_false Bool.or_true Bool.true_or Bool.or_false Bool.false_or true_and and_true true_or or_true Option.some.injEq LV.d.injEq DV.val.injEq Value.bool.injEq Value.int.injEq decide_true decide_false and_self Nat.zero_add Nat.add_zero if_true if_false Int.toNat_zero beq_self_eq_true Nat.zero_lt_succ Int.toNat_natCast Int.natCast_nonneg List.length_map i64 bl List.zip_cons_cons List.zip_nil_left List.zip_nil_right nwp confV stateV nodeV jobV nodesV jobsV opV msgV nodeR jobR opR msgR zeroOp zeroMsg msgsV
variable {G : Nat → Option (List DV)}

/-- dunnagelaw18.PlanParts -/
def ir5 : Nat × C × List RV := (114,
(.seq (.reg [⟨some 5,.box 23 (.t 0),none,[]⟩,
 ⟨some 6,.box 27 (.t 1),none,[]⟩,
 ⟨some 10,.mv (.c (.val (.bool false))),none,[]⟩])
 (.seq (.seq (.reg [⟨some 19,.call (.f 7) [],none,[]⟩,
 ⟨some 20,.not (.t 19),none,[]⟩])
 (.cond (.t 20) (.seq (.reg [⟨some 10,.mv (.c (.val (.bool false))),none,[]⟩])
 .ret)
 .skip))
 (.seq (.seq (.reg [⟨some 21,.ldn 9 (.t 5),none,[]⟩,
 ⟨some 22,.ldn 6 (.t 6),none,[]⟩,
 ⟨some 23,.call (.f 8) [(.t 21),(.t 22)],none,[]⟩,
 ⟨some 24,.not (.t 23),none,[]⟩,
 ⟨some 25,.mv (.t 24),none,[]⟩,
 ⟨some 26,.mv (.t 2),(some (25,false)),[]⟩,
 ⟨some 27,.call (.f 9) [(.t 26)],(some (25,false)),[]⟩,
 ⟨some 28,.not (.t 27),(some (25,false)),[]⟩,
 ⟨some 29,.pick (.t 25) (.c (.val (.bool true))) (.t 28),none,[]⟩,
 ⟨some 30,.mv (.t 29),none,[]⟩,
 ⟨some 31,.mv (.t 3),(some (30,false)),[]⟩,
 ⟨some 32,.bin .lss (.t 31) (.c (.val (.int .i64 0))),(some (30,false)),[]⟩,
 ⟨some 33,.pick (.t 30) (.c (.val (.bool true))) (.t 32),none,[]⟩,
 ⟨some 34,.mv (.t 33),none,[]⟩,
 ⟨some 35,.mv (.t 4),(some (34,false)),[]⟩,
 ⟨some 36,.bin .lss (.t 35) (.c (.val (.int .i64 0))),(some (34,false)),[]⟩,
 ⟨some 37,.pick (.t 34) (.c (.val (.bool true))) (.t 36),none,[]⟩,
 ⟨some 38,.mv (.t 37),none,[]⟩,
 ⟨some 39,.mv (.t 3),(some (38,false)),[]⟩,
 ⟨some 40,.bin .gtr (.t 39) (.c (.val (.int .i64 40))),(some (38,false)),[]⟩,
 ⟨some 41,.pick (.t 38) (.c (.val (.bool true))) (.t 40),none,[]⟩,
 ⟨some 42,.mv (.t 41),none,[]⟩,
 ⟨some 43,.mv (.t 4),(some (42,false)),[]⟩,
 ⟨some 44,.bin .gtr (.t 43) (.c (.val (.int .i64 40))),(some (42,false)),[]⟩,
 ⟨some 45,.pick (.t 42) (.c (.val (.bool true))) (.t 44),none,[]⟩])
 (.cond (.t 45) (.seq (.reg [⟨some 10,.mv (.c (.val (.bool true))),none,[]⟩])
 .ret)
 .skip))
 (.seq (.reg [⟨some 47,.ldn 9 (.t 5),none,[]⟩,
 ⟨some 48,.ldn 6 (.t 6),none,[]⟩,
 ⟨some 49,.mv (.t 2),none,[]⟩,
 ⟨some 50,.mv (.t 3),none,[]⟩,
 ⟨some 51,.mv (.t 4),none,[]⟩,
 ⟨some 52,.bin .add (.t 50) (.t 51),none,[]⟩,
 ⟨some 53,.call (.f 15) [(.t 47),(.t 48),(.t 49),(.t 52)],none,[]⟩,
 ⟨some 46,.mv (.t 53),none,[]⟩,
 ⟨some 54,.ext (.t 46) 0,none,[]⟩,
 ⟨some 55,.ext (.t 46) 1,none,[]⟩,
 ⟨some 11,.new 27 [(.val (.slice none 0 0)),(.val (.slice none 0 0)),(.val (.int .i64 0)),(.val (.int .i64 0)),(.val (.int .i64 0)),(.val (.int .i64 0))],none,[]⟩,
 ⟨none,.st 6 (.t 11) (.t 54),none,[]⟩,
 ⟨some 12,.mv (.t 55),none,[]⟩])
 (.seq (.reg [⟨some 57,.ldn 9 (.t 5),none,[]⟩,
 ⟨some 58,.ldn 6 (.t 6),none,[]⟩,
 ⟨some 59,.mv (.t 2),none,[]⟩,
 ⟨some 60,.mv (.t 3),none,[]⟩,
 ⟨some 61,.call (.f 15) [(.t 57),(.t 58),(.t 59),(.t 60)],none,[]⟩,
 ⟨some 56,.mv (.t 61),none,[]⟩,
 ⟨some 62,.ext (.t 56) 0,none,[]⟩,
 ⟨some 63,.ext (.t 56) 1,none,[]⟩,
 ⟨some 13,.new 27 [(.val (.slice none 0 0)),(.val (.slice none 0 0)),(.val (.int .i64 0)),(.val (.int .i64 0)),(.val (.int .i64 0)),(.val (.int .i64 0))],none,[]⟩,
 ⟨none,.st 6 (.t 13) (.t 62),none,[]⟩,
 ⟨some 14,.mv (.t 63),none,[]⟩])
 (.seq (.reg [⟨some 65,.ldn 9 (.t 5),none,[]⟩,
 ⟨some 66,.ldn 6 (.t 13),none,[]⟩,
 ⟨some 67,.mv (.t 2),none,[]⟩,
 ⟨some 68,.mv (.t 4),none,[]⟩,
 ⟨some 69,.call (.f 15) [(.t 65),(.t 66),(.t 67),(.t 68)],none,[]⟩,
 ⟨some 64,.mv (.t 69),none,[]⟩,
 ⟨some 70,.ext (.t 64) 0,none,[]⟩,
 ⟨some 71,.ext (.t 64) 1,none,[]⟩,
 ⟨some 15,.new 27 [(.val (.slice none 0 0)),(.val (.slice none 0 0)),(.val (.int .i64 0)),(.val (.int .i64 0)),(.val (.int .i64 0)),(.val (.int .i64 0))],none,[]⟩,
 ⟨none,.st 6 (.t 15) (.t 70),none,[]⟩,
 ⟨some 16,.mv (.t 71),none,[]⟩])
 (.seq (.seq (.reg [⟨some 72,.mv (.t 12),none,[]⟩,
 ⟨some 73,.len (.t 72),none,[]⟩,
 ⟨some 74,.mv (.t 14),none,[]⟩,
 ⟨some 75,.len (.t 74),none,[]⟩,
 ⟨some 76,.mv (.t 16),none,[]⟩,
 ⟨some 77,.len (.t 76),none,[]⟩,
 ⟨some 78,.bin .add (.t 75) (.t 77),none,[]⟩,
 ⟨some 79,.bin .neq (.t 73) (.t 78),none,[]⟩,
 ⟨some 80,.mv (.t 79),none,[]⟩,
 ⟨some 81,.ldn 6 (.t 11),(some (80,false)),[]⟩,
 ⟨some 82,.ldn 6 (.t 15),(some (80,false)),[]⟩,
 ⟨some 83,.call (.f 17) [(.t 81),(.t 82)],(some (80,false)),[]⟩,
 ⟨some 84,.not (.t 83),(some (80,false)),[]⟩,
 ⟨some 85,.pick (.t 80) (.c (.val (.bool true))) (.t 84),none,[]⟩])
 (.cond (.t 85) (.seq (.reg [⟨some 10,.mv (.c (.val (.bool false))),none,[]⟩])
 .ret)
 .skip))
 (.seq (.seq (.reg [⟨some 17,.mv (.c (.val (.int .i64 0))),none,[]⟩])
 (.block 0 (.loop (.seq (.seq (.reg [⟨some 86,.mv (.t 17),none,[]⟩,
 ⟨some 87,.mv (.t 12),none,[]⟩,
 ⟨some 88,.len (.t 87),none,[]⟩,
 ⟨some 89,.bin .lss (.t 86) (.t 88),none,[]⟩])
 (.cond (.t 89) .skip
 (.exit 0)))
 (.seq (.block 1 (.seq (.reg [⟨some 92,.build [(.val (.int .i64 0)),(.val (.int .i64 0)),(.val (.int .i64 0)),(.val (.int .i64 0)),(.val (.int .i64 0)),(.val (.int .i64 0)),(.val (.int .i64 0))] [],none,[]⟩,
 ⟨some 18,.new 32 [(.val (.int .i64 0)),(.val (.int .i64 0)),(.val (.int .i64 0)),(.val (.int .i64 0)),(.val (.int .i64 0)),(.val (.int .i64 0)),(.val (.int .i64 0))],none,[]⟩,
 ⟨none,.st 7 (.t 18) (.t 92),none,[]⟩])
 (.seq (.seq (.reg [⟨some 93,.mv (.t 17),none,[]⟩,
 ⟨some 94,.mv (.t 14),none,[]⟩,
 ⟨some 95,.len (.t 94),none,[]⟩,
 ⟨some 96,.bin .lss (.t 93) (.t 95),none,[]⟩])
 (.cond (.t 96) (.reg [⟨some 97,.mv (.t 14),none,[]⟩,
 ⟨some 98,.mv (.t 17),none,[]⟩,
 ⟨some 99,.ixa 7 (.t 97) (.t 98),none,[]⟩,
 ⟨some 100,.ldn 7 (.t 99),none,[]⟩,
 ⟨none,.st 7 (.t 18) (.t 100),none,[]⟩])
 (.reg [⟨some 101,.mv (.t 16),none,[]⟩,
 ⟨some 102,.mv (.t 17),none,[]⟩,
 ⟨some 103,.mv (.t 14),none,[]⟩,
 ⟨some 104,.len (.t 103),none,[]⟩,
 ⟨some 105,.bin .sub (.t 102) (.t 104),none,[]⟩,
 ⟨some 106,.ixa 7 (.t 101) (.t 105),none,[]⟩,
 ⟨some 107,.ldn 7 (.t 106),none,[]⟩,
 ⟨none,.st 7 (.t 18) (.t 107),none,[]⟩])))
 (.seq (.regD [⟨some 108,.mv (.t 12),none,[]⟩,
 ⟨some 109,.mv (.t 17),none,[]⟩,
 ⟨some 110,.ixa 7 (.t 108) (.t 109),none,[0,1]⟩,
 ⟨some 111,.ldn 7 (.t 110),none,[2,0,1]⟩,
 ⟨some 112,.ldn 7 (.t 18),none,[]⟩,
 ⟨some 113,.eqs true [0,0,0,0,0,0,0] (.t 111) (.t 112),none,[3,2,0,1,4]⟩])
 (.cond (.t 113) (.seq (.reg [⟨some 10,.mv (.c (.val (.bool false))),none,[]⟩])
 .ret)
 .skip)))))
 (.reg [⟨some 90,.mv (.t 17),none,[]⟩,
 ⟨some 91,.bin .add (.t 90) (.c (.val (.int .i64 1))),none,[]⟩,
 ⟨some 17,.mv (.t 91),none,[]⟩]))))))
 (.seq (.reg [⟨some 10,.mv (.c (.val (.bool true))),none,[]⟩])
 .ret))))))))),
[(.t 10)])
theorem irOk5 : convFn Tryz.prog Tryz.f5 = some ir5 := by kernel_rfl
def boxC (c : ConfD) : LObj := .box 23 [.int c.nodes, .int c.queues, .int c.quota, .int c.wave, .int c.lease, .int c.retry, .int c.deadline, .int c.room, .int c.disk]
def partsS (c : ConfD) (s u v : StateD) (l m n : List OpD) (k : Nat) : St := ⟨[(12, .d (.lst 7 (l.map opR))), (14, .d (.lst 7 (m.map opR))), (16, .d (.lst 7 (n.map opR))), (17, .int k)], [some (boxC c), some (boxS s), some (boxS v), some (boxS u), some (boxS v)]⟩
theorem run_split {c : ConfD} {s : StateD} {now a b : Int} (ha : 0 ≤ a) (hb : 0 ≤ b) : runD c s now (a + b) = ((runD c (runD c s now a).1 now b).1, (runD c s now a).2 ++ (runD c (runD c s now a).1 now b).2) := by
  unfold runD
  rw [show (a + b).toNat = a.toNat + b.toNat by omega, runTo_add]
set_option maxHeartbeats 4000000 in
theorem planParts_tri (c : ConfD) (s : StateD) (now a b : Int) : Tri Tryz.prog bookG 5 [confV c, stateV s, .int now, .int a, .int b] [] (.bool true) [] := by
  refine tri_W0 Tryz.func5 (by decide) irOk5 (Nat.le_of_ble_eq_true rfl) rfl ?_
  simp only [ir5,go_sem,↓reduceIte,zA,zB,zC,zD,zE,zF,reduceCtorEq,zG,zH,zI,zJ,zK,zL,zM,zN,zO,zP]
  refine W_calld (alive18_tri) rfl rfl rfl rfl ?_; simp only [go_sem,↓reduceIte,zA,zB,zC,zD,zE,zF,reduceCtorEq,zG,zH,zI,zJ,zK,zL,zM,zN,zO,zP]
  refine W_calld (right_tri c s) rfl rfl rfl rfl ?_; simp only [go_sem,↓reduceIte,zA,zB,zC,zD,zE,zF,reduceCtorEq,zG,zH,zI,zJ,zK,zL,zM,zN,zO,zP]
  cases hr : rightB c s with
  | false => simp only [go_sem,↓reduceIte,zA,zB,zC,zD,zE,zF,reduceCtorEq,zG,zH,zI,zJ,zK,zL,zM,zN,zO,zP]
  | true =>
  simp only [go_sem,↓reduceIte,zA,zB,zC,zD,zE,zF,reduceCtorEq,zG,zH,zI,zJ,zK,zL,zM,zN,zO,zP]
  refine W_calld (time18_tri now) rfl rfl rfl rfl ?_; simp only [go_sem,↓reduceIte,zA,zB,zC,zD,zE,zF,reduceCtorEq,zG,zH,zI,zJ,zK,zL,zM,zN,zO,zP]
  cases ht : timeB now with
  | false => simp only [go_sem,↓reduceIte,zA,zB,zC,zD,zE,zF,reduceCtorEq,zG,zH,zI,zJ,zK,zL,zM,zN,zO,zP]
  | true =>
  have h := (right_iff c s).1 hr
  have t0 : TimeR now := by unfold timeB at ht; exact (of_decide_eq_true ht : 0 ≤ now ∧ now ≤ 1000000)
  simp only [go_sem,↓reduceIte,zA,zB,zC,zD,zE,zF,reduceCtorEq,zG,zH,zI,zJ,zK,zL,zM,zN,zO,zP]
  by_cases h1 : a < 0
  · simp only [decide_eq_true h1,go_sem,↓reduceIte,zA,zB,zC,zD,zE,zF,reduceCtorEq,zG,zH,zI,zJ,zK,zL,zM,zN,zO,zP]
  simp only [decide_eq_false h1,go_sem,↓reduceIte,zA,zB,zC,zD,zE,zF,reduceCtorEq,zG,zH,zI,zJ,zK,zL,zM,zN,zO,zP]
  by_cases h2 : b < 0
  · simp only [decide_eq_true h2,go_sem,↓reduceIte,zA,zB,zC,zD,zE,zF,reduceCtorEq,zG,zH,zI,zJ,zK,zL,zM,zN,zO,zP]
  simp only [decide_eq_false h2,go_sem,↓reduceIte,zA,zB,zC,zD,zE,zF,reduceCtorEq,zG,zH,zI,zJ,zK,zL,zM,zN,zO,zP]
  by_cases h3 : a > 40
  · simp only [decide_eq_true h3,go_sem,↓reduceIte,zA,zB,zC,zD,zE,zF,reduceCtorEq,zG,zH,zI,zJ,zK,zL,zM,zN,zO,zP]
  simp only [decide_eq_false h3,go_sem,↓reduceIte,zA,zB,zC,zD,zE,zF,reduceCtorEq,zG,zH,zI,zJ,zK,zL,zM,zN,zO,zP]
  by_cases h4 : b > 40
  · simp only [decide_eq_true h4,go_sem,↓reduceIte,zA,zB,zC,zD,zE,zF,reduceCtorEq,zG,zH,zI,zJ,zK,zL,zM,zN,zO,zP]
  simp only [decide_eq_false h4,wrap_in (show -9223372036854775808 ≤ a + b by omega) (by omega),go_sem,↓reduceIte,zA,zB,zC,zD,zE,zF,reduceCtorEq,zG,zH,zI,zJ,zK,zL,zM,zN,zO,zP]
  have hP := run_tri c s h now (a + b) t0 (by omega)
  have hQ := run_tri c s h now a t0 (by omega)
  obtain ⟨hu, hm⟩ := run_lens (now := now) h (show a ≤ 90 by omega)
  have hR := run_tri c _ hu now b t0 (by omega)
  obtain ⟨hv, hn⟩ := run_lens (now := now) hu (show b ≤ 90 by omega)
  rw [run_split (by omega) (by omega)] at hP
  generalize runD c (runD c s now a).1 now b = r at *
  generalize runD c s now a = p at *
  obtain ⟨u, m⟩ := p
  obtain ⟨v, n⟩ := r
  dsimp only at hP hQ hR hu hv hm hn
  have hvn := hv.len
  have hvj := hv.jobs
  refine W_calld (hP) rfl rfl rfl rfl ?_; simp only [go_sem,↓reduceIte,zA,zB,zC,zD,zE,zF,reduceCtorEq,zG,zH,zI,zJ,zK,zL,zM,zN,zO,zP]
  refine W_calld (hQ) rfl rfl rfl rfl ?_; simp only [go_sem,↓reduceIte,zA,zB,zC,zD,zE,zF,reduceCtorEq,zG,zH,zI,zJ,zK,zL,zM,zN,zO,zP]
  refine W_calld (hR) rfl rfl rfl rfl ?_; simp only [go_sem,↓reduceIte,zA,zB,zC,zD,zE,zF,reduceCtorEq,zG,zH,zI,zJ,zK,zL,zM,zN,zO,zP]
  have hS := same9_tri (G := bookG) v v (by omega) (by omega)
  rw [decide_eq_true rfl] at hS
  have hlen : (m ++ n).length = m.length + n.length := by simp
  simp only [List.length_map,hlen,wrap_in (show -9223372036854775808 ≤ (m.length : Int) + (n.length : Int) by omega) (by omega),show (((m.length + n.length : Nat) : Int) != ((m.length : Int) + (n.length : Int))) = false by simp,go_sem,↓reduceIte,zA,zB,zC,zD,zE,zF,reduceCtorEq,zG,zH,zI,zJ,zK,zL,zM,zN,zO,zP]
  refine W_calld (hS) rfl rfl rfl rfl ?_; simp only [go_sem,↓reduceIte,zA,zB,zC,zD,zE,zF,reduceCtorEq,zG,zH,zI,zJ,zK,zL,zM,zN,zO,zP]
  generalize hl : m ++ n = l at *
  refine W_loopI [12, 14, 16, 17] [] (fun k : Nat => k ≤ l.length) (fun k => l.length - k) (partsS c s u v l m n) 0 ?_ (Nat.zero_le _) ?_
  · simp only [partsS,boxC,boxS,Int.natCast_zero,go_sem,↓reduceIte,zA,zB,zC,zD,zE,zF,reduceCtorEq,zG,zH,zI,zJ,zK,zL,zM,zN,zO,zP]
  intro k hk
  simp only [partsS,boxC,boxS,List.length_map,go_sem,↓reduceIte,zA,zB,zC,zD,zE,zF,reduceCtorEq,zG,zH,zI,zJ,zK,zL,zM,zN,zO,zP]
  by_cases hlt : k < l.length
  case neg => simp only [decide_eq_false (show ¬ ((k : Nat) : Int) < ((l.length : Nat) : Int) by omega),go_sem,↓reduceIte,zA,zB,zC,zD,zE,zF,reduceCtorEq,zG,zH,zI,zJ,zK,zL,zM,zN,zO,zP]
  have hga := get_mapD (f := opR) zeroOp hlt
  simp only [decide_eq_true (show ((k : Nat) : Int) < ((l.length : Nat) : Int) by omega),go_sem,↓reduceIte,zA,zB,zC,zD,zE,zF,reduceCtorEq,zG,zH,zI,zJ,zK,zL,zM,zN,zO,zP]
  by_cases hkm : k < m.length
  · have hgb := get_mapD (f := opR) zeroOp hkm
    have e : l.getD k zeroOp = m.getD k zeroOp := by rw [← hl]; simp [List.getD_eq_getElem?_getD,List.getElem?_append_left hkm]
    rw [e] at hga
    generalize m.getD k zeroOp = x at *
    simp only [opR] at hga hgb
    simp only [decide_eq_true (show ((k : Nat) : Int) < ((m.length : Nat) : Int) by omega),hga,hgb,go_sem,↓reduceIte,zA,zB,zC,zD,zE,zF,reduceCtorEq,zG,zH,zI,zJ,zK,zL,zM,zN,zO,zP]
    refine W_lpI (k + 1) ?_ ?_ (by omega) (by omega)
    · simp only [go_sem,↓reduceIte,zA,zB,zC,zD,zE,zF,reduceCtorEq,zG,zH,zI,zJ,zK,zL,zM,zN,zO,zP]
    · simp only [partsS,boxC,boxS,wrap_succ (show k < 9223372036854775807 by omega),go_sem,↓reduceIte,zA,zB,zC,zD,zE,zF,reduceCtorEq,zG,zH,zI,zJ,zK,zL,zM,zN,zO,zP]
  · have hkn : k - m.length < n.length := by omega
    have hgb := get_mapD (f := opR) zeroOp hkn
    have e : l.getD k zeroOp = n.getD (k - m.length) zeroOp := by rw [← hl]; simp [List.getD_eq_getElem?_getD,List.getElem?_append_right (show m.length ≤ k by omega)]
    have ew : IntKind.i64.wrap ((k : Int) - (m.length : Int)) = ((k - m.length : Nat) : Int) := by rw [wrap_in (by omega) (by omega)]; omega
    rw [e] at hga
    generalize n.getD (k - m.length) zeroOp = x at *
    simp only [opR] at hga hgb
    simp only [decide_eq_false (show ¬ ((k : Nat) : Int) < ((m.length : Nat) : Int) by omega),ew,hga,hgb,go_sem,↓reduceIte,zA,zB,zC,zD,zE,zF,reduceCtorEq,zG,zH,zI,zJ,zK,zL,zM,zN,zO,zP]
    refine W_lpI (k + 1) ?_ ?_ (by omega) (by omega)
    · simp only [go_sem,↓reduceIte,zA,zB,zC,zD,zE,zF,reduceCtorEq,zG,zH,zI,zJ,zK,zL,zM,zN,zO,zP]
    · simp only [partsS,boxC,boxS,wrap_succ (show k < 9223372036854775807 by omega),go_sem,↓reduceIte,zA,zB,zC,zD,zE,zF,reduceCtorEq,zG,zH,zI,zJ,zK,zL,zM,zN,zO,zP]
end Dv
