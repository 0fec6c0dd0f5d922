/- The logical machine and its plain laws: parts T10, T11, T12, T13, proved sound. -/
import Derived.Test.YtcanhhnmfkdclaaGreatDoorTA
import Derived.Test.YtcanhhnmfkdclaaGreatDoorTS
import Derived.Test.YtcanhhnmfkdclaaGreatDoorT9
import Derived.Test.YtcanhhnmfkdclaaGreatDoorQA
import Derived.Test.YtcanhhnmfkdclaaGreatDoorSR
import Derived.Maps.OwnIn
import Derived.Maps.Views
set_option linter.unusedVariables false
set_option linter.unusedSimpArgs false
namespace Dv
open Go Go.Proofs
open Nat renaming reduceEqDiff → zA, reduceAdd → zB, reduceSub → zC, reduceMul → zD, reduceLT → zE, reduceLeDiff → zF
open Int renaming reduceLE → zG, reduceLT → zH, reduceToNat → zI, reduceBEq → zJ, reduceBNe → zK, reduceEq → zL, reduceAdd → zM, reduceSub → zN, reduceMul → zO, reduceNeg → zP
attribute [local go_sem] argEnv W_nil W_seq W_skip W_ret W_exit W_scope W_block W_blk W_reg W_regD W_cond WC_t WC_f WC_any Wx_c Wx_ops Wx_lp Wx_blk W_ops_nil W_opsD_q W_guard W_guardD WG_tt WG_ff WG_tf WG_ft WG_u WGD_tt WGD_ff WGD_tf WGD_ft WGD_u WE_some WED_some W_more W_mv W_pick W_new W_box W_build W_bsl W_ld1 W_ldn W_st W_nck W_bin W_eqb W_not W_cvt W_fad W_fld1 W_fldn W_ixa W_ixr W_ix1 W_ixs W_len W_lens W_mkf W_ext W_app W_min W_max W_isnp W_isns W_eqs W_neg W_ixn W_sli W_sls WD_more WD_mv WD_pick WD_new WD_box WD_build WD_bsl WD_ld1 WD_ldn WD_st WD_nck WD_bin WD_eqb WD_not WD_cvt WD_fad WD_fld1 WD_fldn WD_ixa WD_ixr WD_ix1 WD_ixs WD_len WD_lens WD_mkf WD_ext WD_app WD_min WD_max WD_isnp WD_isns WD_eqs WD_neg WD_ixn WD_sli WD_sls effF effM bytesOf Opd.ev getE putE binV LV.int LV.bool LV.undef Go.undef LV.cells LV.toD LV.toDs splice fillL rowsOf boxOf srcRows updL objL Eff.owned nwp St.get St.obj St.put Value.oneCell' Ends adopt Ad.ap isNil St.keep St.okKeep okObj idl idlL idlO RVs.of RV.of oneOr Ends0 EndsO_iff frzs rn rnL rnO piOf eqCells eqV boundV Option.map_some Option.map_none List.append_nil List.nil_append List.cons_append List.map_nil List.map_cons List.length_nil List.length_cons List.set_cons_zero List.set_cons_succ List.take_succ_cons List.take_zero List.take_nil List.drop_succ_cons List.drop_zero List.drop_nil List.getElem?_cons_zero List.getElem?_cons_succ List.getElem?_nil List.isEmpty_nil List.isEmpty_cons List.all_cons List.all_nil List.isEmpty_nil cond_true cond_false Bool.true_and Bool.false_and Bool.and_true Bool.and_false Bool.not_true Bool.not_false Bool.or_true Bool.true_or Bool.or_false Bool.false_or true_and and_true true_or or_true Option.some.injEq LV.d.injEq DV.val.injEq Value.bool.injEq Value.int.injEq decide_true decide_false and_self Nat.zero_add Nat.add_zero if_true if_false Int.toNat_zero beq_self_eq_true Nat.zero_lt_succ Int.toNat_natCast Int.natCast_nonneg List.length_map i64 bl List.zip_cons_cons List.zip_nil_left List.zip_nil_right nwp confV stateV nodeV jobV nodesV jobsV opV msgV nodeR jobR opR msgR zeroOp zeroMsg msgsV
variable {G : Nat → Option (List DV)}

/-- ahead.End -/
def ir137 : Nat × C × List RV := (46,
(.seq (.reg [⟨some 3,.box 27 (.t 0),none,[]⟩,
 ⟨some 6,.mv (.c (.val (.int .i64 0))),none,[]⟩])
 (.seq (.seq (.reg [⟨some 8,.mv (.t 1),none,[]⟩,
 ⟨some 9,.bin .lss (.t 8) (.c (.val (.int .i64 1))),none,[]⟩,
 ⟨some 10,.mv (.t 9),none,[]⟩,
 ⟨some 11,.mv (.t 1),(some (10,false)),[]⟩,
 ⟨some 12,.fad 1 (.t 3),(some (10,false)),[]⟩,
 ⟨some 13,.ld1 (.t 12),(some (10,false)),[]⟩,
 ⟨some 14,.len (.t 13),(some (10,false)),[]⟩,
 ⟨some 15,.bin .gtr (.t 11) (.t 14),(some (10,false)),[]⟩,
 ⟨some 16,.pick (.t 10) (.c (.val (.bool true))) (.t 15),none,[]⟩])
 (.cond (.t 16) (.seq (.reg [⟨some 6,.mv (.c (.val (.int .i64 (-1)))),none,[]⟩])
 .ret)
 .skip))
 (.seq (.reg [⟨some 17,.fad 1 (.t 3),none,[]⟩,
 ⟨some 18,.ld1 (.t 17),none,[]⟩,
 ⟨some 19,.mv (.t 1),none,[]⟩,
 ⟨some 20,.bin .sub (.t 19) (.c (.val (.int .i64 1))),none,[]⟩,
 ⟨some 21,.ixa 12 (.t 18) (.t 20),none,[]⟩,
 ⟨some 22,.ldn 12 (.t 21),none,[]⟩,
 ⟨some 7,.new 47 [(.val (.int .i64 0)),(.val (.int .i64 0)),(.val (.int .i64 0)),(.val (.int .i64 0)),(.val (.int .i64 0)),(.val (.int .i64 0)),(.val (.int .i64 0)),(.val (.int .i64 0)),(.val (.int .i64 0)),(.val (.int .i64 0)),(.val (.int .i64 0)),(.val (.int .i64 0))],none,[]⟩,
 ⟨none,.st 12 (.t 7) (.t 22),none,[]⟩])
 (.seq (.seq (.reg [⟨some 23,.fad 6 (.t 7),none,[]⟩,
 ⟨some 24,.ld1 (.t 23),none,[]⟩])
 (.block 0 (.seq (.reg [⟨some 26,.bin .eql (.t 24) (.c (.val (.int .i64 1))),none,[]⟩,
 ⟨some 25,.mv (.t 26),none,[]⟩])
 (.cond (.t 25) (.seq (.reg [⟨some 27,.mv (.t 2),none,[]⟩,
 ⟨some 28,.fad 4 (.t 7),none,[]⟩,
 ⟨some 29,.ld1 (.t 28),none,[]⟩,
 ⟨some 30,.bin .add (.t 27) (.t 29),none,[]⟩,
 ⟨some 6,.mv (.t 30),none,[]⟩])
 .ret)
 (.seq (.reg [⟨some 32,.bin .eql (.t 24) (.c (.val (.int .i64 2))),none,[]⟩,
 ⟨some 31,.mv (.t 32),none,[]⟩])
 (.cond (.t 31) (.seq (.reg [⟨some 33,.mv (.t 2),none,[]⟩,
 ⟨some 34,.fad 9 (.t 7),none,[]⟩,
 ⟨some 35,.ld1 (.t 34),none,[]⟩,
 ⟨some 36,.fad 4 (.t 7),none,[]⟩,
 ⟨some 37,.ld1 (.t 36),none,[]⟩,
 ⟨some 38,.bin .add (.t 35) (.t 37),none,[]⟩,
 ⟨some 39,.max (.t 33) (.t 38),none,[]⟩,
 ⟨some 6,.mv (.t 39),none,[]⟩])
 .ret)
 (.seq (.reg [⟨some 41,.bin .eql (.t 24) (.c (.val (.int .i64 3))),none,[]⟩,
 ⟨some 40,.mv (.t 41),none,[]⟩])
 (.cond (.t 40) (.seq (.reg [⟨some 42,.mv (.t 2),none,[]⟩,
 ⟨some 43,.fad 10 (.t 7),none,[]⟩,
 ⟨some 44,.ld1 (.t 43),none,[]⟩,
 ⟨some 45,.max (.t 42) (.t 44),none,[]⟩,
 ⟨some 6,.mv (.t 45),none,[]⟩])
 .ret)
 .skip))))))))
 (.seq (.reg [⟨some 6,.mv (.c (.val (.int .i64 (-1)))),none,[]⟩])
 .ret))))),
[(.t 6)])
theorem irOk137 : convFn Tryz.prog Tryz.f137 = some ir137 := by kernel_rfl
/-- ahead.At -/
def ir121 : Nat × C × List RV := (39,
(.seq (.reg [⟨some 3,.box 27 (.t 0),none,[]⟩,
 ⟨some 6,.mv (.c (.val (.int .i64 0))),none,[]⟩])
 (.seq (.reg [⟨some 11,.ldn 6 (.t 3),none,[]⟩,
 ⟨some 12,.call (.f 83) [(.t 11)],none,[]⟩,
 ⟨some 7,.mv (.t 12),none,[]⟩])
 (.seq (.seq (.reg [⟨some 13,.fad 1 (.t 3),none,[]⟩,
 ⟨some 14,.ld1 (.t 13),none,[]⟩,
 ⟨some 15,.len (.t 14),none,[]⟩,
 ⟨some 16,.mv (.c (.val (.int .i64 0))),none,[]⟩])
 (.block 0 (.loop (.seq (.reg [⟨some 17,.bin .lss (.t 16) (.t 15),none,[]⟩])
 (.seq (.cond (.t 17) .skip
 (.exit 0))
 (.seq (.block 1 (.seq (.reg [⟨some 18,.mv (.t 16),none,[]⟩,
 ⟨some 19,.ixa 12 (.t 14) (.t 16),none,[]⟩,
 ⟨some 20,.ldn 12 (.t 19),none,[]⟩,
 ⟨some 9,.new 47 [(.val (.int .i64 0)),(.val (.int .i64 0)),(.val (.int .i64 0)),(.val (.int .i64 0)),(.val (.int .i64 0)),(.val (.int .i64 0)),(.val (.int .i64 0)),(.val (.int .i64 0)),(.val (.int .i64 0)),(.val (.int .i64 0)),(.val (.int .i64 0)),(.val (.int .i64 0))],none,[]⟩,
 ⟨some 8,.mv (.t 18),none,[]⟩,
 ⟨none,.st 12 (.t 9) (.t 20),none,[]⟩])
 (.seq (.reg [⟨some 21,.ldn 6 (.t 3),none,[]⟩,
 ⟨some 22,.mv (.t 8),none,[]⟩,
 ⟨some 23,.bin .add (.t 22) (.c (.val (.int .i64 1))),none,[]⟩,
 ⟨some 24,.mv (.t 1),none,[]⟩,
 ⟨some 25,.call (.f 137) [(.t 21),(.t 23),(.t 24)],none,[]⟩,
 ⟨some 10,.mv (.t 25),none,[]⟩])
 (.seq (.reg [⟨some 26,.mv (.t 10),none,[]⟩,
 ⟨some 27,.bin .geq (.t 26) (.c (.val (.int .i64 0))),none,[]⟩,
 ⟨some 28,.mv (.t 27),none,[]⟩,
 ⟨some 29,.mv (.t 10),(some (28,true)),[]⟩,
 ⟨some 30,.mv (.t 2),(some (28,true)),[]⟩,
 ⟨some 31,.bin .leq (.t 29) (.t 30),(some (28,true)),[]⟩,
 ⟨some 32,.pick (.t 28) (.t 31) (.c (.val (.bool false))),none,[]⟩])
 (.cond (.t 32) (.reg [⟨some 33,.mv (.t 7),none,[]⟩,
 ⟨some 34,.fad 8 (.t 9),none,[]⟩,
 ⟨some 35,.ld1 (.t 34),none,[]⟩,
 ⟨some 36,.bin .or (.t 33) (.t 35),none,[]⟩,
 ⟨some 7,.mv (.t 36),none,[]⟩])
 .skip)))))
 (.reg [⟨some 37,.bin .add (.t 16) (.c (.val (.int .i64 1))),none,[]⟩,
 ⟨some 16,.mv (.t 37),none,[]⟩])))))))
 (.seq (.reg [⟨some 38,.mv (.t 7),none,[]⟩,
 ⟨some 6,.mv (.t 38),none,[]⟩])
 .ret)))),
[(.t 6)])
theorem irOk121 : convFn Tryz.prog Tryz.f121 = some ir121 := by kernel_rfl
/-- ahead.queued -/
def ir84 : Nat × C × List RV := (24,
(.seq (.reg [⟨some 2,.box 27 (.t 0),none,[]⟩,
 ⟨some 4,.mv (.c (.val (.bool false))),none,[]⟩])
 (.seq (.reg [⟨some 5,.mv (.t 1),none,[]⟩,
 ⟨some 6,.bin .geq (.t 5) (.c (.val (.int .i64 1))),none,[]⟩,
 ⟨some 7,.mv (.t 6),none,[]⟩,
 ⟨some 8,.mv (.t 1),(some (7,true)),[]⟩,
 ⟨some 9,.fad 1 (.t 2),(some (7,true)),[]⟩,
 ⟨some 10,.ld1 (.t 9),(some (7,true)),[]⟩,
 ⟨some 11,.len (.t 10),(some (7,true)),[]⟩,
 ⟨some 12,.bin .leq (.t 8) (.t 11),(some (7,true)),[]⟩,
 ⟨some 13,.pick (.t 7) (.t 12) (.c (.val (.bool false))),none,[]⟩,
 ⟨some 14,.mv (.t 13),none,[]⟩,
 ⟨some 15,.fad 1 (.t 2),(some (14,true)),[]⟩,
 ⟨some 16,.ld1 (.t 15),(some (14,true)),[]⟩,
 ⟨some 17,.mv (.t 1),(some (14,true)),[]⟩,
 ⟨some 18,.bin .sub (.t 17) (.c (.val (.int .i64 1))),(some (14,true)),[]⟩,
 ⟨some 19,.ixa 12 (.t 16) (.t 18),(some (14,true)),[]⟩,
 ⟨some 20,.fad 6 (.t 19),(some (14,true)),[]⟩,
 ⟨some 21,.ld1 (.t 20),(some (14,true)),[]⟩,
 ⟨some 22,.bin .eql (.t 21) (.c (.val (.int .i64 0))),(some (14,true)),[]⟩,
 ⟨some 23,.pick (.t 14) (.t 22) (.c (.val (.bool false))),none,[]⟩,
 ⟨some 4,.mv (.t 23),none,[]⟩])
 .ret)),
[(.t 4)])
theorem irOk84 : convFn Tryz.prog Tryz.f84 = some ir84 := by kernel_rfl
def TimeR (now : Int) : Prop := 0 ≤ now ∧ now ≤ 1000000
set_option maxHeartbeats 4000000 in
theorem end_tri (s : StateD) (h : FitS s) (job now : Int) (h0 : TimeR now) : Tri Tryz.prog G 137 [stateV s, .int job, .int now] [] (.int (endS s job now)) [] := by
  refine tri_W0 Tryz.func137 (by decide) irOk137 (Nat.le_of_ble_eq_true rfl) rfl ?_
  simp only [ir137,go_sem,↓reduceIte,zA,zB,zC,zD,zE,zF,reduceCtorEq,zG,zH,zI,zJ,zK,zL,zM,zN,zO,zP]
  have hj := h.jobs
  obtain ⟨h01, h02⟩ := h0
  unfold endS
  by_cases h1 : job < 1
  · simp only [decide_eq_true h1,h1,true_or,if_true,go_sem,↓reduceIte,zA,zB,zC,zD,zE,zF,reduceCtorEq,zG,zH,zI,zJ,zK,zL,zM,zN,zO,zP]
  simp only [decide_eq_false h1,h1,false_or,List.length_map,go_sem,↓reduceIte,zA,zB,zC,zD,zE,zF,reduceCtorEq,zG,zH,zI,zJ,zK,zL,zM,zN,zO,zP]
  by_cases h2 : (s.jobs.length : Int) < job
  · simp only [decide_eq_true (show job > (s.jobs.length : Int) from h2),h2,true_or,if_true,go_sem,↓reduceIte,zA,zB,zC,zD,zE,zF,reduceCtorEq,zG,zH,zI,zJ,zK,zL,zM,zN,zO,zP]
  simp only [decide_eq_false (show ¬ job > (s.jobs.length : Int) from h2),h2,false_or,if_false,go_sem,↓reduceIte,zA,zB,zC,zD,zE,zF,reduceCtorEq,zG,zH,zI,zJ,zK,zL,zM,zN,zO,zP]
  obtain ⟨i, rfl⟩ : ∃ i : Nat, job = ((i + 1 : Nat) : Int) := ⟨(job - 1).toNat, by omega⟩
  have hi : i < s.jobs.length := by omega
  have e1 := succ_pred i (by omega)
  have e0 : (((i + 1 : Nat) : Int) - 1).toNat = i := by omega
  have hgi := get_mapD (f := jobR) zeroJob hi
  have hE : EndR (s.jobs.getD i zeroJob) := h.ends i hi
  generalize hx : s.jobs.getD i zeroJob = x at hgi hE
  obtain ⟨w1, w2, w3⟩ := hE
  simp only [jobR] at hgi
  simp only [e0,e1,hx,hgi,go_sem,↓reduceIte,zA,zB,zC,zD,zE,zF,reduceCtorEq,zG,zH,zI,zJ,zK,zL,zM,zN,zO,zP]
  unfold endJ
  by_cases h3 : x.phase = 1
  · simp only [show (x.phase == 1) = true from beq_iff_eq.2 h3,if_pos h3,wrap_in (show -9223372036854775808 ≤ now + x.work by omega) (show now + x.work ≤ 9223372036854775807 by omega),go_sem,↓reduceIte,zA,zB,zC,zD,zE,zF,reduceCtorEq,zG,zH,zI,zJ,zK,zL,zM,zN,zO,zP]
  simp only [show (x.phase == 1) = false from beq_eq_false_iff_ne.2 h3,if_neg h3,go_sem,↓reduceIte,zA,zB,zC,zD,zE,zF,reduceCtorEq,zG,zH,zI,zJ,zK,zL,zM,zN,zO,zP]
  by_cases h4 : x.phase = 2
  · simp only [show (x.phase == 2) = true from beq_iff_eq.2 h4,if_pos h4,wrap_in (show -9223372036854775808 ≤ x.since + x.work by omega) (show x.since + x.work ≤ 9223372036854775807 by omega),maxI,go_sem,↓reduceIte,zA,zB,zC,zD,zE,zF,reduceCtorEq,zG,zH,zI,zJ,zK,zL,zM,zN,zO,zP]
  simp only [show (x.phase == 2) = false from beq_eq_false_iff_ne.2 h4,if_neg h4,go_sem,↓reduceIte,zA,zB,zC,zD,zE,zF,reduceCtorEq,zG,zH,zI,zJ,zK,zL,zM,zN,zO,zP]
  by_cases h5 : x.phase = 3
  · simp only [show (x.phase == 3) = true from beq_iff_eq.2 h5,if_pos h5,maxI,go_sem,↓reduceIte,zA,zB,zC,zD,zE,zF,reduceCtorEq,zG,zH,zI,zJ,zK,zL,zM,zN,zO,zP]
  simp only [show (x.phase == 3) = false from beq_eq_false_iff_ne.2 h5,if_neg h5,go_sem,↓reduceIte,zA,zB,zC,zD,zE,zF,reduceCtorEq,zG,zH,zI,zJ,zK,zL,zM,zN,zO,zP]

set_option maxHeartbeats 4000000 in
theorem queued_tri (s : StateD) (hn : s.jobs.length ≤ 1000) (job : Int) : Tri Tryz.prog G 84 [stateV s, .int job] [] (.bool (queuedI s job)) [] := by
  refine tri_W0 Tryz.func84 (by decide) irOk84 (Nat.le_of_ble_eq_true rfl) rfl ?_
  simp only [ir84,go_sem,↓reduceIte,zA,zB,zC,zD,zE,zF,reduceCtorEq,zG,zH,zI,zJ,zK,zL,zM,zN,zO,zP]
  unfold queuedI
  by_cases h1 : job < 1
  · simp only [decide_eq_false (show ¬ job ≥ 1 by omega),show ¬ (1 ≤ job) by omega,false_and,decide_false,go_sem,↓reduceIte,zA,zB,zC,zD,zE,zF,reduceCtorEq,zG,zH,zI,zJ,zK,zL,zM,zN,zO,zP]
  simp only [decide_eq_true (show job ≥ 1 by omega),show 1 ≤ job by omega,true_and,List.length_map,go_sem,↓reduceIte,zA,zB,zC,zD,zE,zF,reduceCtorEq,zG,zH,zI,zJ,zK,zL,zM,zN,zO,zP]
  by_cases h2 : (s.jobs.length : Int) < job
  · simp only [decide_eq_false (show ¬ job ≤ (s.jobs.length : Int) by omega),show ¬ (job ≤ (s.jobs.length : Int)) by omega,false_and,decide_false,go_sem,↓reduceIte,zA,zB,zC,zD,zE,zF,reduceCtorEq,zG,zH,zI,zJ,zK,zL,zM,zN,zO,zP]
  simp only [decide_eq_true (show job ≤ (s.jobs.length : Int) by omega),show job ≤ (s.jobs.length : Int) by omega,true_and,go_sem,↓reduceIte,zA,zB,zC,zD,zE,zF,reduceCtorEq,zG,zH,zI,zJ,zK,zL,zM,zN,zO,zP]
  obtain ⟨i, rfl⟩ : ∃ i : Nat, job = ((i + 1 : Nat) : Int) := ⟨(job - 1).toNat, by omega⟩
  have hi : i < s.jobs.length := by omega
  have e1 := succ_pred i (by omega)
  have e0 : (((i + 1 : Nat) : Int) - 1).toNat = i := by omega
  have hgi := get_mapD (f := jobR) zeroJob hi
  generalize hx : s.jobs.getD i zeroJob = x at hgi
  simp only [jobR] at hgi
  simp only [e0,e1,hx,hgi,go_sem,↓reduceIte,zA,zB,zC,zD,zE,zF,reduceCtorEq,zG,zH,zI,zJ,zK,zL,zM,zN,zO,zP]
  by_cases h3 : x.phase = 0
  · simp only [h3,beq_self_eq_true,decide_true,go_sem,↓reduceIte,zA,zB,zC,zD,zE,zF,reduceCtorEq,zG,zH,zI,zJ,zK,zL,zM,zN,zO,zP]
  · simp only [show (x.phase == 0) = false from beq_eq_false_iff_ne.2 h3,h3,decide_false,go_sem,↓reduceIte,zA,zB,zC,zD,zE,zF,reduceCtorEq,zG,zH,zI,zJ,zK,zL,zM,zN,zO,zP]

theorem ok_split (e t : Int) : okE e t = if 0 ≤ e then decide (e ≤ t) else false := by
  unfold okE
  split
  · rw [decide_eq_true (by assumption), Bool.true_and]
  · rw [decide_eq_false (by assumption), Bool.false_and]
def atSt (s : StateD) (now t : Int) (k : Nat) : St := ⟨[(1, .int now), (2, .int t), (3, .ptr 0 0), (7, .int (atN s now t k)), (14, jobsV s.jobs), (15, .int s.jobs.length), (16, .int k)], [some (boxS s)]⟩
set_option maxHeartbeats 4000000 in
theorem at_tri (s : StateD) (h : FitS s) (now t : Int) (h0 : TimeR now) : Tri Tryz.prog G 121 [stateV s, .int now, .int t] [] (.int (atN s now t s.jobs.length)) [] := by
  refine tri_W0 Tryz.func121 (by decide) irOk121 (Nat.le_of_ble_eq_true rfl) rfl ?_
  simp only [ir121,go_sem,↓reduceIte,zA,zB,zC,zD,zE,zF,reduceCtorEq,zG,zH,zI,zJ,zK,zL,zM,zN,zO,zP]
  have hn := h.jobs
  refine W_calld (fopen_tri s h.nodes) rfl rfl rfl rfl ?_; simp only [go_sem,↓reduceIte,zA,zB,zC,zD,zE,zF,reduceCtorEq,zG,zH,zI,zJ,zK,zL,zM,zN,zO,zP]
  refine W_loopI [1, 2, 3, 7, 14, 15, 16] [] (fun k : Nat => k ≤ s.jobs.length) (fun k => s.jobs.length - k) (atSt s now t) 0 ?_ (Nat.zero_le _) (fun k hk => ?_)
  · simp only [atSt,boxS,atN,Int.natCast_zero,List.length_map,go_sem,↓reduceIte,zA,zB,zC,zD,zE,zF,reduceCtorEq,zG,zH,zI,zJ,zK,zL,zM,zN,zO,zP]
  simp only [atSt,boxS,List.length_map,go_sem,↓reduceIte,zA,zB,zC,zD,zE,zF,reduceCtorEq,zG,zH,zI,zJ,zK,zL,zM,zN,zO,zP]
  by_cases hlt : k < s.jobs.length
  · have hg := get_mapD (f := jobR) zeroJob hlt
    have he := endS_at (s := s) hlt now
    have hst : atN s now t (k + 1) = if okE (endJ (joA s k) now) t = true then orI .i64 (atN s now t k) (joA s k).nodes else atN s now t k := rfl
    have hjo : joA s k = s.jobs.getD k zeroJob := rfl
    generalize s.jobs.getD k zeroJob = x at hg hjo
    rw [hjo] at he hst
    simp only [jobR] at hg
    simp only [decide_eq_true (show ((k : Nat) : Int) < ((s.jobs.length : Nat) : Int) by omega),hg,wrap_succ (show k < 9223372036854775807 by omega),go_sem,↓reduceIte,zA,zB,zC,zD,zE,zF,reduceCtorEq,zG,zH,zI,zJ,zK,zL,zM,zN,zO,zP]
    refine W_calld (end_tri s h ((k + 1 : Nat) : Int) now h0) rfl rfl rfl rfl ?_; simp only [go_sem,↓reduceIte,zA,zB,zC,zD,zE,zF,reduceCtorEq,zG,zH,zI,zJ,zK,zL,zM,zN,zO,zP]
    simp only [he,go_sem,↓reduceIte,zA,zB,zC,zD,zE,zF,reduceCtorEq,zG,zH,zI,zJ,zK,zL,zM,zN,zO,zP]
    rw [ok_split] at hst
    generalize endJ x now = e at hst ⊢
    by_cases h1 : 0 ≤ e
    · simp only [if_pos h1] at hst
      simp only [decide_eq_true (show e ≥ 0 from h1),go_sem,↓reduceIte,zA,zB,zC,zD,zE,zF,reduceCtorEq,zG,zH,zI,zJ,zK,zL,zM,zN,zO,zP]
      by_cases h2 : e ≤ t
      · rw [decide_eq_true h2, if_pos rfl] at hst
        simp only [decide_eq_true h2,go_sem,↓reduceIte,zA,zB,zC,zD,zE,zF,reduceCtorEq,zG,zH,zI,zJ,zK,zL,zM,zN,zO,zP]
        refine W_lpI (k + 1) ?_ ?_ (by omega) (by omega)
        · simp only [go_sem,↓reduceIte,zA,zB,zC,zD,zE,zF,reduceCtorEq,zG,zH,zI,zJ,zK,zL,zM,zN,zO,zP]
        · simp only [atSt,boxS,hst,wrap_succ (show k < 9223372036854775807 by omega),go_sem,↓reduceIte,zA,zB,zC,zD,zE,zF,reduceCtorEq,zG,zH,zI,zJ,zK,zL,zM,zN,zO,zP]
      · rw [decide_eq_false h2, if_neg (by decide)] at hst
        simp only [decide_eq_false h2,go_sem,↓reduceIte,zA,zB,zC,zD,zE,zF,reduceCtorEq,zG,zH,zI,zJ,zK,zL,zM,zN,zO,zP]
        refine W_lpI (k + 1) ?_ ?_ (by omega) (by omega)
        · simp only [go_sem,↓reduceIte,zA,zB,zC,zD,zE,zF,reduceCtorEq,zG,zH,zI,zJ,zK,zL,zM,zN,zO,zP]
        · simp only [atSt,boxS,hst,wrap_succ (show k < 9223372036854775807 by omega),go_sem,↓reduceIte,zA,zB,zC,zD,zE,zF,reduceCtorEq,zG,zH,zI,zJ,zK,zL,zM,zN,zO,zP]
    · simp only [if_neg h1,if_neg (show ¬ false = true by decide)] at hst
      simp only [decide_eq_false (show ¬ e ≥ 0 from h1),go_sem,↓reduceIte,zA,zB,zC,zD,zE,zF,reduceCtorEq,zG,zH,zI,zJ,zK,zL,zM,zN,zO,zP]
      refine W_lpI (k + 1) ?_ ?_ (by omega) (by omega)
      · simp only [go_sem,↓reduceIte,zA,zB,zC,zD,zE,zF,reduceCtorEq,zG,zH,zI,zJ,zK,zL,zM,zN,zO,zP]
      · simp only [atSt,boxS,hst,wrap_succ (show k < 9223372036854775807 by omega),go_sem,↓reduceIte,zA,zB,zC,zD,zE,zF,reduceCtorEq,zG,zH,zI,zJ,zK,zL,zM,zN,zO,zP]
  · obtain rfl : k = s.jobs.length := by omega
    simp only [decide_eq_false (show ¬ ((s.jobs.length : Nat) : Int) < ((s.jobs.length : Nat) : Int) by omega),go_sem,↓reduceIte,zA,zB,zC,zD,zE,zF,reduceCtorEq,zG,zH,zI,zJ,zK,zL,zM,zN,zO,zP]

end Dv

namespace Dv
open Go Go.Proofs
open Nat renaming reduceEqDiff → zA, reduceAdd → zB, reduceSub → zC, reduceMul → zD, reduceLT → zE, reduceLeDiff → zF
open Int renaming reduceLE → zG, reduceLT → zH, reduceToNat → zI, reduceBEq → zJ, reduceBNe → zK, reduceEq → zL, reduceAdd → zM, reduceSub → zN, reduceMul → zO, reduceNeg → zP
attribute [local go_sem] argEnv W_nil W_seq W_skip W_ret W_exit W_scope W_block W_blk W_reg W_regD W_cond WC_t WC_f WC_any Wx_c Wx_ops Wx_lp Wx_blk W_ops_nil W_opsD_q W_guard W_guardD WG_tt WG_ff WG_tf WG_ft WG_u WGD_tt WGD_ff WGD_tf WGD_ft WGD_u WE_some WED_some W_more W_mv W_pick W_new W_box W_build W_bsl W_ld1 W_ldn W_st W_nck W_bin W_eqb W_not W_cvt W_fad W_fld1 W_fldn W_ixa W_ixr W_ix1 W_ixs W_len W_lens W_mkf W_ext W_app W_min W_max W_isnp W_isns W_eqs W_neg W_ixn W_sli W_sls WD_more WD_mv WD_pick WD_new WD_box WD_build WD_bsl WD_ld1 WD_ldn WD_st WD_nck WD_bin WD_eqb WD_not WD_cvt WD_fad WD_fld1 WD_fldn WD_ixa WD_ixr WD_ix1 WD_ixs WD_len WD_lens WD_mkf WD_ext WD_app WD_min WD_max WD_isnp WD_isns WD_eqs WD_neg WD_ixn WD_sli WD_sls effF effM bytesOf Opd.ev getE putE binV LV.int LV.bool LV.undef Go.undef LV.cells LV.toD LV.toDs splice fillL rowsOf boxOf srcRows updL objL Eff.owned nwp St.get St.obj St.put Value.oneCell' Ends adopt Ad.ap isNil St.keep St.okKeep okObj idl idlL idlO RVs.of RV.of oneOr Ends0 EndsO_iff frzs rn rnL rnO piOf eqCells eqV boundV Option.map_some Option.map_none List.append_nil List.nil_append List.cons_append List.map_nil List.map_cons List.length_nil List.length_cons List.set_cons_zero List.set_cons_succ List.take_succ_cons List.take_zero List.take_nil List.drop_succ_cons List.drop_zero List.drop_nil List.getElem?_cons_zero List.getElem?_cons_succ List.getElem?_nil List.isEmpty_nil List.isEmpty_cons List.all_cons List.all_nil List.isEmpty_nil cond_true cond_false Bool.true_and Bool.false_and Bool.and_true Bool.and_false Bool.not_true Bool.not_false Bool.or_true Bool.true_or Bool.or_false Bool.false_or true_and and_true true_or or_true Option.some.injEq LV.d.injEq DV.val.injEq Value.bool.injEq Value.int.injEq decide_true decide_false and_self Nat.zero_add Nat.add_zero if_true if_false Int.toNat_zero beq_self_eq_true Nat.zero_lt_succ Int.toNat_natCast Int.natCast_nonneg List.length_map i64 bl List.zip_cons_cons List.zip_nil_left List.zip_nil_right nwp confV stateV nodeV jobV nodesV jobsV opV msgV nodeR jobR opR msgR zeroOp zeroMsg msgsV
variable {G : Nat → Option (List DV)}

/-- fit.Now -/
def ir62 : Nat × C × List RV := (37,
(.seq (.reg [⟨some 2,.box 27 (.t 0),none,[]⟩,
 ⟨some 4,.mv (.c (.val (.int .i64 0))),none,[]⟩,
 ⟨some 5,.mv (.c (.val (.bool false))),none,[]⟩])
 (.seq (.seq (.reg [⟨some 6,.mv (.t 1),none,[]⟩,
 ⟨some 7,.bin .lss (.t 6) (.c (.val (.int .i64 1))),none,[]⟩,
 ⟨some 8,.mv (.t 7),none,[]⟩,
 ⟨some 9,.mv (.t 1),(some (8,false)),[]⟩,
 ⟨some 10,.fad 1 (.t 2),(some (8,false)),[]⟩,
 ⟨some 11,.ld1 (.t 10),(some (8,false)),[]⟩,
 ⟨some 12,.len (.t 11),(some (8,false)),[]⟩,
 ⟨some 13,.bin .gtr (.t 9) (.t 12),(some (8,false)),[]⟩,
 ⟨some 14,.pick (.t 8) (.c (.val (.bool true))) (.t 13),none,[]⟩,
 ⟨some 15,.mv (.t 14),none,[]⟩,
 ⟨some 16,.fad 1 (.t 2),(some (15,false)),[]⟩,
 ⟨some 17,.ld1 (.t 16),(some (15,false)),[]⟩,
 ⟨some 18,.mv (.t 1),(some (15,false)),[]⟩,
 ⟨some 19,.bin .sub (.t 18) (.c (.val (.int .i64 1))),(some (15,false)),[]⟩,
 ⟨some 20,.ixa 12 (.t 17) (.t 19),(some (15,false)),[]⟩,
 ⟨some 21,.fad 6 (.t 20),(some (15,false)),[]⟩,
 ⟨some 22,.ld1 (.t 21),(some (15,false)),[]⟩,
 ⟨some 23,.bin .neq (.t 22) (.c (.val (.int .i64 0))),(some (15,false)),[]⟩,
 ⟨some 24,.pick (.t 15) (.c (.val (.bool true))) (.t 23),none,[]⟩])
 (.cond (.t 24) (.seq (.reg [⟨some 4,.mv (.c (.val (.int .i64 0))),none,[]⟩,
 ⟨some 5,.mv (.c (.val (.bool false))),none,[]⟩])
 .ret)
 .skip))
 (.seq (.regD [⟨some 25,.ldn 6 (.t 2),none,[]⟩,
 ⟨some 26,.fad 1 (.t 2),none,[]⟩,
 ⟨some 27,.ld1 (.t 26),none,[1]⟩,
 ⟨some 28,.mv (.t 1),none,[]⟩,
 ⟨some 29,.bin .sub (.t 28) (.c (.val (.int .i64 1))),none,[3]⟩,
 ⟨some 30,.ixa 12 (.t 27) (.t 29),none,[2,1,4,3]⟩,
 ⟨some 31,.ldn 12 (.t 30),none,[5,2,1,4,3]⟩,
 ⟨some 32,.ldn 6 (.t 2),none,[]⟩,
 ⟨some 33,.call (.f 83) [(.t 32)],none,[7]⟩,
 ⟨some 34,.call (.f 82) [(.t 25),(.t 31),(.t 33)],none,[0,6,5,2,1,4,3,8,7]⟩,
 ⟨some 35,.ext (.t 34) 0,none,[9,0,6,5,2,1,4,3,8,7]⟩,
 ⟨some 36,.ext (.t 34) 1,none,[9,0,6,5,2,1,4,3,8,7]⟩,
 ⟨some 4,.mv (.t 35),none,[10,9,0,6,5,2,1,4,3,8,7,11]⟩,
 ⟨some 5,.mv (.t 36),none,[11,9,0,6,5,2,1,4,3,8,7,12,10]⟩])
 .ret))),
[(.t 4),(.t 5)])
theorem irOk62 : convFn Tryz.prog Tryz.f62 = some ir62 := by kernel_rfl
theorem queued_cases (s : StateD) (job : Int) : (job < 1 ∧ queuedI s job = false) ∨ (¬ job < 1 ∧ (s.jobs.length : Int) < job ∧ queuedI s job = false) ∨
    ∃ i : Nat, job = ((i + 1 : Nat) : Int) ∧ i < s.jobs.length ∧ ¬ job < 1 ∧ ¬ (s.jobs.length : Int) < job ∧ queuedI s job = decide ((s.jobs.getD i zeroJob).phase = 0) := by
  unfold queuedI
  by_cases h1 : job < 1
  · exact .inl ⟨h1, decide_eq_false (fun h => by omega)⟩
  by_cases h2 : (s.jobs.length : Int) < job
  · exact .inr (.inl ⟨h1, h2, decide_eq_false (fun h => by omega)⟩)
  refine .inr (.inr ⟨(job - 1).toNat, by omega, by omega, h1, h2, ?_⟩)
  simp only [show 1 ≤ job by omega,show job ≤ (s.jobs.length : Int) by omega,true_and]
set_option maxHeartbeats 4000000 in
theorem now_tri (s : StateD) (h : FitS s) (job : Int) : Tri Tryz.prog G 62 [stateV s, .int job] [] (.tup [.int (nowS s job).1, .bool (nowS s job).2]) [] := by
  refine tri_W0 Tryz.func62 (by decide) irOk62 (Nat.le_of_ble_eq_true rfl) rfl ?_
  simp only [ir62,go_sem,↓reduceIte,zA,zB,zC,zD,zE,zF,reduceCtorEq,zG,zH,zI,zJ,zK,zL,zM,zN,zO,zP]
  have hj := h.jobs
  unfold nowS
  rcases queued_cases s job with ⟨h1, hq⟩ | ⟨h1, h2, hq⟩ | ⟨i, rfl, hi, h1, h2, hq⟩
  · simp only [decide_eq_true h1,hq,if_neg (show ¬ false = true by decide),go_sem,↓reduceIte,zA,zB,zC,zD,zE,zF,reduceCtorEq,zG,zH,zI,zJ,zK,zL,zM,zN,zO,zP]
  · simp only [decide_eq_false h1,decide_eq_true (show job > (s.jobs.length : Int) from h2),List.length_map,hq,if_neg (show ¬ false = true by decide),go_sem,↓reduceIte,zA,zB,zC,zD,zE,zF,reduceCtorEq,zG,zH,zI,zJ,zK,zL,zM,zN,zO,zP]
  have e1 := succ_pred i (by omega)
  have e2 := jobQ_at s i
  have hgi := get_mapD (f := jobR) zeroJob hi
  have hm := h.most i hi
  have hjo : joA s i = s.jobs.getD i zeroJob := rfl
  generalize s.jobs.getD i zeroJob = x at hgi hjo hq
  rw [hjo] at e2 hm
  simp only [jobR] at hgi
  simp only [decide_eq_false h1,decide_eq_false (show ¬ ((i + 1 : Nat) : Int) > (s.jobs.length : Int) from h2),List.length_map,e1,e2,hgi,go_sem,↓reduceIte,zA,zB,zC,zD,zE,zF,reduceCtorEq,zG,zH,zI,zJ,zK,zL,zM,zN,zO,zP]
  by_cases h3 : x.phase = 0
  · simp only [show (x.phase != 0) = false from (bne_eq_false_iff_eq.2 h3),hq,decide_eq_true h3,if_true,e1,e2,hgi,go_sem,↓reduceIte,zA,zB,zC,zD,zE,zF,reduceCtorEq,zG,zH,zI,zJ,zK,zL,zM,zN,zO,zP]
    refine WD_calld (fopen_tri s h.nodes) rfl rfl rfl rfl ?_; simp only [go_sem,↓reduceIte,zA,zB,zC,zD,zE,zF,reduceCtorEq,zG,zH,zI,zJ,zK,zL,zM,zN,zO,zP]
    refine WD_calld (pick_tri s x (freeS s) h.nodes (free_6 h.nodes) hm) rfl rfl rfl rfl ?_; simp only [go_sem,↓reduceIte,zA,zB,zC,zD,zE,zF,reduceCtorEq,zG,zH,zI,zJ,zK,zL,zM,zN,zO,zP]
  · simp only [show (x.phase != 0) = true from bne_iff_ne.2 h3,hq,decide_eq_false h3,if_neg (show ¬ false = true by decide),go_sem,↓reduceIte,zA,zB,zC,zD,zE,zF,reduceCtorEq,zG,zH,zI,zJ,zK,zL,zM,zN,zO,zP]
theorem natR_get (l : List Nat) (i : Nat) (h : i < l.length) : (natR l)[i]? = some [i64 ((l.getD i 0 + 1 : Nat) : Int)] := by
  unfold natR
  rw [List.getElem?_map, List.getElem?_eq_getElem h]
  simp [List.getD,h]
theorem natR_len (l : List Nat) : (natR l).length = l.length := by unfold natR; rw [List.length_map]
theorem nextGo_step (f g : Int → Int × Bool) (L : List Nat) (i : Nat) (hi : i < L.length) : nextGo f g (L.drop i) i =
    if (if i = 0 then f ((L.getD i 0 + 1 : Nat) : Int) else g ((L.getD i 0 + 1 : Nat) : Int)).2 = true then (((L.getD i 0 + 1 : Nat) : Int), (if i = 0 then f ((L.getD i 0 + 1 : Nat) : Int) else g ((L.getD i 0 + 1 : Nat) : Int)).1, true) else nextGo f g (L.drop (i + 1)) (i + 1) := by
  rw [List.drop_eq_getElem_cons hi, show L.getD i 0 = L[i] by simp [List.getD,hi]]
  cases i with
  | zero => simp only [nextGo,if_true]
  | succ i => simp only [nextGo,if_neg (Nat.succ_ne_zero i)]
end Dv

namespace Dv
open Go Go.Proofs
theorem rowD_val1 {J : Nat → Prop} {w : World} {g : Nat} : ∀ (l : List Int) (off : Nat), (∀ (j : Nat) x, l[j]? = some x → w.cell? ⟨g, off + j, none⟩ = some (.int .i64 x)) → RowsD J w 1 (l.map fun i => [i64 i]) g off
  | [], _, _ => trivial
  | x :: l, off, h => ⟨rfl, ⟨⟨.int .i64 x, h 0 x rfl, rfl, rfl⟩, trivial⟩, rowD_val1 l (off + 1) (fun j y hy => by
      have := h (j + 1) y (by simpa using hy)
      rw [show off + 1 + j = off + (j + 1) by omega]; exact this)⟩
theorem int_row {J : Nat → Prop} {w : World} {n0 : Nat} {e : TypeId} {v : Value} {l : List Int} (h : w.ownsRow n0 e 1 v l.length (l.map (Value.int .i64))) (hj : ∀ b, v.ownBlock = some b → J b) : RepD J w (.lst 1 (l.map fun i => [i64 i])) v := by
  rcases h.2 with ⟨rfl, h0⟩ | ⟨g, cap, cur, rfl, _, hg, hc, _, _, hx⟩
  · exact ⟨none, 0, 0, rfl, by simp [h0], Nat.le_refl _, .inl (by rw [List.eq_nil_of_length_eq_zero h0]; rfl)⟩
  · refine ⟨_, _, _, rfl, by simp, hc, .inr ⟨g, 0, rfl, hj g rfl, rowD_val1 l 0 (fun j x hjx => ?_)⟩⟩
    have h1 : (cur.toList.take (l.length * 1))[j]? = some (.int .i64 x) := by rw [hx, List.getElem?_map, hjx]; rfl
    have hlt := (List.getElem?_eq_some_iff.1 h1).1
    rw [List.length_take] at hlt
    rw [List.getElem?_take, if_pos (by omega)] at h1
    rw [Nat.zero_add]
    simp only [World.cell?,hg]
    simpa using h1
theorem row_ge {w : World} {n0 : Nat} {e : TypeId} {esz k : Nat} {v : Value} {xs : List Value} (h : w.ownsRow n0 e esz v k xs) (b : Nat) (hb : v.ownBlock = some b) : n0 ≤ b ∧ ∃ C t f, w.heap[b]? = some (.cells C t f) := by
  rcases h.2 with ⟨rfl, h0⟩ | ⟨g, cap, cur, rfl, hge, hg, _⟩
  · simp [Value.ownBlock] at hb
  · simp only [Value.ownBlock,Option.some.injEq] at hb
    subst hb
    exact ⟨hge, _, _, _, hg⟩
/-- a row that a frame made, handed back as data. -/
theorem after_row {G : Nat → Option (List DV)} {J : Nat → Prop} {ι : Nat → Nat → Option Nat} {w W : World} (S : Store G J w ι (objL [])) (hB : RowKit.Below w.heap.size w W) {n0 : Nat} (hn : w.heap.size ≤ n0) {e : TypeId} {v : Value} {l : List Int}
    (h : W.ownsRow n0 e 1 v l.length (l.map (Value.int .i64))) : After G (objL []) (objL []) J ι w (.d (.lst 1 (l.map fun i => [i64 i]))) v W := by
  have S1 : Store G J W ι (objL []) := S.still (fun b h => hB.block b (S.jlt b h)) (fun b h => hB.block b (S.own_lt h)) (fun b h => shape_of_heap (hB.block b (shape_lt h)))
  have nil : ∀ o b, ¬ (objL [] o).own ι o b := fun o b => by rw [objL_free (by simp)]; exact fun h => h.elim
  refine ⟨fun b => J b ∨ v.ownBlock = some b, ι, ⟨fun o => ?_, fun o o' b h => absurd h (nil o b), fun o b h => absurd h (nil o b), fun b hb => ?_, fun q row hq => ?_⟩, int_row h (fun b hb => .inr hb),
    ⟨⟨hB.os, hB.tape, hB.output, hB.size, fun b hb _ => hB.block b hb, fun b hb => shape_of_heap (hB.block b hb), fun b hb => .inl hb, fun b hb => ?_, fun _ _ _ h => h⟩, fun b hb => ?_⟩⟩
  · have := S1.rep o
    rw [objL_free (by simp)] at this ⊢
    exact this
  · rcases hb with hb | hb
    · exact S1.jcell b hb
    · exact (row_ge h b hb).2
  · obtain ⟨q1, q2, q3⟩ := S1.glob q row hq
    exact ⟨.inl q1, RowD.mono (fun k h => .inl h) (fun _ _ => rfl) _ _ _ rfl q2, q3⟩
  · rcases hb with hb | hb
    · exact .inl hb
    · exact .inr (.inl (Nat.le_trans hn (row_ge h b hb).1))
  · obtain ⟨o, h⟩ := hb
    exact absurd h (nil o b)
def intR (l : List Int) : List (List DV) := l.map fun i => [i64 i]
end Dv
namespace Go
open Go.Maps (Keyed)
/-- an entry of a literal, as a store. -/
theorem wpListIn_insert_own {H : Type} {P : Program} (w : World) {F : Fence} {nF : Nat} {ops : Array Oper} {rest : List Oper} {o : Oper} {a : Act} {Q : Exit → Act → World → Prop}
    (hg : o.guard = none) (m x v : Operand) (t : TypeId) (hop : o.op = Op.insert t m x v)
    (k e : TypeId) (K : Keyed P k) (ht : P.underlying t = some (.map k e)) (R : Value → Option (DataW H × List MemPlace)) (b n : Nat) (D : DataW H)
    (hm : a.eval m = .map (some b)) (hown : w.ownsMap P k R b n D) (hn : n < maxLen) (key val : Value) (kl : Lit) (hx : a.eval x = key) (hv : a.eval v = val) (hkey : keyOf P k key = some kl)
    (d : DataW H) (ps : List MemPlace) (hval : R val = some (d, ps))
    (hK : ∀ w', w'.ownsMap P k R b (n + 1) (D.put kl d) → w.grownBy w' (some b) → wpListIn F nF P ops Q rest (a.put o.dst undef) w') :
    wpListIn F nF P ops Q (o :: rest) a w := by
  refine wpListIn_plain hg fun K' hK' => ?_
  obtain ⟨w', hrun, r1, r2⟩ := hown.update K ht hn hkey hval
  unfold Oper.wpIn
  refine ⟨by simp [Oper.about,hop], ?_⟩
  rw [Oper.semAt_plain F _ _ (by rw [hop]; intro c hc'; cases hc')]
  simp [execOp,hop,hm,hx,hv,hrun,Result.andThen]
  exact hK' _ _ (hK w' r1 r2)
end Go
namespace Go.Proofs
open Go.RowKit Go.Shelf Go.Maps
attribute [local go_sem] Oper.semAt_some
theorem Tryz.sortsA (m : Nat) : AnyZI.SortsIn Tryz.prog Tryz.sortedA_ren Fence.wide m :=
  ⟨fun blk off cap ss W hH hblk hsz => callsIn_wide.2 (AnyM.slices_Sort_int Tryz.sortA blk off cap ss W hH hblk hsz),
   fun p cap W => callsIn_wide.2 (AnyM.slices_Sort_int_none Tryz.sortA p cap W)⟩
/-- the keys of a map that holds these numbers. -/
theorem keys_perm {P : Program} {k : TypeId} {R : Value → Option (DataW Unit × List MemPlace)} {W : World} {b nn : Nat} {D : DataW Unit} (hown : W.ownsMap P k R b nn D) (K : Keyed P k) (hk : P.underlying k = some (.int .i64)) {l : List Int} (hn : l.Nodup) (hm : ∀ x, Maps.has D (.int .i64 x) = true ↔ x ∈ l) : l.Perm (intKeys D) := by
  obtain ⟨es, hD, hpw, _⟩ := hown.entries K
  obtain ⟨es', hD', hko⟩ := hown.keysOf
  obtain rfl : es = es' := by rw [hD] at hD'; simpa using hD'
  subst hD
  exact perm_intKeys hpw (fun p hp => by obtain ⟨v, hv⟩ := hko p hp; obtain ⟨x, _, hx, _⟩ := Maps.keyOf_i64 hk hv; exact ⟨x, hx⟩) hn (fun x => (hm x).symm)
theorem has_put_int {D : DataW Unit} (hD : IsMap D) (e x : Int) (d : DataW Unit) (l : List Int) (hm : ∀ x, Maps.has D (.int .i64 x) = true ↔ x ∈ l) : Maps.has (D.put (.int .i64 e) d) (.int .i64 x) = true ↔ x ∈ Dv.addT l e := by
  rw [Dv.mem_addT]
  by_cases h : x = e
  · subst h
    rw [has_put_same hD (show WideAt.IsKeyLit (Lit.int .i64 x) from trivial)]
    simp
  · rw [has_put_other (fun h' => h (by cases h'; rfl)), hm]
    simp [h]
set_option maxRecDepth 100000 in
set_option maxHeartbeats 2000000 in
theorem times_tri {G : Nat → Option (List Dv.DV)} (s : Dv.StateD) (h : Dv.FitS s) (now : Int) (h0 : Dv.TimeR now) : Dv.Tri Tryz.prog G 120 [Dv.stateV s, .int now] [] (.d (.lst 1 (Dv.intR (Dv.timesL s now)))) [] := by
  refine ⟨by decide, fun J ι w vs S hR => ?_⟩
  obtain ⟨vl⟩ := vs
  match vl, hR with
  | [va, vk], ⟨ha, hk, _⟩ =>
  have hk : vk = .int .i64 now := hk
  subst hk
  obtain ⟨cs, rfl, hcs⟩ := ha
  obtain ⟨cl⟩ := cs
  match cl, hcs with
  | [x0, x1, x2, x3, x4, x5], hcs =>
  have hds := Dv.toDs_rep (ds := [.lst 5 (s.nodes.map Dv.nodeR), .lst 12 (s.jobs.map Dv.jobR), Dv.i64 s.goal, Dv.i64 s.prior, Dv.i64 s.mode, Dv.i64 s.term]) rfl hcs.toL
  have hone := hcs.one
  obtain ⟨ja, jn, jc, rfl, hjn, hjc, hjr⟩ := hds.2.1
  rw [List.length_map] at hjn
  subst hjn
  have hj1000 := h.jobs
  have hmm := @run_makeMap Tryz.prog
  refine (callsIn_wide (n := 6)).1 ?_
  refine callsIn_of_wp Tryz.func120 rfl trivial ?_ rfl
  simp only [Tryz.ntmps120,List.size_toArray,List.length_cons,List.length_nil,Nat.reduceAdd,Nat.reduceSub,Array.replicate_succ,Array.replicate_zero,List.push_toArray,List.append_toArray,List.nil_append,List.cons_append]
  have wfI : ∀ x : Int, -9223372036854775808 ≤ x → x ≤ 9223372036854775807 → (Lit.int .i64 x).wf = true := fun x h1 h2 => by
    have e1 : IntKind.i64.min = -9223372036854775808 := by decide
    have e2 : IntKind.i64.max = 9223372036854775807 := by decide
    simp only [Lit.wf,e1,e2,h1,h2,decide_true,Bool.and_self]
  have h0' := h0
  obtain ⟨n1, n2⟩ := h0'
  have hwf := wfI now (by omega) (by omega)
  have hm0 := World.ownsMap_made (w.alloc (.cells #[x0, .slice ja s.jobs.length jc, x2, x3, x4, x5] 27)) Tryz.prog 3 (plainElem (H := Unit) Tryz.prog 4)
  have hBA : Below w.heap.size w ((w.alloc (.cells #[x0, .slice ja s.jobs.length jc, x2, x3, x4, x5] 27)).alloc (.map #[] 0)) := ((Below.refl _ w).alloc (Nat.le_refl _) _).alloc (by simp) _
  have hst : ∀ A, Below w.heap.size w A → Dv.Store G J A ι (Dv.objL []) := fun A hb => S.still (fun b h => hb.block b (S.jlt b h)) (fun b h => hb.block b (S.own_lt h)) (fun b h => Dv.shape_of_heap (hb.block b (Dv.shape_lt h)))
  have hbox : ∀ A, Below w.heap.size w A → A.heap[w.heap.size]? = some (.cells #[x0, .slice ja s.jobs.length jc, x2, x3, x4, x5] 27 (0, 0)) → Dv.BoxedS J s A w.heap.size x0 (.slice ja s.jobs.length jc) x2 x3 x4 x5 := fun A hb hh =>
    ⟨hh, Dv.RepDL.mono (fun _ h => h) (fun b h => hb.block b (S.jlt b h)) _ _ hds, hone⟩
  have hh0 : ((w.alloc (.cells #[x0, .slice ja s.jobs.length jc, x2, x3, x4, x5] 27)).alloc (.map #[] 0)).heap[w.heap.size]? = some (.cells #[x0, .slice ja s.jobs.length jc, x2, x3, x4, x5] 27 (0, 0)) :=
    (Below.block (Below.alloc (Below.refl _ _) (Nat.le_refl _) _) _ (by simp)).trans (World.alloc_heap_new _ _)
  have hsA : (w.alloc (.cells #[x0, .slice ja s.jobs.length jc, x2, x3, x4, x5] 27)).heap.size = w.heap.size + 1 := by simp
  rw [hsA] at hm0
  gi_wp2_with (refine wpListIn_insert_own _ rfl _ _ _ 137 rfl 3 4 (Maps.int_keyed Tryz.underlying3) Tryz.underlying137 _ _ 0 _ rfl hm0 (by decide) _ _ _ rfl rfl (Maps.keyOf_int_mk Tryz.underlying3 hwf) _ [] (plainElem_bool Tryz.underlying4 true) ?_; intro w1 hown1 hgrow1; have hb1 : Below w.heap.size w w1 := hBA.grown hgrow1 hBA.size (fun r e => by cases e; simp); have hbx1 := hbox w1 hb1 ((hgrow1.block _ (by simp; omega) (by simp)).trans hh0); obtain ⟨a0, a1, a2, a3, a4, a5⟩ := hbx1.cells)
  gi_loopw [14] (fun q wr => ∃ (k nn : Nat) (D : DataW Unit), q = .int .i64 k ∧ k ≤ s.jobs.length ∧ nn ≤ k + 1 ∧ wr.ownsMap Tryz.prog 3 (plainElem Tryz.prog 4) (w.heap.size + 1) nn D ∧ (∀ x, Maps.has D (.int .i64 x) = true ↔ x ∈ Dv.tsTo s now k) ∧ Below w.heap.size w wr ∧ Dv.BoxedS J s wr w.heap.size x0 (.slice ja s.jobs.length jc) x2 x3 x4 x5)
    (fun q _ => s.jobs.length - (intOf q).toNat)
  case atStart =>
    refine ⟨0, 1, _, rfl, Nat.zero_le _, Nat.le_refl _, hown1, fun x => ?_, hb1, hbx1⟩
    rw [has_put_int ⟨_, rfl⟩ now x _ [] (fun x => by simp [Maps.has])]
    simp [Dv.addT,Dv.tsTo]
  case round =>
    obtain ⟨k, nn, D, rfl, hk, hnn, hown, hD, hbr, hbx⟩ := hrel
    obtain ⟨b0, b1, b2, b3, b4, b5⟩ := hbx.cells
    rcases Nat.lt_or_ge k s.jobs.length with hlt | hge
    · have hE := (Dv.end_tri (G := G) s h ((k + 1 : Nat) : Int) now h0).num (hst wr hbr) (vs := #[.agg #[x0, .slice ja s.jobs.length jc, x2, x3, x4, x5], .int .i64 ((k + 1 : Nat) : Int), .int .i64 now]) ⟨hbx.arg, rfl, rfl, trivial⟩
      have hts : Dv.tsTo s now (k + 1) = if 0 ≤ Dv.endJ (Dv.joA s k) now then Dv.addT (Dv.tsTo s now k) (Dv.endJ (Dv.joA s k) now) else Dv.tsTo s now k := rfl
      have her := Dv.endJ_rng (h.ends k hlt) ⟨n1, n2⟩
      rw [Dv.endS_at hlt, show ((k + 1 : Nat) : Int) = (k : Int) + 1 by omega] at hE
      generalize Dv.endJ (Dv.joA s k) now = e at hE hts her
      have hwe := wfI e (by omega) (by omega)
      gi_wp2_with (first
        | (refine ⟨trivial, ?_⟩; gi_at_call 137; refine (callsIn_wide.2 hE).mono ?_; rintro e3 w3 ⟨rfl, hb3⟩
           have hown3 := hown.kept (w' := w3) (row := none) ⟨hb3.os, hb3.tape, hb3.output, hb3.size, fun k hk _ => hb3.block k hk⟩ (by simp))
        | (gi_at_mapUpdate; refine wpListIn_mapUpdate_own _ rfl _ _ _ 137 rfl 3 4 (Maps.int_keyed Tryz.underlying3) Tryz.underlying137 _ _ nn _ rfl hown3 (by simp only [Go.maxLen]; omega) _ _ _ rfl rfl (Maps.keyOf_int_mk Tryz.underlying3 hwe) _ [] (plainElem_bool Tryz.underlying4 true) ?_; intro w4 hown4 hgrow4))
      · have hge : 0 ≤ e := ‹0 ≤ e›
        rw [if_pos hge] at hts
        have hsz3 := hbr.size
        have hsz4 := hb3.size
        have hml := hown.lt
        have hb4 : Below w.heap.size w w4 := (hbr.trans (hb3.mono hbr.size)).grown hgrow4 (Nat.le_trans hbr.size hb3.size) (fun r e => by cases e; omega)
        have hbk := hbx.heap
        have hlt0 := (Array.getElem?_eq_some_iff.1 hbk).1
        refine ⟨⟨k + 1, nn + 1, _, rfl, by omega, by omega, hown4, fun x => ?_, hb4, hbox w4 hb4 ?_⟩, by simp [intOf]; omega⟩
        · rw [hts]
          exact has_put_int hown3.isMap e x _ _ hD
        · exact ((hgrow4.block _ (by omega) (by simp)).trans (hb3.block _ hlt0)).trans hbk
      · have hge : e < 0 := ‹e < 0›
        rw [if_neg (by omega)] at hts
        have hb4 : Below w.heap.size w w3 := hbr.trans (hb3.mono hbr.size)
        have hbk := hbx.heap
        have hlt0 := (Array.getElem?_eq_some_iff.1 hbk).1
        exact ⟨⟨k + 1, nn, D, rfl, by omega, by omega, hown3, fun x => by rw [hts]; exact hD x, hb4, hbox w3 hb4 ((hb3.block _ hlt0).trans hbk)⟩, by simp [intOf]; omega⟩
    · obtain rfl : k = s.jobs.length := by omega
      have hsz := hown.size_le
      have hml := hown.lt
      have hseq : SeqGives Fence.wide 2 Tryz.prog 148 #[.pointer (some ⟨wr.heap.size, 0, none⟩)] encZ (fun ss => ss.Perm (intKeys D)) (Maps.size D) (wr.alloc (.cells #[.map (some (w.heap.size + 1))] 137)) :=
        AnyZI.keys_gives (ρ := Tryz.keysA_ren) { Tryz.keysA with } Fence.wide _ trivial rfl (by omega) wr.heap.size (w.heap.size + 1) nn D _ (by simp) (by simp) (hown.alloc _)
      have cK : ∀ mb W, CallsIn Fence.wide 5 Tryz.prog 139 #[.map mb] W fun e w' => e = .returned (.func (.func 148) #[] #[.pointer (some ⟨W.heap.size, 0, none⟩)]) ∧ w' = W.alloc (.cells #[.map mb] 137) := fun mb W => AnyZI.keys_in Tryz.keysA Fence.wide 5 trivial rfl mb W
      have cS := AnyZI.sorted_in Tryz.sortedA Fence.wide 5 trivial trivial trivial trivial rfl (by omega) (Tryz.sortsA _) (enters_of Tryz.func147 (by kernel_rfl) rfl) 148 #[.pointer (some ⟨wr.heap.size, 0, none⟩)] trivial (enters_of Tryz.func148 (by kernel_rfl) rfl) _ _ (by simp only [Go.maxLen]; omega) (by omega) _ hseq
      change CallsIn _ _ Tryz.prog 138 _ _ _ at cS
      have hpm : (Dv.tsTo s now s.jobs.length).Perm (intKeys D) := keys_perm hown (Maps.int_keyed Tryz.underlying3) Tryz.underlying3 (Dv.tsTo_nodup s now _) hD
      have hsb := hbr.size
      gi_wp2_with (first
        | (refine ⟨trivial, ?_⟩; gi_at_call 139; refine (cK _ _).mono ?_; rintro e w' ⟨rfl, rfl⟩)
        | (refine ⟨trivial, ?_⟩; gi_at_call 138; refine cS.mono ?_; rintro e w5 ⟨v, ss, rfl, hS, hrow, hnil, hb5⟩))
      have hee : ss.mergeSort (fun x y => decide (x ≤ y)) = Dv.timesL s now := mergeSort_of_perm_i (hS.trans hpm.symm)
      have hll : ss.length = (Dv.timesL s now).length := by rw [← hee, List.length_mergeSort]
      rw [hee, hll] at hrow
      go_ret
      have hbw : Below w.heap.size w w5 := (hbr.alloc hsb _).trans (hb5.mono (by simp; omega))
      exact ⟨v, rfl, Dv.after_row S hbw (by simp; omega) hrow⟩
end Go.Proofs

namespace Dv
open Go Go.Proofs
open Nat renaming reduceEqDiff → zA, reduceAdd → zB, reduceSub → zC, reduceMul → zD, reduceLT → zE, reduceLeDiff → zF
open Int renaming reduceLE → zG, reduceLT → zH, reduceToNat → zI, reduceBEq → zJ, reduceBNe → zK, reduceEq → zL, reduceAdd → zM, reduceSub → zN, reduceMul → zO, reduceNeg → zP
attribute [local go_sem] argEnv W_nil W_seq W_skip W_ret W_exit W_scope W_block W_blk W_reg W_regD W_cond WC_t WC_f WC_any Wx_c Wx_ops Wx_lp Wx_blk W_ops_nil W_opsD_q W_guard W_guardD WG_tt WG_ff WG_tf WG_ft WG_u WGD_tt WGD_ff WGD_tf WGD_ft WGD_u WE_some WED_some W_more W_mv W_pick W_new W_box W_build W_bsl W_ld1 W_ldn W_st W_nck W_bin W_eqb W_not W_cvt W_fad W_fld1 W_fldn W_ixa W_ixr W_ix1 W_ixs W_len W_lens W_mkf W_ext W_app W_min W_max W_isnp W_isns W_eqs W_neg W_ixn W_sli W_sls WD_more WD_mv WD_pick WD_new WD_box WD_build WD_bsl WD_ld1 WD_ldn WD_st WD_nck WD_bin WD_eqb WD_not WD_cvt WD_fad WD_fld1 WD_fldn WD_ixa WD_ixr WD_ix1 WD_ixs WD_len WD_lens WD_mkf WD_ext WD_app WD_min WD_max WD_isnp WD_isns WD_eqs WD_neg WD_ixn WD_sli WD_sls effF effM bytesOf Opd.ev getE putE binV LV.int LV.bool LV.undef Go.undef LV.cells LV.toD LV.toDs splice fillL rowsOf boxOf srcRows updL objL Eff.owned nwp St.get St.obj St.put Value.oneCell' Ends adopt Ad.ap isNil St.keep St.okKeep okObj idl idlL idlO RVs.of RV.of oneOr Ends0 EndsO_iff frzs rn rnL rnO piOf eqCells eqV boundV Option.map_some Option.map_none List.append_nil List.nil_append List.cons_append List.map_nil List.map_cons List.length_nil List.length_cons List.set_cons_zero List.set_cons_succ List.take_succ_cons List.take_zero List.take_nil List.drop_succ_cons List.drop_zero List.drop_nil List.getElem?_cons_zero List.getElem?_cons_succ List.getElem?_nil List.isEmpty_nil List.isEmpty_cons List.all_cons List.all_nil List.isEmpty_nil cond_true cond_false Bool.true_and Bool.false_and Bool.and_true Bool.and_false Bool.not_true Bool.not_false Bool.or_true Bool.true_or Bool.or_false Bool.false_or true_and and_true true_or or_true Option.some.injEq LV.d.injEq DV.val.injEq Value.bool.injEq Value.int.injEq decide_true decide_false and_self Nat.zero_add Nat.add_zero if_true if_false Int.toNat_zero beq_self_eq_true Nat.zero_lt_succ Int.toNat_natCast Int.natCast_nonneg List.length_map i64 bl List.zip_cons_cons List.zip_nil_left List.zip_nil_right nwp confV stateV nodeV jobV nodesV jobsV opV msgV nodeR jobR opR msgR zeroOp zeroMsg msgsV
variable {G : Nat → Option (List DV)}

/-- ahead.Reserve -/
def ir85 : Nat × C × List RV := (44,
(.seq (.reg [⟨some 3,.box 27 (.t 0),none,[]⟩,
 ⟨some 6,.mv (.c (.val (.int .i64 0))),none,[]⟩,
 ⟨some 7,.mv (.c (.val (.int .i64 0))),none,[]⟩,
 ⟨some 8,.mv (.c (.val (.bool false))),none,[]⟩])
 (.seq (.seq (.reg [⟨some 13,.ldn 6 (.t 3),none,[]⟩,
 ⟨some 14,.mv (.t 1),none,[]⟩,
 ⟨some 15,.call (.f 84) [(.t 13),(.t 14)],none,[]⟩,
 ⟨some 16,.not (.t 15),none,[]⟩])
 (.cond (.t 16) (.seq (.reg [⟨some 6,.mv (.c (.val (.int .i64 0))),none,[]⟩,
 ⟨some 7,.mv (.c (.val (.int .i64 0))),none,[]⟩,
 ⟨some 8,.mv (.c (.val (.bool false))),none,[]⟩])
 .ret)
 .skip))
 (.seq (.seq (.reg [⟨some 17,.ldn 6 (.t 3),none,[]⟩,
 ⟨some 18,.mv (.t 2),none,[]⟩,
 ⟨some 19,.call (.f 120) [(.t 17),(.t 18)],none,[]⟩,
 ⟨some 20,.len (.t 19),none,[]⟩,
 ⟨some 21,.mv (.c (.val (.int .i64 0))),none,[]⟩])
 (.block 0 (.loop (.seq (.reg [⟨some 22,.bin .lss (.t 21) (.t 20),none,[]⟩])
 (.seq (.cond (.t 22) .skip
 (.exit 0))
 (.seq (.block 1 (.seq (.reg [⟨some 23,.ixa 1 (.t 19) (.t 21),none,[]⟩,
 ⟨some 24,.ld1 (.t 23),none,[]⟩,
 ⟨some 10,.mv (.t 24),none,[]⟩])
 (.seq (.regD [⟨some 26,.ldn 6 (.t 3),none,[]⟩,
 ⟨some 27,.fad 1 (.t 3),none,[]⟩,
 ⟨some 28,.ld1 (.t 27),none,[1]⟩,
 ⟨some 29,.mv (.t 1),none,[]⟩,
 ⟨some 30,.bin .sub (.t 29) (.c (.val (.int .i64 1))),none,[3]⟩,
 ⟨some 31,.ixa 12 (.t 28) (.t 30),none,[2,1,4,3]⟩,
 ⟨some 32,.ldn 12 (.t 31),none,[5,2,1,4,3]⟩,
 ⟨some 33,.ldn 6 (.t 3),none,[]⟩,
 ⟨some 34,.mv (.t 2),none,[]⟩,
 ⟨some 35,.mv (.t 10),none,[]⟩,
 ⟨some 36,.call (.f 121) [(.t 33),(.t 34),(.t 35)],none,[7,8,9]⟩,
 ⟨some 37,.call (.f 82) [(.t 26),(.t 32),(.t 36)],none,[0,6,5,2,1,4,3,10,7,8,9]⟩,
 ⟨some 25,.mv (.t 37),none,[11,0,6,5,2,1,4,3,10,7,8,9]⟩,
 ⟨some 38,.ext (.t 25) 0,none,[12,11,0,6,5,2,1,4,3,10,7,8,9]⟩,
 ⟨some 39,.ext (.t 25) 1,none,[12,11,0,6,5,2,1,4,3,10,7,8,9]⟩,
 ⟨some 11,.mv (.t 38),none,[13,12,11,0,6,5,2,1,4,3,10,7,8,9]⟩,
 ⟨some 12,.mv (.t 39),none,[14,12,11,0,6,5,2,1,4,3,10,7,8,9,15,13]⟩])
 (.seq (.reg [⟨some 40,.mv (.t 12),none,[]⟩])
 (.cond (.t 40) (.seq (.reg [⟨some 41,.mv (.t 10),none,[]⟩,
 ⟨some 42,.mv (.t 11),none,[]⟩,
 ⟨some 6,.mv (.t 41),none,[]⟩,
 ⟨some 7,.mv (.t 42),none,[]⟩,
 ⟨some 8,.mv (.c (.val (.bool true))),none,[]⟩])
 .ret)
 .skip)))))
 (.reg [⟨some 43,.bin .add (.t 21) (.c (.val (.int .i64 1))),none,[]⟩,
 ⟨some 21,.mv (.t 43),none,[]⟩])))))))
 (.seq (.reg [⟨some 6,.mv (.c (.val (.int .i64 0))),none,[]⟩,
 ⟨some 7,.mv (.c (.val (.int .i64 0))),none,[]⟩,
 ⟨some 8,.mv (.c (.val (.bool false))),none,[]⟩])
 .ret)))),
[(.t 6),(.t 7),(.t 8)])
theorem irOk85 : convFn Tryz.prog Tryz.f85 = some ir85 := by kernel_rfl
/-- ahead.Fill -/
def ir63 : Nat × C × List RV := (79,
(.seq (.reg [⟨some 3,.box 27 (.t 0),none,[]⟩,
 ⟨some 6,.mv (.c (.val (.int .i64 0))),none,[]⟩,
 ⟨some 7,.mv (.c (.val (.bool false))),none,[]⟩])
 (.seq (.reg [⟨some 17,.ldn 6 (.t 3),none,[]⟩,
 ⟨some 18,.call (.f 61) [(.t 17)],none,[]⟩,
 ⟨some 8,.mv (.t 18),none,[]⟩])
 (.seq (.seq (.reg [⟨some 19,.ldn 6 (.t 3),none,[]⟩,
 ⟨some 20,.mv (.t 1),none,[]⟩,
 ⟨some 21,.call (.f 84) [(.t 19),(.t 20)],none,[]⟩,
 ⟨some 22,.not (.t 21),none,[]⟩,
 ⟨some 23,.mv (.t 22),none,[]⟩,
 ⟨some 24,.mv (.t 8),(some (23,false)),[]⟩,
 ⟨some 25,.ixa 1 (.t 24) (.c (.val (.int .i64 0))),(some (23,false)),[]⟩,
 ⟨some 26,.ld1 (.t 25),(some (23,false)),[]⟩,
 ⟨some 27,.mv (.t 1),(some (23,false)),[]⟩,
 ⟨some 28,.bin .eql (.t 26) (.t 27),(some (23,false)),[]⟩,
 ⟨some 29,.pick (.t 23) (.c (.val (.bool true))) (.t 28),none,[]⟩])
 (.cond (.t 29) (.seq (.reg [⟨some 6,.mv (.c (.val (.int .i64 0))),none,[]⟩,
 ⟨some 7,.mv (.c (.val (.bool false))),none,[]⟩])
 .ret)
 .skip))
 (.seq (.reg [⟨some 30,.fad 1 (.t 3),none,[]⟩,
 ⟨some 31,.ld1 (.t 30),none,[]⟩,
 ⟨some 32,.mv (.t 1),none,[]⟩,
 ⟨some 33,.bin .sub (.t 32) (.c (.val (.int .i64 1))),none,[]⟩,
 ⟨some 34,.ixa 12 (.t 31) (.t 33),none,[]⟩,
 ⟨some 35,.ldn 12 (.t 34),none,[]⟩,
 ⟨some 9,.new 47 [(.val (.int .i64 0)),(.val (.int .i64 0)),(.val (.int .i64 0)),(.val (.int .i64 0)),(.val (.int .i64 0)),(.val (.int .i64 0)),(.val (.int .i64 0)),(.val (.int .i64 0)),(.val (.int .i64 0)),(.val (.int .i64 0)),(.val (.int .i64 0)),(.val (.int .i64 0))],none,[]⟩,
 ⟨none,.st 12 (.t 9) (.t 35),none,[]⟩])
 (.seq (.regD [⟨some 37,.ldn 6 (.t 3),none,[]⟩,
 ⟨some 38,.mv (.t 8),none,[]⟩,
 ⟨some 39,.ixa 1 (.t 38) (.c (.val (.int .i64 0))),none,[1]⟩,
 ⟨some 40,.ld1 (.t 39),none,[2,1]⟩,
 ⟨some 41,.mv (.t 2),none,[]⟩,
 ⟨some 42,.call (.f 85) [(.t 37),(.t 40),(.t 41)],none,[0,3,2,1,4]⟩,
 ⟨some 36,.mv (.t 42),none,[5,0,3,2,1,4]⟩,
 ⟨some 43,.ext (.t 36) 0,none,[6,5,0,3,2,1,4]⟩,
 ⟨some 44,.ext (.t 36) 1,none,[6,5,0,3,2,1,4]⟩,
 ⟨some 45,.ext (.t 36) 2,none,[6,5,0,3,2,1,4]⟩,
 ⟨some 10,.mv (.t 43),none,[7,6,5,0,3,2,1,4]⟩,
 ⟨some 11,.mv (.t 44),none,[8,6,5,0,3,2,1,4,10,7]⟩,
 ⟨some 12,.mv (.t 45),none,[9,6,5,0,3,2,1,4,11,8,10,7]⟩])
 (.seq (.seq (.regD [⟨some 47,.ldn 6 (.t 3),none,[]⟩,
 ⟨some 48,.ldn 12 (.t 9),none,[]⟩,
 ⟨some 49,.ldn 6 (.t 3),none,[]⟩,
 ⟨some 50,.call (.f 83) [(.t 49)],none,[2]⟩,
 ⟨some 51,.mv (.t 11),none,[]⟩,
 ⟨some 52,.bin .andNot (.t 50) (.t 51),none,[3,2,4]⟩,
 ⟨some 53,.call (.f 82) [(.t 47),(.t 48),(.t 52)],none,[0,1,5,3,2,4]⟩,
 ⟨some 46,.mv (.t 53),none,[6,0,1,5,3,2,4]⟩,
 ⟨some 54,.ext (.t 46) 0,none,[7,6,0,1,5,3,2,4]⟩,
 ⟨some 55,.ext (.t 46) 1,none,[7,6,0,1,5,3,2,4]⟩,
 ⟨some 13,.mv (.t 54),none,[8,7,6,0,1,5,3,2,4]⟩,
 ⟨some 14,.mv (.t 55),none,[9,7,6,0,1,5,3,2,4,10,8]⟩])
 (.seq (.reg [⟨some 56,.mv (.t 14),none,[]⟩])
 (.cond (.t 56) (.seq (.reg [⟨some 57,.mv (.t 13),none,[]⟩,
 ⟨some 6,.mv (.t 57),none,[]⟩,
 ⟨some 7,.mv (.c (.val (.bool true))),none,[]⟩])
 .ret)
 .skip)))
 (.seq (.reg [⟨some 59,.ldn 6 (.t 3),none,[]⟩,
 ⟨some 60,.mv (.t 1),none,[]⟩,
 ⟨some 61,.call (.f 62) [(.t 59),(.t 60)],none,[]⟩,
 ⟨some 58,.mv (.t 61),none,[]⟩,
 ⟨some 62,.ext (.t 58) 0,none,[]⟩,
 ⟨some 63,.ext (.t 58) 1,none,[]⟩,
 ⟨some 15,.mv (.t 62),none,[]⟩,
 ⟨some 16,.mv (.t 63),none,[]⟩])
 (.seq (.seq (.reg [⟨some 64,.mv (.t 12),none,[]⟩,
 ⟨some 65,.not (.t 64),none,[]⟩,
 ⟨some 66,.mv (.t 65),none,[]⟩,
 ⟨some 67,.mv (.t 16),(some (66,false)),[]⟩,
 ⟨some 68,.not (.t 67),(some (66,false)),[]⟩,
 ⟨some 69,.pick (.t 66) (.c (.val (.bool true))) (.t 68),none,[]⟩,
 ⟨some 70,.mv (.t 69),none,[]⟩,
 ⟨some 71,.mv (.t 2),(some (70,false)),[]⟩,
 ⟨some 72,.fad 4 (.t 9),(some (70,false)),[]⟩,
 ⟨some 73,.ld1 (.t 72),(some (70,false)),[]⟩,
 ⟨some 74,.bin .add (.t 71) (.t 73),(some (70,false)),[]⟩,
 ⟨some 75,.mv (.t 10),(some (70,false)),[]⟩,
 ⟨some 76,.bin .gtr (.t 74) (.t 75),(some (70,false)),[]⟩,
 ⟨some 77,.pick (.t 70) (.c (.val (.bool true))) (.t 76),none,[]⟩])
 (.cond (.t 77) (.seq (.reg [⟨some 6,.mv (.c (.val (.int .i64 0))),none,[]⟩,
 ⟨some 7,.mv (.c (.val (.bool false))),none,[]⟩])
 .ret)
 .skip))
 (.seq (.reg [⟨some 78,.mv (.t 15),none,[]⟩,
 ⟨some 6,.mv (.t 78),none,[]⟩,
 ⟨some 7,.mv (.c (.val (.bool true))),none,[]⟩])
 .ret))))))))),
[(.t 6),(.t 7)])
theorem irOk63 : convFn Tryz.prog Tryz.f63 = some ir63 := by kernel_rfl
/-- ahead.Next -/
def ir40 : Nat × C × List RV := (44,
(.seq (.reg [⟨some 2,.box 27 (.t 0),none,[]⟩,
 ⟨some 4,.mv (.c (.val (.int .i64 0))),none,[]⟩,
 ⟨some 5,.mv (.c (.val (.int .i64 0))),none,[]⟩,
 ⟨some 6,.mv (.c (.val (.bool false))),none,[]⟩])
 (.scope (.seq (.reg [⟨some 7,.mv (.c (.val (.int .i64 0))),none,[]⟩,
 ⟨some 8,.mv (.c (.val (.int .i64 0))),none,[]⟩])
 (.seq .skip
 (.seq (.seq (.reg [⟨some 13,.ldn 6 (.t 2),none,[]⟩,
 ⟨some 14,.call (.f 61) [(.t 13)],none,[]⟩,
 ⟨some 15,.len (.t 14),none,[]⟩,
 ⟨some 16,.mv (.c (.val (.int .i64 0))),none,[]⟩])
 (.block 0 (.loop (.seq (.reg [⟨some 17,.bin .lss (.t 16) (.t 15),none,[]⟩])
 (.seq (.cond (.t 17) .skip
 (.exit 0))
 (.seq (.block 1 (.seq (.reg [⟨some 18,.mv (.t 16),none,[]⟩,
 ⟨some 19,.ixa 1 (.t 14) (.t 16),none,[]⟩,
 ⟨some 20,.ld1 (.t 19),none,[]⟩,
 ⟨some 9,.mv (.t 18),none,[]⟩,
 ⟨some 10,.mv (.t 20),none,[]⟩])
 (.seq (.reg [⟨some 11,.mv (.c (.val (.int .i64 0))),none,[]⟩,
 ⟨some 12,.mv (.c (.val (.bool false))),none,[]⟩])
 (.seq (.seq (.reg [⟨some 21,.mv (.t 9),none,[]⟩,
 ⟨some 22,.bin .eql (.t 21) (.c (.val (.int .i64 0))),none,[]⟩])
 (.cond (.t 22) (.reg [⟨some 24,.ldn 6 (.t 2),none,[]⟩,
 ⟨some 25,.mv (.t 10),none,[]⟩,
 ⟨some 26,.call (.f 62) [(.t 24),(.t 25)],none,[]⟩,
 ⟨some 23,.mv (.t 26),none,[]⟩,
 ⟨some 27,.ext (.t 23) 0,none,[]⟩,
 ⟨some 28,.ext (.t 23) 1,none,[]⟩,
 ⟨some 11,.mv (.t 27),none,[]⟩,
 ⟨some 12,.mv (.t 28),none,[]⟩])
 (.reg [⟨some 30,.ldn 6 (.t 2),none,[]⟩,
 ⟨some 31,.mv (.t 10),none,[]⟩,
 ⟨some 32,.mv (.t 1),none,[]⟩,
 ⟨some 33,.call (.f 63) [(.t 30),(.t 31),(.t 32)],none,[]⟩,
 ⟨some 29,.mv (.t 33),none,[]⟩,
 ⟨some 34,.ext (.t 29) 0,none,[]⟩,
 ⟨some 35,.ext (.t 29) 1,none,[]⟩,
 ⟨some 11,.mv (.t 34),none,[]⟩,
 ⟨some 12,.mv (.t 35),none,[]⟩])))
 (.seq (.reg [⟨some 36,.mv (.t 12),none,[]⟩])
 (.cond (.t 36) (.seq (.reg [⟨some 37,.mv (.t 10),none,[]⟩,
 ⟨some 38,.mv (.t 11),none,[]⟩,
 ⟨some 7,.mv (.t 37),none,[]⟩,
 ⟨some 8,.mv (.t 38),none,[]⟩])
 (.exit 0))
 .skip))))))
 (.reg [⟨some 39,.bin .add (.t 16) (.c (.val (.int .i64 1))),none,[]⟩,
 ⟨some 16,.mv (.t 39),none,[]⟩])))))))
 (.seq (.reg [⟨some 40,.mv (.t 7),none,[]⟩,
 ⟨some 41,.mv (.t 8),none,[]⟩,
 ⟨some 42,.mv (.t 7),none,[]⟩,
 ⟨some 43,.bin .gtr (.t 42) (.c (.val (.int .i64 0))),none,[]⟩,
 ⟨some 4,.mv (.t 40),none,[]⟩,
 ⟨some 5,.mv (.t 41),none,[]⟩,
 ⟨some 6,.mv (.t 43),none,[]⟩])
 .ret)))))),
[(.t 4),(.t 5),(.t 6)])
theorem irOk40 : convFn Tryz.prog Tryz.f40 = some ir40 := by kernel_rfl


theorem intR_get (l : List Int) (i : Nat) (h : i < l.length) : (intR l)[i]? = some [i64 (l.getD i 0)] := by
  unfold intR
  rw [List.getElem?_map, List.getElem?_eq_getElem h]
  simp [List.getD,h]
theorem intR_len (l : List Int) : (intR l).length = l.length := by unfold intR; rw [List.length_map]
theorem firstS_step (s : StateD) (j : JobD) (now : Int) (L : List Int) (i : Nat) (hi : i < L.length) : firstS s j now (L.drop i) =
    if (pickS s j (atN s now (L.getD i 0) s.jobs.length)).2 = true then (L.getD i 0, (pickS s j (atN s now (L.getD i 0) s.jobs.length)).1, true) else firstS s j now (L.drop (i + 1)) := by
  rw [List.drop_eq_getElem_cons hi, show L.getD i 0 = L[i] by simp [List.getD,hi]]
  rfl
def rsS (s : StateD) (job now : Int) (L : List Int) (k : Nat) : St := ⟨[(1, .int job), (2, .int now), (3, .ptr 0 0), (19, .d (.lst 1 (intR L))), (20, .int L.length), (21, .int k)], [some (boxS s)]⟩
set_option maxHeartbeats 8000000 in
theorem res_tri (s : StateD) (h : FitS s) (job now : Int) (h0 : TimeR now) : Tri Tryz.prog G 85 [stateV s, .int job, .int now] [] (.tup [.int (resS s job now).1, .int (resS s job now).2.1, .bool (resS s job now).2.2]) [] := by
  refine tri_W0 Tryz.func85 (by decide) irOk85 (Nat.le_of_ble_eq_true rfl) rfl ?_
  simp only [ir85,go_sem,↓reduceIte,zA,zB,zC,zD,zE,zF,reduceCtorEq,zG,zH,zI,zJ,zK,zL,zM,zN,zO,zP]
  have hj := h.jobs
  unfold resS
  refine W_calld (queued_tri s hj job) rfl rfl rfl rfl ?_; simp only [go_sem,↓reduceIte,zA,zB,zC,zD,zE,zF,reduceCtorEq,zG,zH,zI,zJ,zK,zL,zM,zN,zO,zP]
  rcases queued_cases s job with ⟨h1, hq⟩ | ⟨h1, h2, hq⟩ | ⟨i, rfl, hi, h1, h2, hq⟩
  · simp only [hq,if_neg (show ¬ false = true by decide),go_sem,↓reduceIte,zA,zB,zC,zD,zE,zF,reduceCtorEq,zG,zH,zI,zJ,zK,zL,zM,zN,zO,zP]
  · simp only [hq,if_neg (show ¬ false = true by decide),go_sem,↓reduceIte,zA,zB,zC,zD,zE,zF,reduceCtorEq,zG,zH,zI,zJ,zK,zL,zM,zN,zO,zP]
  have e1 := succ_pred i (by omega)
  have e2 := jobQ_at s i
  have hgi := get_mapD (f := jobR) zeroJob hi
  have hm := h.most i hi
  have hjo : joA s i = s.jobs.getD i zeroJob := rfl
  generalize s.jobs.getD i zeroJob = x at hgi hjo hq
  rw [hjo] at e2 hm
  simp only [jobR] at hgi
  by_cases h3 : x.phase = 0
  case neg => simp only [hq,decide_eq_false h3,if_neg (show ¬ false = true by decide),go_sem,↓reduceIte,zA,zB,zC,zD,zE,zF,reduceCtorEq,zG,zH,zI,zJ,zK,zL,zM,zN,zO,zP]
  simp only [hq,decide_eq_true h3,if_true,go_sem,↓reduceIte,zA,zB,zC,zD,zE,zF,reduceCtorEq,zG,zH,zI,zJ,zK,zL,zM,zN,zO,zP]
  refine W_calld (times_tri s h now h0) rfl rfl rfl rfl ?_; simp only [go_sem,↓reduceIte,zA,zB,zC,zD,zE,zF,reduceCtorEq,zG,zH,zI,zJ,zK,zL,zM,zN,zO,zP]
  have hL := timesL_len s now
  simp only [e2,intR_len,go_sem,↓reduceIte,zA,zB,zC,zD,zE,zF,reduceCtorEq,zG,zH,zI,zJ,zK,zL,zM,zN,zO,zP]
  generalize timesL s now = L at hL ⊢
  refine W_loopI [1, 2, 3, 19, 20, 21] [] (fun k : Nat => k ≤ L.length ∧ firstS s x now L = firstS s x now (L.drop k)) (fun k => L.length - k) (rsS s ((i + 1 : Nat) : Int) now L) 0 ?_ ⟨Nat.zero_le _, rfl⟩ (fun k hk => ?_)
  · simp only [rsS,boxS,Int.natCast_zero,go_sem,↓reduceIte,zA,zB,zC,zD,zE,zF,reduceCtorEq,zG,zH,zI,zJ,zK,zL,zM,zN,zO,zP]
  obtain ⟨hk, hN⟩ := hk
  simp only [rsS,boxS,intR_len,List.length_map,go_sem,↓reduceIte,zA,zB,zC,zD,zE,zF,reduceCtorEq,zG,zH,zI,zJ,zK,zL,zM,zN,zO,zP]
  by_cases hlt : k < L.length
  case neg =>
    obtain rfl : k = L.length := by omega
    rw [List.drop_length] at hN
    simp only [decide_eq_false (show ¬ ((L.length : Nat) : Int) < ((L.length : Nat) : Int) by omega),hN,firstS,go_sem,↓reduceIte,zA,zB,zC,zD,zE,zF,reduceCtorEq,zG,zH,zI,zJ,zK,zL,zM,zN,zO,zP]
  have hgk := intR_get L k hlt
  have hs := firstS_step s x now L k hlt
  generalize L.getD k 0 = t at hgk hs
  rw [← hN] at hs
  simp only [decide_eq_true (show ((k : Nat) : Int) < ((L.length : Nat) : Int) by omega),hgk,e1,hgi,go_sem,↓reduceIte,zA,zB,zC,zD,zE,zF,reduceCtorEq,zG,zH,zI,zJ,zK,zL,zM,zN,zO,zP]
  refine WD_calld (at_tri s h now t h0) rfl rfl rfl rfl ?_; simp only [go_sem,↓reduceIte,zA,zB,zC,zD,zE,zF,reduceCtorEq,zG,zH,zI,zJ,zK,zL,zM,zN,zO,zP]
  refine WD_calld (pick_tri s x (atN s now t s.jobs.length) h.nodes (atN_s h now t _ (Nat.le_refl _)) hm) rfl rfl rfl rfl ?_; simp only [go_sem,↓reduceIte,zA,zB,zC,zD,zE,zF,reduceCtorEq,zG,zH,zI,zJ,zK,zL,zM,zN,zO,zP]
  generalize pickS s x (atN s now t s.jobs.length) = r at hs ⊢
  obtain ⟨n, ok⟩ := r
  cases ok with
  | true =>
    rw [if_pos rfl] at hs
    simp only [hs,go_sem,↓reduceIte,zA,zB,zC,zD,zE,zF,reduceCtorEq,zG,zH,zI,zJ,zK,zL,zM,zN,zO,zP]
  | false =>
    rw [if_neg Bool.false_ne_true] at hs
    simp only [go_sem,↓reduceIte,zA,zB,zC,zD,zE,zF,reduceCtorEq,zG,zH,zI,zJ,zK,zL,zM,zN,zO,zP]
    refine W_lpI (k + 1) ?_ ?_ ⟨by omega, hs⟩ (by omega)
    · simp only [go_sem,↓reduceIte,zA,zB,zC,zD,zE,zF,reduceCtorEq,zG,zH,zI,zJ,zK,zL,zM,zN,zO,zP]
    simp only [rsS,boxS,wrap_succ (show k < 9223372036854775807 by omega),go_sem,↓reduceIte,zA,zB,zC,zD,zE,zF,reduceCtorEq,zG,zH,zI,zJ,zK,zL,zM,zN,zO,zP]

theorem line_some {s : StateD} {job : Int} (hq : queuedI s job = true) : 0 < (lineN s).length := by
  obtain ⟨i, _, hi⟩ := queuedI_iff.1 hq
  exact List.length_pos_of_mem (mem_line.2 (mem_queued.1 hi))
set_option maxHeartbeats 8000000 in
theorem fill_tri (s : StateD) (h : FitS s) (job now : Int) (h0 : TimeR now) : Tri Tryz.prog G 63 [stateV s, .int job, .int now] [] (.tup [.int (fillS s job now).1, .bool (fillS s job now).2]) [] := by
  refine tri_W0 Tryz.func63 (by decide) irOk63 (Nat.le_of_ble_eq_true rfl) rfl ?_
  simp only [ir63,go_sem,↓reduceIte,zA,zB,zC,zD,zE,zF,reduceCtorEq,zG,zH,zI,zJ,zK,zL,zM,zN,zO,zP]
  have hj := h.jobs
  have hn := h.nodes
  unfold fillS
  refine W_calld (line_tri s hj h.prio) rfl rfl rfl rfl ?_; simp only [go_sem,↓reduceIte,zA,zB,zC,zD,zE,zF,reduceCtorEq,zG,zH,zI,zJ,zK,zL,zM,zN,zO,zP]
  refine W_calld (queued_tri s hj job) rfl rfl rfl rfl ?_; simp only [go_sem,↓reduceIte,zA,zB,zC,zD,zE,zF,reduceCtorEq,zG,zH,zI,zJ,zK,zL,zM,zN,zO,zP]
  cases hq : queuedI s job with
  | false => simp only [Bool.false_eq_true,true_or,if_true,go_sem,↓reduceIte,zA,zB,zC,zD,zE,zF,reduceCtorEq,zG,zH,zI,zJ,zK,zL,zM,zN,zO,zP]
  | true =>
  have hl := line_some hq
  have hg0 := natR_get (lineN s) 0 hl
  have hh : ((((lineN s).getD 0 0 + 1 : Nat) : Int)) = headI s := rfl
  rw [hh] at hg0
  simp only [hg0,go_sem,↓reduceIte,zA,zB,zC,zD,zE,zF,reduceCtorEq,zG,zH,zI,zJ,zK,zL,zM,zN,zO,zP]
  by_cases hhj : headI s = job
  · simp only [show (headI s == job) = true from beq_iff_eq.2 hhj,hhj,or_true,if_true,go_sem,↓reduceIte,zA,zB,zC,zD,zE,zF,reduceCtorEq,zG,zH,zI,zJ,zK,zL,zM,zN,zO,zP]
  simp only [show (headI s == job) = false from beq_eq_false_iff_ne.2 hhj,Bool.true_eq_false,hhj,or_self,if_false,go_sem,↓reduceIte,zA,zB,zC,zD,zE,zF,reduceCtorEq,zG,zH,zI,zJ,zK,zL,zM,zN,zO,zP]
  obtain ⟨i, rfl, hi⟩ := queuedI_iff.1 hq
  have hil := (mem_queued.1 hi).1
  have e1 := succ_pred i (by omega)
  have e2 := jobQ_at s i
  have hgi := get_mapD (f := jobR) zeroJob hil
  have hm := h.most i hil
  have hE := h.ends i hil
  have hjo : joA s i = s.jobs.getD i zeroJob := rfl
  generalize s.jobs.getD i zeroJob = x at hgi hjo
  rw [hjo] at e2 hm hE
  obtain ⟨w1, w2, w3⟩ := hE
  have hwr : IntKind.i64.wrap (now + x.work) = now + x.work := wrap_in (by have := h0.1; omega) (by have := h0.2; omega)
  simp only [jobR] at hgi
  simp only [e1,e2,hgi,hg0,go_sem,↓reduceIte,zA,zB,zC,zD,zE,zF,reduceCtorEq,zG,zH,zI,zJ,zK,zL,zM,zN,zO,zP]
  refine WD_calld (res_tri s h (headI s) now h0) rfl rfl rfl rfl ?_; simp only [go_sem,↓reduceIte,zA,zB,zC,zD,zE,zF,reduceCtorEq,zG,zH,zI,zJ,zK,zL,zM,zN,zO,zP]
  have h6 := h.res_6 (headI s) now
  generalize resS s (headI s) now = r at h6 ⊢
  obtain ⟨t, kept, ok⟩ := r
  simp only [go_sem,↓reduceIte,zA,zB,zC,zD,zE,zF,reduceCtorEq,zG,zH,zI,zJ,zK,zL,zM,zN,zO,zP]
  refine WD_calld (fopen_tri s h.nodes) rfl rfl rfl rfl ?_; simp only [go_sem,↓reduceIte,zA,zB,zC,zD,zE,zF,reduceCtorEq,zG,zH,zI,zJ,zK,zL,zM,zN,zO,zP]
  have hset := (andNotI_6 (free_6 h.nodes) h6).1
  refine WD_calld (pick_tri s x (andNotI .i64 (freeS s) kept) h.nodes hset hm) rfl rfl rfl rfl ?_; simp only [go_sem,↓reduceIte,zA,zB,zC,zD,zE,zF,reduceCtorEq,zG,zH,zI,zJ,zK,zL,zM,zN,zO,zP]
  generalize pickS s x (andNotI .i64 (freeS s) kept) = pk
  obtain ⟨p1, p2⟩ := pk
  cases p2 with
  | true => simp only [if_true,go_sem,↓reduceIte,zA,zB,zC,zD,zE,zF,reduceCtorEq,zG,zH,zI,zJ,zK,zL,zM,zN,zO,zP]
  | false =>
    simp only [if_neg Bool.false_ne_true,go_sem,↓reduceIte,zA,zB,zC,zD,zE,zF,reduceCtorEq,zG,zH,zI,zJ,zK,zL,zM,zN,zO,zP]
    refine W_calld (now_tri s h ((i + 1 : Nat) : Int)) rfl rfl rfl rfl ?_; simp only [go_sem,↓reduceIte,zA,zB,zC,zD,zE,zF,reduceCtorEq,zG,zH,zI,zJ,zK,zL,zM,zN,zO,zP]
    generalize nowS s ((i + 1 : Nat) : Int) = nw
    obtain ⟨n1, n2⟩ := nw
    cases ok with
    | false => simp only [true_or,if_true,go_sem,↓reduceIte,zA,zB,zC,zD,zE,zF,reduceCtorEq,zG,zH,zI,zJ,zK,zL,zM,zN,zO,zP]
    | true =>
      cases n2 with
      | false => simp only [true_or,or_true,if_true,go_sem,↓reduceIte,zA,zB,zC,zD,zE,zF,reduceCtorEq,zG,zH,zI,zJ,zK,zL,zM,zN,zO,zP]
      | true =>
        simp only [e1,hgi,hwr,go_sem,↓reduceIte,zA,zB,zC,zD,zE,zF,reduceCtorEq,zG,zH,zI,zJ,zK,zL,zM,zN,zO,zP]
        by_cases h5 : t < now + x.work
        · simp only [decide_eq_true (show now + x.work > t from h5),h5,or_true,if_true,go_sem,↓reduceIte,zA,zB,zC,zD,zE,zF,reduceCtorEq,zG,zH,zI,zJ,zK,zL,zM,zN,zO,zP]
        · simp only [decide_eq_false (show ¬ now + x.work > t from h5),h5,Bool.true_eq_false,or_self,if_false,go_sem,↓reduceIte,zA,zB,zC,zD,zE,zF,reduceCtorEq,zG,zH,zI,zJ,zK,zL,zM,zN,zO,zP]

def nxS (s : StateD) (now : Int) (L : List Nat) (k : Nat) : St := ⟨[(1, .int now), (2, .ptr 0 0), (7, .int 0), (8, .int 0), (14, .d (.lst 1 (natR L))), (15, .int L.length), (16, .int k)], [some (boxS s)]⟩
set_option maxHeartbeats 8000000 in
theorem anext_tri (s : StateD) (h : FitS s) (now : Int) (h0 : TimeR now) : Tri Tryz.prog G 40 [stateV s, .int now] [] (.tup [.int (anextS s now).1, .int (anextS s now).2.1, .bool (anextS s now).2.2]) [] := by
  refine tri_W0 Tryz.func40 (by decide) irOk40 (Nat.le_of_ble_eq_true rfl) rfl ?_
  simp only [ir40,go_sem,↓reduceIte,zA,zB,zC,zD,zE,zF,reduceCtorEq,zG,zH,zI,zJ,zK,zL,zM,zN,zO,zP]
  have hj := h.jobs
  have hL : (lineN s).length ≤ 1000 := by
    have := (lineN_perm s).length_eq
    have := queuedTo_len s s.jobs.length
    have e : queuedTo s s.jobs.length = queued s := rfl
    rw [e] at this
    omega
  unfold anextS
  refine W_calld (line_tri s hj h.prio) rfl rfl rfl rfl ?_; simp only [go_sem,↓reduceIte,zA,zB,zC,zD,zE,zF,reduceCtorEq,zG,zH,zI,zJ,zK,zL,zM,zN,zO,zP]
  simp only [natR_len,go_sem,↓reduceIte,zA,zB,zC,zD,zE,zF,reduceCtorEq,zG,zH,zI,zJ,zK,zL,zM,zN,zO,zP]
  generalize lineN s = L at hL ⊢
  refine W_loopI [1, 2, 7, 8, 14, 15, 16] [] (fun k : Nat => k ≤ L.length ∧ nextGo (nowS s) (fun k => fillS s k now) L 0 = nextGo (nowS s) (fun k => fillS s k now) (L.drop k) k) (fun k => L.length - k) (nxS s now L) 0 ?_ ⟨Nat.zero_le _, rfl⟩ (fun k hk => ?_)
  · simp only [nxS,boxS,Int.natCast_zero,go_sem,↓reduceIte,zA,zB,zC,zD,zE,zF,reduceCtorEq,zG,zH,zI,zJ,zK,zL,zM,zN,zO,zP]
  obtain ⟨hk, hN⟩ := hk
  simp only [nxS,boxS,natR_len,go_sem,↓reduceIte,zA,zB,zC,zD,zE,zF,reduceCtorEq,zG,zH,zI,zJ,zK,zL,zM,zN,zO,zP]
  by_cases hlt : k < L.length
  case neg =>
    obtain rfl : k = L.length := by omega
    rw [List.drop_length] at hN
    simp only [decide_eq_false (show ¬ ((L.length : Nat) : Int) < ((L.length : Nat) : Int) by omega),hN,nextGo,go_sem,↓reduceIte,zA,zB,zC,zD,zE,zF,reduceCtorEq,zG,zH,zI,zJ,zK,zL,zM,zN,zO,zP]
    rfl
  have hgk := natR_get L k hlt
  have hs := nextGo_step (nowS s) (fun k => fillS s k now) L k hlt
  have hpos : 0 < ((L.getD k 0 + 1 : Nat) : Int) := by omega
  generalize ((L.getD k 0 + 1 : Nat) : Int) = job at hgk hs hpos
  rw [← hN] at hs
  simp only [decide_eq_true (show ((k : Nat) : Int) < ((L.length : Nat) : Int) by omega),hgk,go_sem,↓reduceIte,zA,zB,zC,zD,zE,zF,reduceCtorEq,zG,zH,zI,zJ,zK,zL,zM,zN,zO,zP]
  by_cases hk0 : k = 0
  case pos =>
    simp only [if_pos hk0] at hs
    simp only [show (((k : Nat) : Int) == 0) = true from beq_iff_eq.2 (by omega),go_sem,↓reduceIte,zA,zB,zC,zD,zE,zF,reduceCtorEq,zG,zH,zI,zJ,zK,zL,zM,zN,zO,zP]
    refine W_calld (now_tri s h job) rfl rfl rfl rfl ?_; simp only [go_sem,↓reduceIte,zA,zB,zC,zD,zE,zF,reduceCtorEq,zG,zH,zI,zJ,zK,zL,zM,zN,zO,zP]
    generalize nowS s job = r at hs ⊢
    obtain ⟨n, ok⟩ := r
    cases ok with
    | true =>
      rw [if_pos rfl] at hs
      simp only [hs,decide_eq_true (show job > 0 from hpos),go_sem,↓reduceIte,zA,zB,zC,zD,zE,zF,reduceCtorEq,zG,zH,zI,zJ,zK,zL,zM,zN,zO,zP]
    | false =>
      rw [if_neg Bool.false_ne_true] at hs
      simp only [go_sem,↓reduceIte,zA,zB,zC,zD,zE,zF,reduceCtorEq,zG,zH,zI,zJ,zK,zL,zM,zN,zO,zP]
      refine W_lpI (k + 1) ?_ ?_ ⟨by omega, hs⟩ (by omega)
      · simp only [go_sem,↓reduceIte,zA,zB,zC,zD,zE,zF,reduceCtorEq,zG,zH,zI,zJ,zK,zL,zM,zN,zO,zP]
      simp only [nxS,boxS,wrap_succ (show k < 9223372036854775807 by omega),go_sem,↓reduceIte,zA,zB,zC,zD,zE,zF,reduceCtorEq,zG,zH,zI,zJ,zK,zL,zM,zN,zO,zP]
  case neg =>
    simp only [if_neg hk0] at hs
    simp only [show (((k : Nat) : Int) == 0) = false from beq_eq_false_iff_ne.2 (by omega),go_sem,↓reduceIte,zA,zB,zC,zD,zE,zF,reduceCtorEq,zG,zH,zI,zJ,zK,zL,zM,zN,zO,zP]
    refine W_calld (fill_tri s h job now h0) rfl rfl rfl rfl ?_; simp only [go_sem,↓reduceIte,zA,zB,zC,zD,zE,zF,reduceCtorEq,zG,zH,zI,zJ,zK,zL,zM,zN,zO,zP]
    generalize fillS s job now = r at hs ⊢
    obtain ⟨n, ok⟩ := r
    cases ok with
    | true =>
      rw [if_pos rfl] at hs
      simp only [hs,decide_eq_true (show job > 0 from hpos),go_sem,↓reduceIte,zA,zB,zC,zD,zE,zF,reduceCtorEq,zG,zH,zI,zJ,zK,zL,zM,zN,zO,zP]
    | false =>
      rw [if_neg Bool.false_ne_true] at hs
      simp only [go_sem,↓reduceIte,zA,zB,zC,zD,zE,zF,reduceCtorEq,zG,zH,zI,zJ,zK,zL,zM,zN,zO,zP]
      refine W_lpI (k + 1) ?_ ?_ ⟨by omega, hs⟩ (by omega)
      · simp only [go_sem,↓reduceIte,zA,zB,zC,zD,zE,zF,reduceCtorEq,zG,zH,zI,zJ,zK,zL,zM,zN,zO,zP]
      simp only [nxS,boxS,wrap_succ (show k < 9223372036854775807 by omega),go_sem,↓reduceIte,zA,zB,zC,zD,zE,zF,reduceCtorEq,zG,zH,zI,zJ,zK,zL,zM,zN,zO,zP]
end Dv
