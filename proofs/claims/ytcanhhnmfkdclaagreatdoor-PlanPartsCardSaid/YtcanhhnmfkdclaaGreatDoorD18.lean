/- The document's LetGo and Same. -/
import Derived.Test.YtcanhhnmfkdclaaGreatDoorD17
set_option linter.unusedVariables false
set_option linter.unusedSimpArgs false
namespace Dv
open Go Go.Proofs
open Nat renaming reduceEqDiff → zA, reduceAdd → zB, reduceSub → zC, reduceMul → zD, reduceLT → zE, reduceLeDiff → zF
open Int renaming reduceLE → zG, reduceLT → zH, reduceToNat → zI, reduceBEq → zJ, reduceBNe → zK, reduceEq → zL, reduceAdd → zM, reduceSub → zN, reduceMul → zO, reduceNeg → zP
attribute [local go_sem] argEnv W_nil W_seq W_skip W_ret W_exit W_scope W_block W_blk W_reg W_regD W_cond WC_t WC_f WC_any Wx_c Wx_ops Wx_lp Wx_blk W_ops_nil W_opsD_q W_guard W_guardD WG_tt WG_ff WG_tf WG_ft WG_u WGD_tt WGD_ff WGD_tf WGD_ft WGD_u WE_some WED_some W_more W_mv W_pick W_new W_box W_build W_bsl W_ld1 W_ldn W_st W_nck W_bin W_eqb W_not W_cvt W_fad W_fld1 W_fldn W_ixa W_ixr W_ix1 W_ixs W_len W_lens W_mkf W_ext W_app W_min W_max W_isnp W_isns W_eqs W_neg W_ixn W_sli W_sls WD_more WD_mv WD_pick WD_new WD_box WD_build WD_bsl WD_ld1 WD_ldn WD_st WD_nck WD_bin WD_eqb WD_not WD_cvt WD_fad WD_fld1 WD_fldn WD_ixa WD_ixr WD_ix1 WD_ixs WD_len WD_lens WD_mkf WD_ext WD_app WD_min WD_max WD_isnp WD_isns WD_eqs WD_neg WD_ixn WD_sli WD_sls effF effM bytesOf Opd.ev getE putE binV LV.int LV.bool LV.undef Go.undef LV.cells LV.toD LV.toDs splice fillL rowsOf boxOf srcRows updL objL Eff.owned nwp St.get St.obj St.put Value.oneCell' Ends adopt Ad.ap isNil St.keep St.okKeep okObj idl idlL idlO RVs.of RV.of oneOr Ends0 EndsO_iff frzs rn rnL rnO piOf eqCells eqV boundV Option.map_some Option.map_none List.append_nil List.nil_append List.cons_append List.map_nil List.map_cons List.length_nil List.length_cons List.set_cons_zero List.set_cons_succ List.take_succ_cons List.take_zero List.take_nil List.drop_succ_cons List.drop_zero List.drop_nil List.getElem?_cons_zero List.getElem?_cons_succ List.getElem?_nil List.isEmpty_nil List.isEmpty_cons List.all_cons List.all_nil List.isEmpty_nil cond_true cond_false Bool.true_and Bool.false_and Bool.and_true Bool.and_false Bool.not_true Bool.not_false Bool.or_true Bool.true_or Bool.or_false Bool.false_or true_and and_true true_or or_true Option.some.injEq LV.d.injEq DV.val.injEq Value.bool.injEq Value.int.injEq decide_true decide_false and_self Nat.zero_add Nat.add_zero if_true if_false Int.toNat_zero beq_self_eq_true Nat.zero_lt_succ Int.toNat_natCast Int.natCast_nonneg List.length_map i64 bl List.zip_cons_cons List.zip_nil_left List.zip_nil_right nwp confV stateV nodeV jobV nodesV jobsV opV msgV nodeR jobR opR msgR zeroOp zeroMsg msgsV
variable {G : Nat → Option (List DV)}

/-- dunnageref09.Same -/
def ir17 : Nat × C × List RV := (87,
(.seq (.reg [⟨some 2,.box 27 (.t 0),none,[]⟩,
 ⟨some 3,.box 27 (.t 1),none,[]⟩,
 ⟨some 4,.mv (.c (.val (.bool false))),none,[]⟩])
 (.seq (.seq (.reg [⟨some 7,.fad 0 (.t 2),none,[]⟩,
 ⟨some 8,.ld1 (.t 7),none,[]⟩,
 ⟨some 9,.len (.t 8),none,[]⟩,
 ⟨some 10,.fad 0 (.t 3),none,[]⟩,
 ⟨some 11,.ld1 (.t 10),none,[]⟩,
 ⟨some 12,.len (.t 11),none,[]⟩,
 ⟨some 13,.bin .neq (.t 9) (.t 12),none,[]⟩,
 ⟨some 14,.mv (.t 13),none,[]⟩,
 ⟨some 15,.fad 1 (.t 2),(some (14,false)),[]⟩,
 ⟨some 16,.ld1 (.t 15),(some (14,false)),[]⟩,
 ⟨some 17,.len (.t 16),(some (14,false)),[]⟩,
 ⟨some 18,.fad 1 (.t 3),(some (14,false)),[]⟩,
 ⟨some 19,.ld1 (.t 18),(some (14,false)),[]⟩,
 ⟨some 20,.len (.t 19),(some (14,false)),[]⟩,
 ⟨some 21,.bin .neq (.t 17) (.t 20),(some (14,false)),[]⟩,
 ⟨some 22,.pick (.t 14) (.c (.val (.bool true))) (.t 21),none,[]⟩,
 ⟨some 23,.mv (.t 22),none,[]⟩,
 ⟨some 24,.fad 2 (.t 2),(some (23,false)),[]⟩,
 ⟨some 25,.ld1 (.t 24),(some (23,false)),[]⟩,
 ⟨some 26,.fad 2 (.t 3),(some (23,false)),[]⟩,
 ⟨some 27,.ld1 (.t 26),(some (23,false)),[]⟩,
 ⟨some 28,.bin .neq (.t 25) (.t 27),(some (23,false)),[]⟩,
 ⟨some 29,.pick (.t 23) (.c (.val (.bool true))) (.t 28),none,[]⟩,
 ⟨some 30,.mv (.t 29),none,[]⟩,
 ⟨some 31,.fad 3 (.t 2),(some (30,false)),[]⟩,
 ⟨some 32,.ld1 (.t 31),(some (30,false)),[]⟩,
 ⟨some 33,.fad 3 (.t 3),(some (30,false)),[]⟩,
 ⟨some 34,.ld1 (.t 33),(some (30,false)),[]⟩,
 ⟨some 35,.bin .neq (.t 32) (.t 34),(some (30,false)),[]⟩,
 ⟨some 36,.pick (.t 30) (.c (.val (.bool true))) (.t 35),none,[]⟩,
 ⟨some 37,.mv (.t 36),none,[]⟩,
 ⟨some 38,.fad 4 (.t 2),(some (37,false)),[]⟩,
 ⟨some 39,.ld1 (.t 38),(some (37,false)),[]⟩,
 ⟨some 40,.fad 4 (.t 3),(some (37,false)),[]⟩,
 ⟨some 41,.ld1 (.t 40),(some (37,false)),[]⟩,
 ⟨some 42,.bin .neq (.t 39) (.t 41),(some (37,false)),[]⟩,
 ⟨some 43,.pick (.t 37) (.c (.val (.bool true))) (.t 42),none,[]⟩,
 ⟨some 44,.mv (.t 43),none,[]⟩,
 ⟨some 45,.fad 5 (.t 2),(some (44,false)),[]⟩,
 ⟨some 46,.ld1 (.t 45),(some (44,false)),[]⟩,
 ⟨some 47,.fad 5 (.t 3),(some (44,false)),[]⟩,
 ⟨some 48,.ld1 (.t 47),(some (44,false)),[]⟩,
 ⟨some 49,.bin .neq (.t 46) (.t 48),(some (44,false)),[]⟩,
 ⟨some 50,.pick (.t 44) (.c (.val (.bool true))) (.t 49),none,[]⟩])
 (.cond (.t 50) (.seq (.reg [⟨some 4,.mv (.c (.val (.bool false))),none,[]⟩])
 .ret)
 .skip))
 (.seq (.seq (.reg [⟨some 5,.mv (.c (.val (.int .i64 0))),none,[]⟩])
 (.block 0 (.loop (.seq (.seq (.reg [⟨some 51,.mv (.t 5),none,[]⟩,
 ⟨some 52,.fad 0 (.t 2),none,[]⟩,
 ⟨some 53,.ld1 (.t 52),none,[]⟩,
 ⟨some 54,.len (.t 53),none,[]⟩,
 ⟨some 55,.bin .lss (.t 51) (.t 54),none,[]⟩])
 (.cond (.t 55) .skip
 (.exit 0)))
 (.seq (.block 1 (.seq (.regD [⟨some 58,.fad 0 (.t 2),none,[]⟩,
 ⟨some 59,.ld1 (.t 58),none,[0]⟩,
 ⟨some 60,.mv (.t 5),none,[]⟩,
 ⟨some 61,.ixa 5 (.t 59) (.t 60),none,[1,0,2]⟩,
 ⟨some 62,.ldn 5 (.t 61),none,[3,1,0,2]⟩,
 ⟨some 63,.fad 0 (.t 3),none,[]⟩,
 ⟨some 64,.ld1 (.t 63),none,[5]⟩,
 ⟨some 65,.mv (.t 5),none,[]⟩,
 ⟨some 66,.ixa 5 (.t 64) (.t 65),none,[6,5,7]⟩,
 ⟨some 67,.ldn 5 (.t 66),none,[8,6,5,7]⟩,
 ⟨some 68,.eqs true [1,1,1,0,0] (.t 62) (.t 67),none,[4,3,1,0,2,9,8,6,5,7]⟩])
 (.cond (.t 68) (.seq (.reg [⟨some 4,.mv (.c (.val (.bool false))),none,[]⟩])
 .ret)
 .skip)))
 (.reg [⟨some 56,.mv (.t 5),none,[]⟩,
 ⟨some 57,.bin .add (.t 56) (.c (.val (.int .i64 1))),none,[]⟩,
 ⟨some 5,.mv (.t 57),none,[]⟩]))))))
 (.seq (.seq (.reg [⟨some 6,.mv (.c (.val (.int .i64 0))),none,[]⟩])
 (.block 2 (.loop (.seq (.seq (.reg [⟨some 69,.mv (.t 6),none,[]⟩,
 ⟨some 70,.fad 1 (.t 2),none,[]⟩,
 ⟨some 71,.ld1 (.t 70),none,[]⟩,
 ⟨some 72,.len (.t 71),none,[]⟩,
 ⟨some 73,.bin .lss (.t 69) (.t 72),none,[]⟩])
 (.cond (.t 73) .skip
 (.exit 2)))
 (.seq (.block 3 (.seq (.regD [⟨some 76,.fad 1 (.t 2),none,[]⟩,
 ⟨some 77,.ld1 (.t 76),none,[0]⟩,
 ⟨some 78,.mv (.t 6),none,[]⟩,
 ⟨some 79,.ixa 12 (.t 77) (.t 78),none,[1,0,2]⟩,
 ⟨some 80,.ldn 12 (.t 79),none,[3,1,0,2]⟩,
 ⟨some 81,.fad 1 (.t 3),none,[]⟩,
 ⟨some 82,.ld1 (.t 81),none,[5]⟩,
 ⟨some 83,.mv (.t 6),none,[]⟩,
 ⟨some 84,.ixa 12 (.t 82) (.t 83),none,[6,5,7]⟩,
 ⟨some 85,.ldn 12 (.t 84),none,[8,6,5,7]⟩,
 ⟨some 86,.eqs true [0,0,0,0,0,0,0,0,0,0,0,0] (.t 80) (.t 85),none,[4,3,1,0,2,9,8,6,5,7]⟩])
 (.cond (.t 86) (.seq (.reg [⟨some 4,.mv (.c (.val (.bool false))),none,[]⟩])
 .ret)
 .skip)))
 (.reg [⟨some 74,.mv (.t 6),none,[]⟩,
 ⟨some 75,.bin .add (.t 74) (.c (.val (.int .i64 1))),none,[]⟩,
 ⟨some 6,.mv (.t 75),none,[]⟩]))))))
 (.seq (.reg [⟨some 4,.mv (.c (.val (.bool true))),none,[]⟩])
 .ret))))),
[(.t 4)])
theorem irOk17 : convFn Tryz.prog Tryz.f17 = some ir17 := by kernel_rfl


/-- a state whose nodes and jobs are objects. -/
@[reducible] def stA (s : StateD) (a b : Nat) : LV := .agg [.sl a s.nodes.length 5 0 s.nodes.length, .sl b s.jobs.length 12 0 s.jobs.length, .int s.goal, .int s.prior, .int s.mode, .int s.term]
@[reducible] def datO (s : StateD) : List LObj := [.dat 49 5 (s.nodes.map nodeR), .dat 47 12 (s.jobs.map jobR)]

theorem node_dec (a b : NodeD) : (a.up == b.up && (a.cordon == b.cordon && (a.moving == b.moving && (a.version == b.version && (a.job == b.job && true))))) = decide (a = b) := by
  rw [Bool.eq_iff_iff]
  obtain ⟨a1, a2, a3, a4, a5⟩ := a
  obtain ⟨b1, b2, b3, b4, b5⟩ := b
  simp
theorem job_dec (a b : JobD) : (a.queue == b.queue && (a.prio == b.prio && (a.min == b.min && (a.max == b.max && (a.work == b.work && (a.pin == b.pin && (a.phase == b.phase && (a.inc == b.inc && (a.nodes == b.nodes && (a.since == b.since && (a.til == b.til && (a.epoch == b.epoch && true)))))))))))) = decide (a = b) := by
  rw [Bool.eq_iff_iff]
  obtain ⟨a1, a2, a3, a4, a5, a6, a7, a8, a9, a10, a11, a12⟩ := a
  obtain ⟨b1, b2, b3, b4, b5, b6, b7, b8, b9, b10, b11, b12⟩ := b
  simp
theorem same_dec (s t : StateD) : decide (s = t) = (decide (s.goal = t.goal ∧ s.prior = t.prior ∧ s.mode = t.mode ∧ s.term = t.term) && (decide (s.nodes = t.nodes) && decide (s.jobs = t.jobs))) := by
  rw [Bool.eq_iff_iff]
  obtain ⟨a1, a2, a3, a4, a5, a6⟩ := s
  obtain ⟨b1, b2, b3, b4, b5, b6⟩ := t
  simp
  constructor
  · rintro ⟨rfl, rfl, rfl, rfl, rfl, rfl⟩; simp
  · rintro ⟨⟨rfl, rfl, rfl, rfl⟩, rfl, rfl⟩; simp
theorem drop_dec {α : Type} [DecidableEq α] (l m : List α) (k : Nat) (z : α) (h1 : k < l.length) (h2 : k < m.length) : decide (l.drop k = m.drop k) = (decide (l.getD k z = m.getD k z) && decide (l.drop (k + 1) = m.drop (k + 1))) := by
  rw [drop_cons l k z h1, drop_cons m k z h2, Bool.eq_iff_iff]
  simp
def same9S1 (s t : StateD) (k : Nat) : St := ⟨[(2, .ptr 0 0), (3, .ptr 1 0), (5, .int k)], [some (.box 27 [nodesV s.nodes, jobsV s.jobs, .int s.goal, .int s.prior, .int s.mode, .int s.term]), some (.box 27 [nodesV t.nodes, jobsV t.jobs, .int t.goal, .int t.prior, .int t.mode, .int t.term])]⟩
def same9S2 (s t : StateD) (k : Nat) : St := ⟨[(2, .ptr 0 0), (3, .ptr 1 0), (6, .int k)], [some (.box 27 [nodesV s.nodes, jobsV s.jobs, .int s.goal, .int s.prior, .int s.mode, .int s.term]), some (.box 27 [nodesV t.nodes, jobsV t.jobs, .int t.goal, .int t.prior, .int t.mode, .int t.term])]⟩
theorem same9_tri (s t : StateD) (hn : s.nodes.length ≤ 1000000000000) (hj : s.jobs.length ≤ 1000000000000) : Tri Tryz.prog G 17 [stateV s, stateV t] [] (.bool (decide (s = t))) [] := by
  refine tri_W0 Tryz.func17 (by decide) irOk17 (Nat.le_of_ble_eq_true rfl) rfl ?_
  simp only [ir17,go_sem,↓reduceIte,zA,zB,zC,zD,zE,zF,reduceCtorEq,zG,zH,zI,zJ,zK,zL,zM,zN,zO,zP]
  repeat' (first | ((first | with_reducible refine WG_splitn (fun h => ?_) (fun h => ?_) | refine WG_split (fun h => ?_) (fun h => ?_)) <;> simp only [h,go_sem,↓reduceIte,zA,zB,zC,zD,zE,zF,reduceCtorEq,zG,zH,zI,zJ,zK,zL,zM,zN,zO,zP] <;> (try simp only [beq_iff_eq,beq_eq_false_iff_ne,bne_iff_ne,ne_eq,decide_eq_true_eq,decide_eq_false_iff_not,Bool.not_true,Bool.not_false,Bool.not_eq_true,Bool.not_eq_false,bne_eq_false_iff_eq,Decidable.not_not] at h)))
  all_goals try (symm; apply decide_eq_false; intro e; subst e; omega)
  refine WC_split (fun hterm => ?_) (fun hterm => ?_) <;> simp only [hterm,go_sem,↓reduceIte,zA,zB,zC,zD,zE,zF,reduceCtorEq,zG,zH,zI,zJ,zK,zL,zM,zN,zO,zP] <;> (try simp only [beq_iff_eq,beq_eq_false_iff_ne,bne_iff_ne,ne_eq,decide_eq_true_eq,decide_eq_false_iff_not,Bool.not_true,Bool.not_false,Bool.not_eq_true,Bool.not_eq_false,bne_eq_false_iff_eq,Decidable.not_not] at hterm)
  · symm; apply decide_eq_false; intro e; subst e; omega
  have hln : s.nodes.length = t.nodes.length := by omega
  have hlj : s.jobs.length = t.jobs.length := by omega
  rw [same_dec, decide_eq_true (show s.goal = t.goal ∧ s.prior = t.prior ∧ s.mode = t.mode ∧ s.term = t.term by omega), Bool.true_and]
  generalize hq : (decide (s.nodes = t.nodes) && decide (s.jobs = t.jobs)) = r
  refine W_loopI [2, 3, 5] [] (fun k : Nat => k ≤ s.nodes.length ∧ (decide (s.nodes.drop k = t.nodes.drop k) && decide (s.jobs = t.jobs)) = r) (fun k => s.nodes.length - k) (same9S1 s t) 0 ?_ ⟨Nat.zero_le _, hq⟩ ?_
  · simp only [same9S1,go_sem,↓reduceIte,zA,zB,zC,zD,zE,zF,reduceCtorEq,zG,zH,zI,zJ,zK,zL,zM,zN,zO,zP,Int.natCast_zero]
  rintro k ⟨hk, hF⟩
  simp only [same9S1,go_sem,↓reduceIte,zA,zB,zC,zD,zE,zF,reduceCtorEq,zG,zH,zI,zJ,zK,zL,zM,zN,zO,zP]
  refine WC_split (fun h => ?_) (fun h => ?_)
  · have h := lt_of_dec h
    have h2 : k < t.nodes.length := by omega
    rw [drop_dec s.nodes t.nodes k zeroNode h h2] at hF
    have hg := get_mapD (f := nodeR) zeroNode h
    have hg2 := get_mapD (f := nodeR) zeroNode h2
    generalize s.nodes.getD k zeroNode = a at *
    generalize t.nodes.getD k zeroNode = b at *
    simp only [hg,hg2,go_sem,↓reduceIte,zA,zB,zC,zD,zE,zF,reduceCtorEq,zG,zH,zI,zJ,zK,zL,zM,zN,zO,zP]
    have hnd := node_dec a b
    simp only [Bool.and_true] at hnd
    simp only [hnd,go_sem,↓reduceIte,zA,zB,zC,zD,zE,zF,reduceCtorEq,zG,zH,zI,zJ,zK,zL,zM,zN,zO,zP]
    cases hab : decide (a = b) with
    | false =>
      rw [hab] at hF
      simp only [Bool.false_and] at hF
      simp only [hab,go_sem,↓reduceIte,zA,zB,zC,zD,zE,zF,reduceCtorEq,zG,zH,zI,zJ,zK,zL,zM,zN,zO,zP,← hF]
    | true =>
      rw [hab, Bool.true_and] at hF
      simp only [hab,go_sem,↓reduceIte,zA,zB,zC,zD,zE,zF,reduceCtorEq,zG,zH,zI,zJ,zK,zL,zM,zN,zO,zP]
      refine W_lpI (k + 1) ?_ ?_ ⟨by omega, hF⟩ (by omega)
      · simp only [go_sem,↓reduceIte,zA,zB,zC,zD,zE,zF,reduceCtorEq,zG,zH,zI,zJ,zK,zL,zM,zN,zO,zP]
      · simp only [same9S1,go_sem,↓reduceIte,zA,zB,zC,zD,zE,zF,reduceCtorEq,zG,zH,zI,zJ,zK,zL,zM,zN,zO,zP,wrap_succ (show k < 9223372036854775807 by omega)]
  · obtain rfl := eq_of_dec h hk
    clear hq hk
    rw [List.drop_length, hln, List.drop_length, decide_eq_true rfl, Bool.true_and] at hF
    simp only [go_sem,↓reduceIte,zA,zB,zC,zD,zE,zF,reduceCtorEq,zG,zH,zI,zJ,zK,zL,zM,zN,zO,zP]
    refine W_loopI [2, 3, 6] [] (fun k : Nat => k ≤ s.jobs.length ∧ decide (s.jobs.drop k = t.jobs.drop k) = r) (fun k => s.jobs.length - k) (same9S2 s t) 0 ?_ ⟨Nat.zero_le _, hF⟩ ?_
    · simp only [same9S2,go_sem,↓reduceIte,zA,zB,zC,zD,zE,zF,reduceCtorEq,zG,zH,zI,zJ,zK,zL,zM,zN,zO,zP,Int.natCast_zero]
    clear hF
    rintro k ⟨hk, hF⟩
    simp only [same9S2,go_sem,↓reduceIte,zA,zB,zC,zD,zE,zF,reduceCtorEq,zG,zH,zI,zJ,zK,zL,zM,zN,zO,zP]
    refine WC_split (fun h => ?_) (fun h => ?_)
    · have h := lt_of_dec h
      have h2 : k < t.jobs.length := by omega
      rw [drop_dec s.jobs t.jobs k zeroJob h h2] at hF
      have hg := get_mapD (f := jobR) zeroJob h
      have hg2 := get_mapD (f := jobR) zeroJob h2
      generalize s.jobs.getD k zeroJob = a at *
      generalize t.jobs.getD k zeroJob = b at *
      simp only [hg,hg2,go_sem,↓reduceIte,zA,zB,zC,zD,zE,zF,reduceCtorEq,zG,zH,zI,zJ,zK,zL,zM,zN,zO,zP]
      have hjd := job_dec a b
      simp only [Bool.and_true] at hjd
      simp only [hjd,go_sem,↓reduceIte,zA,zB,zC,zD,zE,zF,reduceCtorEq,zG,zH,zI,zJ,zK,zL,zM,zN,zO,zP]
      cases hab : decide (a = b) with
      | false =>
        rw [hab] at hF
        simp only [Bool.false_and] at hF
        simp only [hab,go_sem,↓reduceIte,zA,zB,zC,zD,zE,zF,reduceCtorEq,zG,zH,zI,zJ,zK,zL,zM,zN,zO,zP,← hF]
      | true =>
        rw [hab, Bool.true_and] at hF
        simp only [hab,go_sem,↓reduceIte,zA,zB,zC,zD,zE,zF,reduceCtorEq,zG,zH,zI,zJ,zK,zL,zM,zN,zO,zP]
        refine W_lpI (k + 1) ?_ ?_ ⟨by omega, hF⟩ (by omega)
        · simp only [go_sem,↓reduceIte,zA,zB,zC,zD,zE,zF,reduceCtorEq,zG,zH,zI,zJ,zK,zL,zM,zN,zO,zP]
        · simp only [same9S2,go_sem,↓reduceIte,zA,zB,zC,zD,zE,zF,reduceCtorEq,zG,zH,zI,zJ,zK,zL,zM,zN,zO,zP,wrap_succ (show k < 9223372036854775807 by omega)]
    · obtain rfl := eq_of_dec h hk
      rw [List.drop_length, hlj, List.drop_length, decide_eq_true rfl] at hF
      simp only [go_sem,↓reduceIte,zA,zB,zC,zD,zE,zF,reduceCtorEq,zG,zH,zI,zJ,zK,zL,zM,zN,zO,zP,← hF]
end Dv
