/- The document's answers about reports: what is next, who is silent. -/
import Derived.Test.YtclgmpflmeopmaaG3
set_option linter.unusedVariables false
set_option linter.unusedSimpArgs false
namespace Dv
open Go Go.Proofs
open Nat renaming reduceEqDiff → zA, reduceAdd → zB, reduceSub → zC, reduceMul → zD, reduceLT → zE, reduceLeDiff → zF
open Int renaming reduceLE → zG, reduceLT → zH, reduceToNat → zI, reduceBEq → zJ, reduceBNe → zK, reduceEq → zL, reduceAdd → zM, reduceSub → zN, reduceMul → zO, reduceNeg → zP
attribute [local go_sem] argEnv W_nil W_seq W_skip W_ret W_exit W_scope W_block W_blk W_reg W_regD W_cond WC_t WC_f WC_any Wx_c Wx_ops Wx_lp Wx_blk W_ops_nil W_opsD_q W_guard W_guardD WG_tt WG_ff WG_tf WG_ft WG_u WGD_tt WGD_ff WGD_tf WGD_ft WGD_u WE_some WED_some W_mv W_pick W_new W_box W_build W_bsl W_ld1 W_ldn W_st W_nck W_bin W_eqb W_not W_cvt W_fad W_fld1 W_fldn W_ixa W_ixr W_ix1 W_ixs W_len W_lens W_mkf W_ext W_app W_min W_isnp W_isns W_eqs W_neg W_ixn W_sli W_sls WD_mv WD_pick WD_new WD_box WD_build WD_bsl WD_ld1 WD_ldn WD_st WD_nck WD_bin WD_eqb WD_not WD_cvt WD_fad WD_fld1 WD_fldn WD_ixa WD_ixr WD_ix1 WD_ixs WD_len WD_lens WD_mkf WD_ext WD_app WD_min WD_isnp WD_isns WD_eqs WD_neg WD_ixn WD_sli WD_sls effF Opd.ev getE putE binV LV.int LV.bool LV.undef Go.undef LV.cells LV.toD LV.toDs splice fillL rowsOf srcRows updL objL Eff.owned nwp St.get St.obj St.put Value.oneCell' Ends adopt Ad.ap isNil St.keep St.okKeep okObj idl idlL idlO RVs.of RV.of oneOr Ends0 EndsO_iff frzs rn rnL rnO piOf eqCells eqV boundV Option.map_some Option.map_none List.append_nil List.nil_append List.cons_append List.map_nil List.map_cons List.length_nil List.length_cons List.set_cons_zero List.set_cons_succ List.take_succ_cons List.take_zero List.take_nil List.drop_succ_cons List.drop_zero List.drop_nil List.getElem?_cons_zero List.getElem?_cons_succ List.getElem?_nil List.isEmpty_nil List.isEmpty_cons List.all_cons List.all_nil List.isEmpty_nil cond_true cond_false Bool.true_and Bool.false_and Bool.and_true Bool.and_false Bool.not_true Bool.not_false Bool.or_true Bool.true_or Bool.or_false Bool.false_or true_and and_true true_or or_true Option.some.injEq LV.d.injEq DV.val.injEq Value.bool.injEq Value.int.injEq decide_true decide_false and_self Nat.zero_add Nat.add_zero if_true if_false Int.toNat_zero beq_self_eq_true Nat.zero_lt_succ Int.toNat_natCast Int.natCast_nonneg List.length_map i64 bl List.zip_cons_cons List.zip_nil_left List.zip_nil_right nwp confV stateV nodeV jobV nodesV jobsV opV msgV nodeR jobR opR msgR zeroOp zeroMsg msgsV
variable {G : Nat → Option (List DV)}

def nextRO (s : StateD) : List (Option LObj) := [some (.box 33 [nodesV s.nodes, jobsV s.jobs, .int s.goal, .int s.prior, .int s.mode, .int s.term]), some (.box 42 [.int 0, .int 0, .int 0, .int 0, .int 0, .int 0, .int 0])]
def nextR1 (s : StateD) (r : List MsgD) (now : Int) (i : Nat) : St := ⟨[(1, msgsV r), (2, .int now), (3, .ptr 0 0), (6, .ptr 1 0), (7, .bool false), (8, .int i)], nextRO s⟩
def nextR2 (s : StateD) (r : List MsgD) (now : Int) (i : Nat) : St := ⟨[(1, msgsV r), (2, .int now), (3, .ptr 0 0), (6, .ptr 1 0), (7, .bool false), (9, .int i)], nextRO s⟩
def nextR3 (s : StateD) (r : List MsgD) (now : Int) (k : Nat) : St := ⟨[(1, msgsV r), (2, .int now), (3, .ptr 0 0), (6, .ptr 1 0), (7, .bool false), (10, .int ((k + 1 : Nat) : Int))], nextRO s⟩
set_option maxHeartbeats 2000000 in
theorem factsNext9_tri (s : StateD) (r : List MsgD) (now : Int) (hn : s.nodes.length ≤ 1000) (hl : s.jobs.length ≤ 1000) : Tri Try.prog G 30 [stateV s, msgsV r, .int now] [] (optM (factsR s r now)) [] := by
  unfold factsR
  generalize hq1 : firstM (tell1 s) r s.nodes 0 = q1
  generalize hq2 : firstM (tell2 s) r s.nodes 0 = q2
  generalize hq3 : tellG s r now s.jobs 0 = q3
  have hM := meant9_tri (G := G) s
  refine tri_W0 Try.func30 (by decide) irOk30 (Nat.le_of_ble_eq_true rfl) rfl ?_
  simp only [ir30, go_sem, ↓reduceIte, zA, zB, zC, zD, zE, zF, reduceCtorEq, zG, zH, zI, zJ, zK, zL, zM, zN, zO, zP]
  refine W_loopI [1, 2, 3, 6, 7, 8] [] (fun i : Nat => i ≤ s.nodes.length ∧ firstM (tell1 s) r (s.nodes.drop i) i = q1) (fun i => s.nodes.length - i) (nextR1 s r now) 0 ?_ ⟨Nat.zero_le _, hq1⟩ ?_
  · simp only [nextR1, nextRO, go_sem, ↓reduceIte, zA, zB, zC, zD, zE, zF, reduceCtorEq, zG, zH, zI, zJ, zK, zL, zM, zN, zO, zP, Int.natCast_zero]
  clear hq1
  rintro i ⟨hi, hF⟩
  have key : (i < s.nodes.length ∧ i < r.length) ∨ ¬ (i < s.nodes.length ∧ i < r.length) := Classical.em _
  rcases key with ⟨h, hr⟩ | hx
  · have hlt : decide ((i : Int) < (s.nodes.length : Int)) = true := decide_eq_true (by omega)
    have hlr : decide ((i : Int) < (r.length : Int)) = true := decide_eq_true (by omega)
    rw [List.drop_eq_getElem_cons h, firstM, tell1_at s _ hr] at hF
    have hg := get_map (f := nodeR) h
    have hg2 := get_mapD (f := msgR) zeroMsg hr
    generalize s.nodes[i] = n at *
    generalize r.getD i zeroMsg = m at *
    simp only [nextR1, nextRO, hlt, hlr, hg2, hg, go_sem, ↓reduceIte, zA, zB, zC, zD, zE, zF, reduceCtorEq, zG, zH, zI, zJ, zK, zL, zM, zN, zO, zP]
    have hw := wrap_succ (show i < 9223372036854775807 by omega)
    cases h1 : (m.kind == 6) <;> cases h2 : (m.mode == 0) <;> cases h3 : n.up <;> cases h4 : decide (m.version > 0) <;> cases h5 : decide (m.version < 10) <;> simp only [h1, h2, h3, h4, h5, Bool.true_and, Bool.false_and, Bool.and_true, Bool.and_false, Bool.not_true, Bool.not_false, if_true, Bool.false_eq_true, if_false] at hF <;> simp only [hg2, hg, h1, h2, h3, h4, h5, go_sem, ↓reduceIte, zA, zB, zC, zD, zE, zF, reduceCtorEq, zG, zH, zI, zJ, zK, zL, zM, zN, zO, zP]
    all_goals first
      | (subst hF; simp only [go_sem, ↓reduceIte, zA, zB, zC, zD, zE, zF, reduceCtorEq, zG, zH, zI, zJ, zK, zL, zM, zN, zO, zP, optM, Option.getD_some, Option.isSome_some]; done)
      | (refine W_lpI (i + 1) ?_ ?_ ⟨h, hF⟩ (by omega)
         · simp only [go_sem, ↓reduceIte, zA, zB, zC, zD, zE, zF, reduceCtorEq, zG, zH, zI, zJ, zK, zL, zM, zN, zO, zP]
         · simp only [nextR1, nextRO, go_sem, ↓reduceIte, zA, zB, zC, zD, zE, zF, reduceCtorEq, zG, zH, zI, zJ, zK, zL, zM, zN, zO, zP, hw])
  have hq : firstM (tell1 s) r (s.nodes.drop i) i = none := by
    by_cases h : i < s.nodes.length
    · exact firstM_beyond (tell1_zero s) _ _ (by omega)
    · rw [List.drop_eq_nil_of_le (by omega)]; rfl
  rw [hq] at hF
  subst hF
  have key : decide ((i : Int) < (s.nodes.length : Int)) = false ∨ (decide ((i : Int) < (s.nodes.length : Int)) = true ∧ decide ((i : Int) < (r.length : Int)) = false) := by
    by_cases h : i < s.nodes.length
    · exact .inr ⟨decide_eq_true (by omega), decide_eq_false (by omega)⟩
    · exact .inl (decide_eq_false (by omega))
  clear hx hq
  rcases key with key | key <;> simp only [nextR1, nextRO, key, go_sem, ↓reduceIte, zA, zB, zC, zD, zE, zF, reduceCtorEq, zG, zH, zI, zJ, zK, zL, zM, zN, zO, zP]
  all_goals clear key hi
  all_goals
    refine W_loopI [1, 2, 3, 6, 7, 9] [] (fun i : Nat => i ≤ s.nodes.length ∧ firstM (tell2 s) r (s.nodes.drop i) i = q2) (fun i => s.nodes.length - i) (nextR2 s r now) 0 ?_ ⟨Nat.zero_le _, hq2⟩ ?_
    · simp only [nextR2, nextRO, go_sem, ↓reduceIte, zA, zB, zC, zD, zE, zF, reduceCtorEq, zG, zH, zI, zJ, zK, zL, zM, zN, zO, zP, Int.natCast_zero]
    clear hq2
    rintro i ⟨hi, hF⟩
    have key : (i < s.nodes.length ∧ i < r.length) ∨ ¬ (i < s.nodes.length ∧ i < r.length) := Classical.em _
    rcases key with ⟨h, hr⟩ | hx
    · have hlt : decide ((i : Int) < (s.nodes.length : Int)) = true := decide_eq_true (by omega)
      have hlr : decide ((i : Int) < (r.length : Int)) = true := decide_eq_true (by omega)
      rw [List.drop_eq_getElem_cons h, firstM, tell2_at s _ hr] at hF
      have hg := get_map (f := nodeR) h
      have hg2 := get_mapD (f := msgR) zeroMsg hr
      generalize s.nodes[i] = n at *
      generalize r.getD i zeroMsg = m at *
      simp only [nextR2, nextRO, hlt, hlr, hg2, hg, go_sem, ↓reduceIte, zA, zB, zC, zD, zE, zF, reduceCtorEq, zG, zH, zI, zJ, zK, zL, zM, zN, zO, zP]
      have hw := wrap_succ (show i < 9223372036854775807 by omega)
      cases h1 : (m.kind == 6) <;> cases h2 : (m.mode == 0) <;> cases h3 : n.moving <;> simp only [h1, h2, h3, Bool.true_and, Bool.false_and, Bool.and_true, Bool.and_false, Bool.not_true, Bool.not_false, if_true, Bool.false_eq_true, if_false] at hF <;> simp only [hg2, hg, h1, h2, h3, go_sem, ↓reduceIte, zA, zB, zC, zD, zE, zF, reduceCtorEq, zG, zH, zI, zJ, zK, zL, zM, zN, zO, zP]
      all_goals (try (refine WD_calld hM rfl rfl rfl rfl ?_; simp only [go_sem, ↓reduceIte, zA, zB, zC, zD, zE, zF, reduceCtorEq, zG, zH, zI, zJ, zK, zL, zM, zN, zO, zP]))
      all_goals (try (refine W_opsD_end (by decide) ?_; simp only [go_sem, ↓reduceIte, zA, zB, zC, zD, zE, zF, reduceCtorEq, zG, zH, zI, zJ, zK, zL, zM, zN, zO, zP]))
      all_goals first
        | (refine W_lpI (i + 1) ?_ ?_ ⟨h, hF⟩ (by omega)
           · simp only [go_sem, ↓reduceIte, zA, zB, zC, zD, zE, zF, reduceCtorEq, zG, zH, zI, zJ, zK, zL, zM, zN, zO, zP]
           · simp only [nextR2, nextRO, go_sem, ↓reduceIte, zA, zB, zC, zD, zE, zF, reduceCtorEq, zG, zH, zI, zJ, zK, zL, zM, zN, zO, zP, hw])
        | skip
      all_goals
        cases h4 : (m.version == meant s) <;> simp only [h4, if_true, Bool.false_eq_true, if_false] at hF <;> simp only [hg2, h4, go_sem, ↓reduceIte, zA, zB, zC, zD, zE, zF, reduceCtorEq, zG, zH, zI, zJ, zK, zL, zM, zN, zO, zP]
        all_goals first
          | (subst hF; simp only [go_sem, ↓reduceIte, zA, zB, zC, zD, zE, zF, reduceCtorEq, zG, zH, zI, zJ, zK, zL, zM, zN, zO, zP, optM, Option.getD_some, Option.isSome_some]; done)
          | (refine W_lpI (i + 1) ?_ ?_ ⟨h, hF⟩ (by omega)
             · simp only [go_sem, ↓reduceIte, zA, zB, zC, zD, zE, zF, reduceCtorEq, zG, zH, zI, zJ, zK, zL, zM, zN, zO, zP]
             · simp only [nextR2, nextRO, go_sem, ↓reduceIte, zA, zB, zC, zD, zE, zF, reduceCtorEq, zG, zH, zI, zJ, zK, zL, zM, zN, zO, zP, hw])
    have hq : firstM (tell2 s) r (s.nodes.drop i) i = none := by
      by_cases h : i < s.nodes.length
      · exact firstM_beyond (tell2_zero s) _ _ (by omega)
      · rw [List.drop_eq_nil_of_le (by omega)]; rfl
    rw [hq] at hF
    subst hF
    have key : decide ((i : Int) < (s.nodes.length : Int)) = false ∨ (decide ((i : Int) < (s.nodes.length : Int)) = true ∧ decide ((i : Int) < (r.length : Int)) = false) := by
      by_cases h : i < s.nodes.length
      · exact .inr ⟨decide_eq_true (by omega), decide_eq_false (by omega)⟩
      · exact .inl (decide_eq_false (by omega))
    clear hx hq
    rcases key with key | key <;> simp only [nextR2, nextRO, key, go_sem, ↓reduceIte, zA, zB, zC, zD, zE, zF, reduceCtorEq, zG, zH, zI, zJ, zK, zL, zM, zN, zO, zP]
    all_goals clear key hi
    all_goals
      refine W_loopI [1, 2, 3, 6, 7, 10] [] (fun k : Nat => k ≤ s.jobs.length ∧ tellG s r now (s.jobs.drop k) k = q3) (fun k => s.jobs.length - k) (nextR3 s r now) 0 ?_ ⟨Nat.zero_le _, hq3⟩ ?_
      · simp only [nextR3, nextRO, go_sem, ↓reduceIte, zA, zB, zC, zD, zE, zF, reduceCtorEq, zG, zH, zI, zJ, zK, zL, zM, zN, zO, zP]
        rfl
      clear hq3
      rintro k ⟨hk, hF⟩
      simp only [nextR3, nextRO, go_sem, ↓reduceIte, zA, zB, zC, zD, zE, zF, reduceCtorEq, zG, zH, zI, zJ, zK, zL, zM, zN, zO, zP]
      refine WC_split (fun h => ?_) (fun h => ?_)
      · have h : k < s.jobs.length := by have := of_decide_eq_true h; omega
        rw [List.drop_eq_getElem_cons h, tellG] at hF
        have hT := gang9_tri (G := G) s r ((k + 1 : Nat) : Int) now hl
        unfold gangO at hT
        rw [if_neg (by omega), show (((k + 1 : Nat) : Int) - 1).toNat = k by omega, show s.jobs.getD k zeroJob = s.jobs[k] by simp [List.getD, h]] at hT
        rw [show (k : Int) + 1 = ((k + 1 : Nat) : Int) from rfl] at hF
        generalize someP (gangT s r ((k + 1 : Nat) : Int) now s.jobs[k]) = p at *
        cases p with
        | none =>
          replace hF : tellG s r now (List.drop (k + 1) s.jobs) (k + 1) = q3 := hF
          replace hT : Tri Try.prog G 48 [stateV s, msgsV r, .int ((k + 1 : Nat) : Int), .int now] [] (.tup [opV zeroOp, .bool false]) [] := hT
          simp only [go_sem, ↓reduceIte, zA, zB, zC, zD, zE, zF, reduceCtorEq, zG, zH, zI, zJ, zK, zL, zM, zN, zO, zP]
          refine W_calld (hT) rfl rfl rfl rfl ?_; simp only [go_sem, ↓reduceIte, zA, zB, zC, zD, zE, zF, reduceCtorEq, zG, zH, zI, zJ, zK, zL, zM, zN, zO, zP]
          refine W_lpI (k + 1) ?_ ?_ ⟨h, hF⟩ (by omega)
          · simp only [go_sem, ↓reduceIte, zA, zB, zC, zD, zE, zF, reduceCtorEq, zG, zH, zI, zJ, zK, zL, zM, zN, zO, zP]
          · simp only [nextR3, nextRO, go_sem, ↓reduceIte, zA, zB, zC, zD, zE, zF, reduceCtorEq, zG, zH, zI, zJ, zK, zL, zM, zN, zO, zP, wrap_succ (show k + 1 < 9223372036854775807 by omega)]
        | some o =>
          replace hF : some o = q3 := hF
          subst hF
          replace hT : Tri Try.prog G 48 [stateV s, msgsV r, .int ((k + 1 : Nat) : Int), .int now] [] (.tup [opV o, .bool true]) [] := hT
          obtain ⟨o1, o2, o3, o4, o5, o6, o7⟩ := o
          simp only [go_sem, ↓reduceIte, zA, zB, zC, zD, zE, zF, reduceCtorEq, zG, zH, zI, zJ, zK, zL, zM, zN, zO, zP]
          refine W_calld (hT) rfl rfl rfl rfl ?_; simp only [go_sem, ↓reduceIte, zA, zB, zC, zD, zE, zF, reduceCtorEq, zG, zH, zI, zJ, zK, zL, zM, zN, zO, zP]
          simp only [go_sem, ↓reduceIte, zA, zB, zC, zD, zE, zF, reduceCtorEq, zG, zH, zI, zJ, zK, zL, zM, zN, zO, zP, optM, Option.getD_some, Option.isSome_some]
      · have h : k = s.jobs.length := by have := of_decide_eq_false h; omega
        subst h
        rw [List.drop_length, tellG] at hF
        subst hF
        simp only [go_sem, ↓reduceIte, zA, zB, zC, zD, zE, zF, reduceCtorEq, zG, zH, zI, zJ, zK, zL, zM, zN, zO, zP, optM, Option.getD_none, Option.isSome_none]
end Dv
