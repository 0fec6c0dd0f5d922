/- The book's work: the ops of jobs, and down. -/
import Derived.Test.YtjmceebhnjiikaaDoorD10
set_option linter.unusedVariables false
set_option linter.unusedSimpArgs false
namespace Dv
open Go Go.Proofs
open Nat renaming reduceEqDiff → zA, reduceAdd → zB, reduceSub → zC, reduceMul → zD, reduceLT → zE, reduceLeDiff → zF
open Int renaming reduceLE → zG, reduceLT → zH, reduceToNat → zI, reduceBEq → zJ, reduceBNe → zK, reduceEq → zL, reduceAdd → zM, reduceSub → zN, reduceMul → zO, reduceNeg → zP
attribute [local go_sem] argEnv W_nil W_seq W_skip W_ret W_exit W_scope W_block W_blk W_reg W_regD W_cond WC_t WC_f WC_any Wx_c Wx_ops Wx_lp Wx_blk W_ops_nil W_opsD_q W_guard W_guardD WG_tt WG_ff WG_tf WG_ft WG_u WGD_tt WGD_ff WGD_tf WGD_ft WGD_u WE_some WED_some W_mv W_pick W_new W_box W_build W_bsl W_ld1 W_ldn W_st W_nck W_bin W_eqb W_not W_cvt W_fad W_fld1 W_fldn W_ixa W_ixr W_ix1 W_ixs W_len W_lens W_mkf W_ext W_app W_min W_isnp W_isns W_eqs W_neg W_ixn W_sli W_sls WD_mv WD_pick WD_new WD_box WD_build WD_bsl WD_ld1 WD_ldn WD_st WD_nck WD_bin WD_eqb WD_not WD_cvt WD_fad WD_fld1 WD_fldn WD_ixa WD_ixr WD_ix1 WD_ixs WD_len WD_lens WD_mkf WD_ext WD_app WD_min WD_isnp WD_isns WD_eqs WD_neg WD_ixn WD_sli WD_sls effF Opd.ev getE putE binV LV.int LV.bool LV.undef Go.undef LV.cells LV.toD LV.toDs splice fillL rowsOf srcRows updL objL Eff.owned nwp St.get St.obj St.put Value.oneCell' Ends adopt Ad.ap isNil St.keep St.okKeep okObj idl idlL idlO RVs.of RV.of oneOr Ends0 EndsO_iff frzs rn rnL rnO piOf eqCells eqV boundV Option.map_some Option.map_none List.append_nil List.nil_append List.cons_append List.map_nil List.map_cons List.length_nil List.length_cons List.set_cons_zero List.set_cons_succ List.take_succ_cons List.take_zero List.take_nil List.drop_succ_cons List.drop_zero List.drop_nil List.getElem?_cons_zero List.getElem?_cons_succ List.getElem?_nil List.isEmpty_nil List.isEmpty_cons List.all_cons List.all_nil List.isEmpty_nil cond_true cond_false Bool.true_and Bool.false_and Bool.and_true Bool.and_false Bool.not_true Bool.not_false Bool.or_true Bool.true_or Bool.or_false Bool.false_or true_and and_true true_or or_true Option.some.injEq LV.d.injEq DV.val.injEq Value.bool.injEq Value.int.injEq decide_true decide_false and_self Nat.zero_add Nat.add_zero if_true if_false Int.toNat_zero beq_self_eq_true Nat.zero_lt_succ Int.toNat_natCast Int.natCast_nonneg List.length_map i64 bl List.zip_cons_cons List.zip_nil_left List.zip_nil_right nwp confV stateV nodeV jobV nodesV jobsV opV msgV nodeR jobR opR msgR zeroOp zeroMsg msgsV
variable {G : Nat → Option (List DV)}

theorem runs_tri (c : ConfD) (s : StateD) (o : OpD) (k : Nat) (hk : k < s.jobs.length) (ha : o.a = k + 1) : Tri Tryd.prog G 105 [.ptr 0 0] (workO c s o (.rp 2 s.jobs.length 12 k 0) noP) (.bool (runsB (jobA s o.a))) (workO c s o (.rp 2 s.jobs.length 12 k 0) noP) := by
  refine tri_WP Tryd.func105 (by decide) irOk105 (Nat.le_of_ble_eq_true rfl) rfl rfl rfl ?_
  simp only [ir105, go_sem, ↓reduceIte, zA, zB, zC, zD, zE, zF, reduceCtorEq, zG, zH, zI, zJ, zK, zL, zM, zN, zO, zP]
  have hg := get_mapD (f := jobR) zeroJob hk
  have ha2 : (o.a - 1).toNat = k := by omega
  have hJ : jobA s o.a = s.jobs.getD k zeroJob := by unfold jobA; rw [ha2]
  generalize s.jobs.getD k zeroJob = j at *
  simp only [hg, go_sem, ↓reduceIte, zA, zB, zC, zD, zE, zF, reduceCtorEq, zG, zH, zI, zJ, zK, zL, zM, zN, zO, zP]
  refine WG_split (fun h => ?_) (fun h => ?_) <;> simp only [h, go_sem, ↓reduceIte, zA, zB, zC, zD, zE, zF, reduceCtorEq, zG, zH, zI, zJ, zK, zL, zM, zN, zO, zP] <;> (try simp only [beq_iff_eq, beq_eq_false_iff_ne, bne_iff_ne, ne_eq, decide_eq_true_eq, decide_eq_false_iff_not, Bool.not_true, Bool.not_false, Bool.not_eq_true, Bool.not_eq_false, bne_eq_false_iff_eq, Decidable.not_not] at h)
  · have e1 : (j.phase == 2) = false := by simpa using h
    simp only [hg, hJ, runsB, h, e1, go_sem, ↓reduceIte, zA, zB, zC, zD, zE, zF, reduceCtorEq, zG, zH, zI, zJ, zK, zL, zM, zN, zO, zP]
    rfl
  · have e1 : (j.phase == 2) = true := by simpa using h
    simp only [hJ, runsB, h, e1, go_sem, ↓reduceIte, zA, zB, zC, zD, zE, zF, reduceCtorEq, zG, zH, zI, zJ, zK, zL, zM, zN, zO, zP]
theorem cancel_tri (c : ConfD) (s : StateD) (o : OpD) (k : Nat) (hk : k < s.jobs.length) (ha : o.a = k + 1) (hn : s.nodes.length ≤ 1000) (hj : s.jobs.length ≤ 1000) : Tri Tryd.prog G 72 [.ptr 0 0] (workO c s o (.rp 2 s.jobs.length 12 k 0) noP) (.int (cancelD s o).2) (workO c (cancelD s o).1 o (.rp 2 s.jobs.length 12 k 0) noP) := by
  refine tri_WP Tryd.func72 (by decide) irOk72 (Nat.le_of_ble_eq_true rfl) rfl rfl rfl ?_
  simp only [ir72, go_sem, ↓reduceIte, zA, zB, zC, zD, zE, zF, reduceCtorEq, zG, zH, zI, zJ, zK, zL, zM, zN, zO, zP]
  have hg := get_mapD (f := jobR) zeroJob hk
  have ha2 : (o.a - 1).toNat = k := by omega
  have hJ : jobA s o.a = s.jobs.getD k zeroJob := by unfold jobA; rw [ha2]
  generalize s.jobs.getD k zeroJob = j at *
  simp only [hg, go_sem, ↓reduceIte, zA, zB, zC, zD, zE, zF, reduceCtorEq, zG, zH, zI, zJ, zK, zL, zM, zN, zO, zP]
  refine WC_split (fun h => ?_) (fun h => ?_) <;> simp only [h, go_sem, ↓reduceIte, zA, zB, zC, zD, zE, zF, reduceCtorEq, zG, zH, zI, zJ, zK, zL, zM, zN, zO, zP] <;> (try simp only [beq_iff_eq, beq_eq_false_iff_ne, bne_iff_ne, ne_eq, decide_eq_true_eq, decide_eq_false_iff_not, Bool.not_true, Bool.not_false, Bool.not_eq_true, Bool.not_eq_false, bne_eq_false_iff_eq, Decidable.not_not] at h)
  · simp only [cancelD, h, setJ, hJ, ha2, List.map_set, List.length_set, List.set_set, go_sem, ↓reduceIte, zA, zB, zC, zD, zE, zF, reduceCtorEq, zG, zH, zI, zJ, zK, zL, zM, zN, zO, zP, Bool.true_eq_false, Bool.false_eq_true, ne_eq, not_true, not_false_eq_true, or_self]
  · refine W_callo [0, 1, 2] (release_tri c s o (.rp 2 s.jobs.length 12 k 0) noP o.a 4 rfl rfl (by omega) (by omega) hn hj) rfl (by simp only [argRs, argR, List.map_cons, List.map_nil, go_sem, ↓reduceIte, zA, zB, zC, zD, zE, zF, reduceCtorEq, zG, zH, zI, zJ, zK, zL, zM, zN, zO, zP, workO]) (by decide) (by simp only [go_sem, ↓reduceIte, zA, zB, zC, zD, zE, zF, reduceCtorEq, zG, zH, zI, zJ, zK, zL, zM, zN, zO, zP, workO]) (by simp only [go_sem, ↓reduceIte, zA, zB, zC, zD, zE, zF, reduceCtorEq, zG, zH, zI, zJ, zK, zL, zM, zN, zO, zP, List.all_cons, List.all_nil, workO]) (by simp) ?_; simp only [go_sem, ↓reduceIte, zA, zB, zC, zD, zE, zF, reduceCtorEq, zG, zH, zI, zJ, zK, zL, zM, zN, zO, zP, workO]
    simp only [cancelD, h, setJ, hJ, ha2, List.map_set, List.length_set, List.set_set, go_sem, ↓reduceIte, zA, zB, zC, zD, zE, zF, reduceCtorEq, zG, zH, zI, zJ, zK, zL, zM, zN, zO, zP, Bool.true_eq_false, Bool.false_eq_true, ne_eq, not_true, not_false_eq_true, or_self]
theorem unhold_tri (c : ConfD) (s : StateD) (o : OpD) (k : Nat) (hk : k < s.jobs.length) (ha : o.a = k + 1) (hn : s.nodes.length ≤ 1000) (hj : s.jobs.length ≤ 1000) : Tri Tryd.prog G 81 [.ptr 0 0] (workO c s o (.rp 2 s.jobs.length 12 k 0) noP) (.int (unholdD s o).2) (workO c (unholdD s o).1 o (.rp 2 s.jobs.length 12 k 0) noP) := by
  refine tri_WP Tryd.func81 (by decide) irOk81 (Nat.le_of_ble_eq_true rfl) rfl rfl rfl ?_
  simp only [ir81, go_sem, ↓reduceIte, zA, zB, zC, zD, zE, zF, reduceCtorEq, zG, zH, zI, zJ, zK, zL, zM, zN, zO, zP]
  have hg := get_mapD (f := jobR) zeroJob hk
  have ha2 : (o.a - 1).toNat = k := by omega
  have hJ : jobA s o.a = s.jobs.getD k zeroJob := by unfold jobA; rw [ha2]
  generalize s.jobs.getD k zeroJob = j at *
  simp only [hg, go_sem, ↓reduceIte, zA, zB, zC, zD, zE, zF, reduceCtorEq, zG, zH, zI, zJ, zK, zL, zM, zN, zO, zP]
  refine WC_split (fun h => ?_) (fun h => ?_) <;> simp only [h, go_sem, ↓reduceIte, zA, zB, zC, zD, zE, zF, reduceCtorEq, zG, zH, zI, zJ, zK, zL, zM, zN, zO, zP] <;> (try simp only [beq_iff_eq, beq_eq_false_iff_ne, bne_iff_ne, ne_eq, decide_eq_true_eq, decide_eq_false_iff_not, Bool.not_true, Bool.not_false, Bool.not_eq_true, Bool.not_eq_false, bne_eq_false_iff_eq, Decidable.not_not] at h)
  · simp only [unholdD, h, setJ, hJ, ha2, List.map_set, List.length_set, List.set_set, go_sem, ↓reduceIte, zA, zB, zC, zD, zE, zF, reduceCtorEq, zG, zH, zI, zJ, zK, zL, zM, zN, zO, zP, Bool.true_eq_false, Bool.false_eq_true, ne_eq, not_true, not_false_eq_true, or_self]
  · refine W_callo [0, 1, 2] (release_tri c s o (.rp 2 s.jobs.length 12 k 0) noP o.a 0 rfl rfl (by omega) (by omega) hn hj) rfl (by simp only [argRs, argR, List.map_cons, List.map_nil, go_sem, ↓reduceIte, zA, zB, zC, zD, zE, zF, reduceCtorEq, zG, zH, zI, zJ, zK, zL, zM, zN, zO, zP, workO]) (by decide) (by simp only [go_sem, ↓reduceIte, zA, zB, zC, zD, zE, zF, reduceCtorEq, zG, zH, zI, zJ, zK, zL, zM, zN, zO, zP, workO]) (by simp only [go_sem, ↓reduceIte, zA, zB, zC, zD, zE, zF, reduceCtorEq, zG, zH, zI, zJ, zK, zL, zM, zN, zO, zP, List.all_cons, List.all_nil, workO]) (by simp) ?_; simp only [go_sem, ↓reduceIte, zA, zB, zC, zD, zE, zF, reduceCtorEq, zG, zH, zI, zJ, zK, zL, zM, zN, zO, zP, workO]
    simp only [unholdD, h, setJ, hJ, ha2, List.map_set, List.length_set, List.set_set, go_sem, ↓reduceIte, zA, zB, zC, zD, zE, zF, reduceCtorEq, zG, zH, zI, zJ, zK, zL, zM, zN, zO, zP, Bool.true_eq_false, Bool.false_eq_true, ne_eq, not_true, not_false_eq_true, or_self]
theorem evict_tri (c : ConfD) (s : StateD) (o : OpD) (k : Nat) (hk : k < s.jobs.length) (ha : o.a = k + 1) (hn : s.nodes.length ≤ 1000) (hj : s.jobs.length ≤ 1000) : Tri Tryd.prog G 84 [.ptr 0 0] (workO c s o (.rp 2 s.jobs.length 12 k 0) noP) (.int (evictD s o).2) (workO c (evictD s o).1 o (.rp 2 s.jobs.length 12 k 0) noP) := by
  refine tri_WP Tryd.func84 (by decide) irOk84 (Nat.le_of_ble_eq_true rfl) rfl rfl rfl ?_
  simp only [ir84, go_sem, ↓reduceIte, zA, zB, zC, zD, zE, zF, reduceCtorEq, zG, zH, zI, zJ, zK, zL, zM, zN, zO, zP]
  have hg := get_mapD (f := jobR) zeroJob hk
  have ha2 : (o.a - 1).toNat = k := by omega
  have hJ : jobA s o.a = s.jobs.getD k zeroJob := by unfold jobA; rw [ha2]
  generalize s.jobs.getD k zeroJob = j at *
  simp only [hg, go_sem, ↓reduceIte, zA, zB, zC, zD, zE, zF, reduceCtorEq, zG, zH, zI, zJ, zK, zL, zM, zN, zO, zP]
  refine WC_split (fun h => ?_) (fun h => ?_) <;> simp only [h, go_sem, ↓reduceIte, zA, zB, zC, zD, zE, zF, reduceCtorEq, zG, zH, zI, zJ, zK, zL, zM, zN, zO, zP] <;> (try simp only [beq_iff_eq, beq_eq_false_iff_ne, bne_iff_ne, ne_eq, decide_eq_true_eq, decide_eq_false_iff_not, Bool.not_true, Bool.not_false, Bool.not_eq_true, Bool.not_eq_false, bne_eq_false_iff_eq, Decidable.not_not] at h)
  · simp only [evictD, h, setJ, hJ, ha2, List.map_set, List.length_set, List.set_set, go_sem, ↓reduceIte, zA, zB, zC, zD, zE, zF, reduceCtorEq, zG, zH, zI, zJ, zK, zL, zM, zN, zO, zP, Bool.true_eq_false, Bool.false_eq_true, ne_eq, not_true, not_false_eq_true, or_self]
  · refine W_callo [0, 1, 2] (release_tri c s o (.rp 2 s.jobs.length 12 k 0) noP o.a 0 rfl rfl (by omega) (by omega) hn hj) rfl (by simp only [argRs, argR, List.map_cons, List.map_nil, go_sem, ↓reduceIte, zA, zB, zC, zD, zE, zF, reduceCtorEq, zG, zH, zI, zJ, zK, zL, zM, zN, zO, zP, workO]) (by decide) (by simp only [go_sem, ↓reduceIte, zA, zB, zC, zD, zE, zF, reduceCtorEq, zG, zH, zI, zJ, zK, zL, zM, zN, zO, zP, workO]) (by simp only [go_sem, ↓reduceIte, zA, zB, zC, zD, zE, zF, reduceCtorEq, zG, zH, zI, zJ, zK, zL, zM, zN, zO, zP, List.all_cons, List.all_nil, workO]) (by simp) ?_; simp only [go_sem, ↓reduceIte, zA, zB, zC, zD, zE, zF, reduceCtorEq, zG, zH, zI, zJ, zK, zL, zM, zN, zO, zP, workO]
    simp only [evictD, h, setJ, hJ, ha2, List.map_set, List.length_set, List.set_set, go_sem, ↓reduceIte, zA, zB, zC, zD, zE, zF, reduceCtorEq, zG, zH, zI, zJ, zK, zL, zM, zN, zO, zP, Bool.true_eq_false, Bool.false_eq_true, ne_eq, not_true, not_false_eq_true, or_self]
theorem done_tri9 (c : ConfD) (s : StateD) (o : OpD) (k : Nat) (hk : k < s.jobs.length) (ha : o.a = k + 1) (hn : s.nodes.length ≤ 1000) (hj : s.jobs.length ≤ 1000) : Tri Tryd.prog G 85 [.ptr 0 0] (workO c s o (.rp 2 s.jobs.length 12 k 0) noP) (.int (doneD s o).2) (workO c (doneD s o).1 o (.rp 2 s.jobs.length 12 k 0) noP) := by
  refine tri_WP Tryd.func85 (by decide) irOk85 (Nat.le_of_ble_eq_true rfl) rfl rfl rfl ?_
  simp only [ir85, go_sem, ↓reduceIte, zA, zB, zC, zD, zE, zF, reduceCtorEq, zG, zH, zI, zJ, zK, zL, zM, zN, zO, zP]
  have hg := get_mapD (f := jobR) zeroJob hk
  have ha2 : (o.a - 1).toNat = k := by omega
  have hJ : jobA s o.a = s.jobs.getD k zeroJob := by unfold jobA; rw [ha2]
  generalize s.jobs.getD k zeroJob = j at *
  refine W_callo [0, 1, 2] (runs_tri c s o k hk ha) rfl (by simp only [argRs, argR, List.map_cons, List.map_nil, go_sem, ↓reduceIte, zA, zB, zC, zD, zE, zF, reduceCtorEq, zG, zH, zI, zJ, zK, zL, zM, zN, zO, zP, workO]) (by decide) (by simp only [go_sem, ↓reduceIte, zA, zB, zC, zD, zE, zF, reduceCtorEq, zG, zH, zI, zJ, zK, zL, zM, zN, zO, zP, workO]) (by simp only [go_sem, ↓reduceIte, zA, zB, zC, zD, zE, zF, reduceCtorEq, zG, zH, zI, zJ, zK, zL, zM, zN, zO, zP, List.all_cons, List.all_nil, workO]) (by simp) ?_; simp only [go_sem, ↓reduceIte, zA, zB, zC, zD, zE, zF, reduceCtorEq, zG, zH, zI, zJ, zK, zL, zM, zN, zO, zP, workO]
  simp only [hJ]
  cases h : runsB j with
  | false => simp only [go_sem, ↓reduceIte, zA, zB, zC, zD, zE, zF, reduceCtorEq, zG, zH, zI, zJ, zK, zL, zM, zN, zO, zP]; simp only [doneD, h, setJ, hJ, ha2, List.map_set, List.length_set, List.set_set, go_sem, ↓reduceIte, zA, zB, zC, zD, zE, zF, reduceCtorEq, zG, zH, zI, zJ, zK, zL, zM, zN, zO, zP, Bool.true_eq_false, Bool.false_eq_true, ne_eq, not_true, not_false_eq_true, or_self]
  | true =>
    simp only [go_sem, ↓reduceIte, zA, zB, zC, zD, zE, zF, reduceCtorEq, zG, zH, zI, zJ, zK, zL, zM, zN, zO, zP]
    refine W_callo [0, 1, 2] (release_tri c s o (.rp 2 s.jobs.length 12 k 0) noP o.a 4 rfl rfl (by omega) (by omega) hn hj) rfl (by simp only [argRs, argR, List.map_cons, List.map_nil, go_sem, ↓reduceIte, zA, zB, zC, zD, zE, zF, reduceCtorEq, zG, zH, zI, zJ, zK, zL, zM, zN, zO, zP, workO]) (by decide) (by simp only [go_sem, ↓reduceIte, zA, zB, zC, zD, zE, zF, reduceCtorEq, zG, zH, zI, zJ, zK, zL, zM, zN, zO, zP, workO]) (by simp only [go_sem, ↓reduceIte, zA, zB, zC, zD, zE, zF, reduceCtorEq, zG, zH, zI, zJ, zK, zL, zM, zN, zO, zP, List.all_cons, List.all_nil, workO]) (by simp) ?_; simp only [go_sem, ↓reduceIte, zA, zB, zC, zD, zE, zF, reduceCtorEq, zG, zH, zI, zJ, zK, zL, zM, zN, zO, zP, workO]
    simp only [doneD, h, setJ, hJ, ha2, List.map_set, List.length_set, List.set_set, go_sem, ↓reduceIte, zA, zB, zC, zD, zE, zF, reduceCtorEq, zG, zH, zI, zJ, zK, zL, zM, zN, zO, zP, Bool.true_eq_false, Bool.false_eq_true, ne_eq, not_true, not_false_eq_true, or_self]
theorem start_tri (c : ConfD) (s : StateD) (o : OpD) (k : Nat) (hk : k < s.jobs.length) (ha : o.a = k + 1) : Tri Tryd.prog G 80 [.ptr 0 0] (workO c s o (.rp 2 s.jobs.length 12 k 0) noP) (.int (startD s o).2) (workO c (startD s o).1 o (.rp 2 s.jobs.length 12 k 0) noP) := by
  refine tri_WP Tryd.func80 (by decide) irOk80 (Nat.le_of_ble_eq_true rfl) rfl rfl rfl ?_
  simp only [ir80, go_sem, ↓reduceIte, zA, zB, zC, zD, zE, zF, reduceCtorEq, zG, zH, zI, zJ, zK, zL, zM, zN, zO, zP]
  have hg := get_mapD (f := jobR) zeroJob hk
  have ha2 : (o.a - 1).toNat = k := by omega
  have hJ : jobA s o.a = s.jobs.getD k zeroJob := by unfold jobA; rw [ha2]
  generalize s.jobs.getD k zeroJob = j at *
  simp only [hg, go_sem, ↓reduceIte, zA, zB, zC, zD, zE, zF, reduceCtorEq, zG, zH, zI, zJ, zK, zL, zM, zN, zO, zP]
  refine WC_split (fun h => ?_) (fun h => ?_) <;> simp only [h, go_sem, ↓reduceIte, zA, zB, zC, zD, zE, zF, reduceCtorEq, zG, zH, zI, zJ, zK, zL, zM, zN, zO, zP] <;> (try simp only [beq_iff_eq, beq_eq_false_iff_ne, bne_iff_ne, ne_eq, decide_eq_true_eq, decide_eq_false_iff_not, Bool.not_true, Bool.not_false, Bool.not_eq_true, Bool.not_eq_false, bne_eq_false_iff_eq, Decidable.not_not] at h)
  · simp only [startD, h, setJ, hJ, ha2, List.map_set, List.length_set, List.set_set, go_sem, ↓reduceIte, zA, zB, zC, zD, zE, zF, reduceCtorEq, zG, zH, zI, zJ, zK, zL, zM, zN, zO, zP, Bool.true_eq_false, Bool.false_eq_true, ne_eq, not_true, not_false_eq_true, or_self]
  · simp only [hg, hk, List.getElem?_set_self, List.length_map, List.length_set, go_sem, ↓reduceIte, zA, zB, zC, zD, zE, zF, reduceCtorEq, zG, zH, zI, zJ, zK, zL, zM, zN, zO, zP]
    refine W_opsD_end rfl ?_
    simp only [startD, h, setJ, hJ, ha2, List.map_set, List.length_set, List.set_set, go_sem, ↓reduceIte, zA, zB, zC, zD, zE, zF, reduceCtorEq, zG, zH, zI, zJ, zK, zL, zM, zN, zO, zP, Bool.true_eq_false, Bool.false_eq_true, ne_eq, not_true, not_false_eq_true, or_self]
theorem saved_tri (c : ConfD) (s : StateD) (o : OpD) (k : Nat) (hk : k < s.jobs.length) (ha : o.a = k + 1) : Tri Tryd.prog G 83 [.ptr 0 0] (workO c s o (.rp 2 s.jobs.length 12 k 0) noP) (.int (savedD s o).2) (workO c (savedD s o).1 o (.rp 2 s.jobs.length 12 k 0) noP) := by
  refine tri_WP Tryd.func83 (by decide) irOk83 (Nat.le_of_ble_eq_true rfl) rfl rfl rfl ?_
  simp only [ir83, go_sem, ↓reduceIte, zA, zB, zC, zD, zE, zF, reduceCtorEq, zG, zH, zI, zJ, zK, zL, zM, zN, zO, zP]
  have hg := get_mapD (f := jobR) zeroJob hk
  have ha2 : (o.a - 1).toNat = k := by omega
  have hJ : jobA s o.a = s.jobs.getD k zeroJob := by unfold jobA; rw [ha2]
  generalize s.jobs.getD k zeroJob = j at *
  refine W_callo [0, 1, 2] (runs_tri c s o k hk ha) rfl (by simp only [argRs, argR, List.map_cons, List.map_nil, go_sem, ↓reduceIte, zA, zB, zC, zD, zE, zF, reduceCtorEq, zG, zH, zI, zJ, zK, zL, zM, zN, zO, zP, workO]) (by decide) (by simp only [go_sem, ↓reduceIte, zA, zB, zC, zD, zE, zF, reduceCtorEq, zG, zH, zI, zJ, zK, zL, zM, zN, zO, zP, workO]) (by simp only [go_sem, ↓reduceIte, zA, zB, zC, zD, zE, zF, reduceCtorEq, zG, zH, zI, zJ, zK, zL, zM, zN, zO, zP, List.all_cons, List.all_nil, workO]) (by simp) ?_; simp only [go_sem, ↓reduceIte, zA, zB, zC, zD, zE, zF, reduceCtorEq, zG, zH, zI, zJ, zK, zL, zM, zN, zO, zP, workO]
  simp only [hJ]
  cases h : runsB j with
  | false => simp only [go_sem, ↓reduceIte, zA, zB, zC, zD, zE, zF, reduceCtorEq, zG, zH, zI, zJ, zK, zL, zM, zN, zO, zP]; simp only [savedD, h, setJ, hJ, ha2, List.map_set, List.length_set, List.set_set, go_sem, ↓reduceIte, zA, zB, zC, zD, zE, zF, reduceCtorEq, zG, zH, zI, zJ, zK, zL, zM, zN, zO, zP, Bool.true_eq_false, Bool.false_eq_true, ne_eq, not_true, not_false_eq_true, or_self]
  | true =>
    simp only [hg, go_sem, ↓reduceIte, zA, zB, zC, zD, zE, zF, reduceCtorEq, zG, zH, zI, zJ, zK, zL, zM, zN, zO, zP]
    refine WGD_split (fun h1 => ?_) (fun h1 => ?_) <;> simp only [h1, go_sem, ↓reduceIte, zA, zB, zC, zD, zE, zF, reduceCtorEq, zG, zH, zI, zJ, zK, zL, zM, zN, zO, zP] <;> (try simp only [beq_iff_eq, beq_eq_false_iff_ne, bne_iff_ne, ne_eq, decide_eq_true_eq, decide_eq_false_iff_not, Bool.not_true, Bool.not_false, Bool.not_eq_true, Bool.not_eq_false, bne_eq_false_iff_eq, Decidable.not_not] at h1)
    · simp only [hg, go_sem, ↓reduceIte, zA, zB, zC, zD, zE, zF, reduceCtorEq, zG, zH, zI, zJ, zK, zL, zM, zN, zO, zP]
      rw [h1]
      refine WC_split (fun h2 => ?_) (fun h2 => ?_) <;> simp only [h2, go_sem, ↓reduceIte, zA, zB, zC, zD, zE, zF, reduceCtorEq, zG, zH, zI, zJ, zK, zL, zM, zN, zO, zP] <;> (try simp only [beq_iff_eq, beq_eq_false_iff_ne, bne_iff_ne, ne_eq, decide_eq_true_eq, decide_eq_false_iff_not, Bool.not_true, Bool.not_false, Bool.not_eq_true, Bool.not_eq_false, bne_eq_false_iff_eq, Decidable.not_not] at h2)
      · simp only [savedD, h, h1, h2, or_true, true_or, setJ, hJ, ha2, List.map_set, List.length_set, List.set_set, go_sem, ↓reduceIte, zA, zB, zC, zD, zE, zF, reduceCtorEq, zG, zH, zI, zJ, zK, zL, zM, zN, zO, zP, Bool.true_eq_false, Bool.false_eq_true, ne_eq, not_true, not_false_eq_true, or_self]
      · simp only [hg, go_sem, ↓reduceIte, zA, zB, zC, zD, zE, zF, reduceCtorEq, zG, zH, zI, zJ, zK, zL, zM, zN, zO, zP]
        refine W_opsD_end rfl ?_
        simp only [savedD, h, h1, h2, or_true, true_or, setJ, hJ, ha2, List.map_set, List.length_set, List.set_set, go_sem, ↓reduceIte, zA, zB, zC, zD, zE, zF, reduceCtorEq, zG, zH, zI, zJ, zK, zL, zM, zN, zO, zP, Bool.true_eq_false, Bool.false_eq_true, ne_eq, not_true, not_false_eq_true, or_self]
    · simp only [savedD, h, h1, or_true, true_or, setJ, hJ, ha2, List.map_set, List.length_set, List.set_set, go_sem, ↓reduceIte, zA, zB, zC, zD, zE, zF, reduceCtorEq, zG, zH, zI, zJ, zK, zL, zM, zN, zO, zP, Bool.true_eq_false, Bool.false_eq_true, ne_eq, not_true, not_false_eq_true, or_self]
theorem drain_tri9 (c : ConfD) (s : StateD) (o : OpD) (k : Nat) (hk : k < s.jobs.length) (ha : o.a = k + 1) (hj : s.jobs.length ≤ 1000) : Tri Tryd.prog G 82 [.ptr 0 0] (workO c s o (.rp 2 s.jobs.length 12 k 0) noP) (.int (drainD c s o).2) (workO c (drainD c s o).1 o (.rp 2 s.jobs.length 12 k 0) noP) := by
  refine tri_WP Tryd.func82 (by decide) irOk82 (Nat.le_of_ble_eq_true rfl) rfl rfl rfl ?_
  simp only [ir82, go_sem, ↓reduceIte, zA, zB, zC, zD, zE, zF, reduceCtorEq, zG, zH, zI, zJ, zK, zL, zM, zN, zO, zP]
  have hg := get_mapD (f := jobR) zeroJob hk
  have ha2 : (o.a - 1).toNat = k := by omega
  have hJ : jobA s o.a = s.jobs.getD k zeroJob := by unfold jobA; rw [ha2]
  generalize s.jobs.getD k zeroJob = j at *
  simp only [hg, go_sem, ↓reduceIte, zA, zB, zC, zD, zE, zF, reduceCtorEq, zG, zH, zI, zJ, zK, zL, zM, zN, zO, zP]
  refine WC_split (fun h => ?_) (fun h => ?_) <;> simp only [h, go_sem, ↓reduceIte, zA, zB, zC, zD, zE, zF, reduceCtorEq, zG, zH, zI, zJ, zK, zL, zM, zN, zO, zP] <;> (try simp only [beq_iff_eq, beq_eq_false_iff_ne, bne_iff_ne, ne_eq, decide_eq_true_eq, decide_eq_false_iff_not, Bool.not_true, Bool.not_false, Bool.not_eq_true, Bool.not_eq_false, bne_eq_false_iff_eq, Decidable.not_not] at h)
  · simp only [drainD, h, setJ, hJ, ha2, List.map_set, List.length_set, List.set_set, go_sem, ↓reduceIte, zA, zB, zC, zD, zE, zF, reduceCtorEq, zG, zH, zI, zJ, zK, zL, zM, zN, zO, zP, Bool.true_eq_false, Bool.false_eq_true, ne_eq, not_true, not_false_eq_true, or_self]
  · simp only [hg, go_sem, ↓reduceIte, zA, zB, zC, zD, zE, zF, reduceCtorEq, zG, zH, zI, zJ, zK, zL, zM, zN, zO, zP]
    refine WD_callz [1, 2] (drains_tri s j.queue (by omega)) rfl (by simp [argRs, argR, rowsAt, objL, List.take_of_length_le, go_sem, ↓reduceIte, zA, zB, zC, zD, zE, zF, reduceCtorEq, zG, zH, zI, zJ, zK, zL, zM, zN, zO, zP]) (by simp [objL]) rfl rfl ?_; simp only [go_sem, ↓reduceIte, zA, zB, zC, zD, zE, zF, reduceCtorEq, zG, zH, zI, zJ, zK, zL, zM, zN, zO, zP]
    refine WC_split (fun h2 => ?_) (fun h2 => ?_) <;> simp only [h2, go_sem, ↓reduceIte, zA, zB, zC, zD, zE, zF, reduceCtorEq, zG, zH, zI, zJ, zK, zL, zM, zN, zO, zP] <;> (try simp only [beq_iff_eq, beq_eq_false_iff_ne, bne_iff_ne, ne_eq, decide_eq_true_eq, decide_eq_false_iff_not, Bool.not_true, Bool.not_false, Bool.not_eq_true, Bool.not_eq_false, bne_eq_false_iff_eq, Decidable.not_not] at h2)
    · simp only [drainD, h, h2, ge_iff_le, setJ, hJ, ha2, List.map_set, List.length_set, List.set_set, go_sem, ↓reduceIte, zA, zB, zC, zD, zE, zF, reduceCtorEq, zG, zH, zI, zJ, zK, zL, zM, zN, zO, zP, Bool.true_eq_false, Bool.false_eq_true, ne_eq, not_true, not_false_eq_true, or_self]
    · simp only [hg, hk, List.getElem?_set_self, List.length_map, List.length_set, go_sem, ↓reduceIte, zA, zB, zC, zD, zE, zF, reduceCtorEq, zG, zH, zI, zJ, zK, zL, zM, zN, zO, zP]
      refine W_opsD_end rfl ?_
      simp only [drainD, h, h2, ge_iff_le, setJ, hJ, ha2, List.map_set, List.length_set, List.set_set, go_sem, ↓reduceIte, zA, zB, zC, zD, zE, zF, reduceCtorEq, zG, zH, zI, zJ, zK, zL, zM, zN, zO, zP, Bool.true_eq_false, Bool.false_eq_true, ne_eq, not_true, not_false_eq_true, or_self]
theorem down_tri (c : ConfD) (s : StateD) (o : OpD) (i : Nat) (hi : i < s.nodes.length) (ha : o.a = i) (hn : s.nodes.length ≤ 1000) (hj : s.jobs.length ≤ 1000) (hb : 0 ≤ (nodeA s o.a).job ∧ (nodeA s o.a).job ≤ s.jobs.length) :
    Tri Tryd.prog G 77 [.ptr 0 0] (workO c s o noP (.rp 1 s.nodes.length 5 i 0)) (.int (downD s o).2) (workO c (downD s o).1 o noP (.rp 1 s.nodes.length 5 i 0)) := by
  refine tri_WP Tryd.func77 (by decide) irOk77 (Nat.le_of_ble_eq_true rfl) rfl rfl rfl ?_
  simp only [ir77, go_sem, ↓reduceIte, zA, zB, zC, zD, zE, zF, reduceCtorEq, zG, zH, zI, zJ, zK, zL, zM, zN, zO, zP]
  have hg := get_mapD (f := nodeR) zeroNode hi
  have ha2 : o.a.toNat = i := by omega
  have hN : nodeA s o.a = s.nodes.getD i zeroNode := by unfold nodeA; rw [ha2]
  generalize s.nodes.getD i zeroNode = n at *
  rw [hN] at hb
  cases hu : n.up with
  | false => simp only [hg, hu, go_sem, ↓reduceIte, zA, zB, zC, zD, zE, zF, reduceCtorEq, zG, zH, zI, zJ, zK, zL, zM, zN, zO, zP]; simp only [downD, hu, setN, hN, ha2, List.map_set, List.length_set, List.set_set, go_sem, ↓reduceIte, zA, zB, zC, zD, zE, zF, reduceCtorEq, zG, zH, zI, zJ, zK, zL, zM, zN, zO, zP, Bool.true_eq_false, Bool.false_eq_true, ne_eq, not_true, not_false_eq_true, or_self]
  | true =>
    simp only [hg, hu, go_sem, ↓reduceIte, zA, zB, zC, zD, zE, zF, reduceCtorEq, zG, zH, zI, zJ, zK, zL, zM, zN, zO, zP]
    refine WC_split (fun h => ?_) (fun h => ?_) <;> simp only [h, go_sem, ↓reduceIte, zA, zB, zC, zD, zE, zF, reduceCtorEq, zG, zH, zI, zJ, zK, zL, zM, zN, zO, zP] <;> (try simp only [beq_iff_eq, beq_eq_false_iff_ne, bne_iff_ne, ne_eq, decide_eq_true_eq, decide_eq_false_iff_not, Bool.not_true, Bool.not_false, Bool.not_eq_true, Bool.not_eq_false, bne_eq_false_iff_eq, Decidable.not_not] at h)
    · simp only [hg, go_sem, ↓reduceIte, zA, zB, zC, zD, zE, zF, reduceCtorEq, zG, zH, zI, zJ, zK, zL, zM, zN, zO, zP]
      refine W_callo [0, 1, 2] (release_tri c s o noP (.rp 1 s.nodes.length 5 i 0) n.job 0 rfl rfl (by omega) (by omega) hn hj) rfl (by simp only [argRs, argR, List.map_cons, List.map_nil, go_sem, ↓reduceIte, zA, zB, zC, zD, zE, zF, reduceCtorEq, zG, zH, zI, zJ, zK, zL, zM, zN, zO, zP, workO]) (by decide) (by simp only [go_sem, ↓reduceIte, zA, zB, zC, zD, zE, zF, reduceCtorEq, zG, zH, zI, zJ, zK, zL, zM, zN, zO, zP, workO]) (by simp only [go_sem, ↓reduceIte, zA, zB, zC, zD, zE, zF, reduceCtorEq, zG, zH, zI, zJ, zK, zL, zM, zN, zO, zP, List.all_cons, List.all_nil, workO]) (by simp) ?_; simp only [go_sem, ↓reduceIte, zA, zB, zC, zD, zE, zF, reduceCtorEq, zG, zH, zI, zJ, zK, zL, zM, zN, zO, zP, workO]
      have hg2 : ((releaseD s n.job 0).nodes.map nodeR)[i]? = some (nodeR (nodeA (releaseD s n.job 0) o.a)) := by
        unfold nodeA; rw [ha2]; exact get_mapD zeroNode (by simp [releaseD]; exact hi)
      have hl : (releaseD s n.job 0).nodes.length = s.nodes.length := by simp [releaseD]
      have hi2 : i < (releaseD s n.job 0).nodes.length := by omega
      generalize hm : nodeA (releaseD s n.job 0) o.a = m at *
      simp only [hg2, hl, hi, List.getElem?_set_self, List.length_map, List.length_set, go_sem, ↓reduceIte, zA, zB, zC, zD, zE, zF, reduceCtorEq, zG, zH, zI, zJ, zK, zL, zM, zN, zO, zP]
      refine W_opsD_end rfl ?_
      simp only [downD, hu, h, hm, hl, setN, hN, ha2, List.map_set, List.length_set, List.set_set, go_sem, ↓reduceIte, zA, zB, zC, zD, zE, zF, reduceCtorEq, zG, zH, zI, zJ, zK, zL, zM, zN, zO, zP, Bool.true_eq_false, Bool.false_eq_true, ne_eq, not_true, not_false_eq_true, or_self]
    · simp only [hg, hi, List.getElem?_set_self, List.length_map, List.length_set, go_sem, ↓reduceIte, zA, zB, zC, zD, zE, zF, reduceCtorEq, zG, zH, zI, zJ, zK, zL, zM, zN, zO, zP]
      refine W_opsD_end rfl ?_
      simp only [downD, hu, h, setN, hN, ha2, List.map_set, List.length_set, List.set_set, go_sem, ↓reduceIte, zA, zB, zC, zD, zE, zF, reduceCtorEq, zG, zH, zI, zJ, zK, zL, zM, zN, zO, zP, Bool.true_eq_false, Bool.false_eq_true, ne_eq, not_true, not_false_eq_true, or_self]
end Dv
