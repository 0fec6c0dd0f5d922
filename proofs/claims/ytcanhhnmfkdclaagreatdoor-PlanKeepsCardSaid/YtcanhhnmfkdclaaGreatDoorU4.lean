/- plan.Run: the copy, as data. -/
import Derived.Test.YtcanhhnmfkdclaaGreatDoorU3
import Derived.Test.YtcanhhnmfkdclaaGreatDoorD7
set_option linter.unusedVariables false
set_option linter.unusedSimpArgs false
namespace Dv
open Go Go.Proofs
open Nat renaming reduceEqDiff → zA, reduceAdd → zB, reduceSub → zC, reduceMul → zD, reduceLT → zE, reduceLeDiff → zF
open Int renaming reduceLE → zG, reduceLT → zH, reduceToNat → zI, reduceBEq → zJ, reduceBNe → zK, reduceEq → zL, reduceAdd → zM, reduceSub → zN, reduceMul → zO, reduceNeg → zP
attribute [local go_sem] argEnv W_nil W_seq W_skip W_ret W_exit W_scope W_block W_blk W_reg W_regD W_cond WC_t WC_f WC_any Wx_c Wx_ops Wx_lp Wx_blk W_ops_nil W_opsD_q W_guard W_guardD WG_tt WG_ff WG_tf WG_ft WG_u WGD_tt WGD_ff WGD_tf WGD_ft WGD_u WE_some WED_some W_more W_mv W_pick W_new W_box W_build W_bsl W_ld1 W_ldn W_st W_nck W_bin W_eqb W_not W_cvt W_fad W_fld1 W_fldn W_ixa W_ixr W_ix1 W_ixs W_len W_lens W_mkf W_ext W_app W_min W_max W_isnp W_isns W_eqs W_neg W_ixn W_sli W_sls WD_more WD_mv WD_pick WD_new WD_box WD_build WD_bsl WD_ld1 WD_ldn WD_st WD_nck WD_bin WD_eqb WD_not WD_cvt WD_fad WD_fld1 WD_fldn WD_ixa WD_ixr WD_ix1 WD_ixs WD_len WD_lens WD_mkf WD_ext WD_app WD_min WD_max WD_isnp WD_isns WD_eqs WD_neg WD_ixn WD_sli WD_sls effF effM bytesOf Opd.ev getE putE binV LV.int LV.bool LV.undef Go.undef LV.cells LV.toD LV.toDs splice fillL rowsOf boxOf srcRows updL objL Eff.owned nwp St.get St.obj St.put Value.oneCell' Ends adopt Ad.ap isNil St.keep St.okKeep okObj idl idlL idlO RVs.of RV.of oneOr Ends0 EndsO_iff frzs rn rnL rnO piOf eqCells eqV boundV Option.map_some Option.map_none List.append_nil List.nil_append List.cons_append List.map_nil List.map_cons List.length_nil List.length_cons List.set_cons_zero List.set_cons_succ List.take_succ_cons List.take_zero List.take_nil List.drop_succ_cons List.drop_zero List.drop_nil List.getElem?_cons_zero List.getElem?_cons_succ List.getElem?_nil List.isEmpty_nil List.isEmpty_cons List.all_cons List.all_nil List.isEmpty_nil cond_true cond_false Bool.true_and Bool.false_and Bool.and_true Bool.and_false Bool.not_true Bool.not_false Bool.or_true Bool.true_or Bool.or_false Bool.false_or true_and and_true true_or or_true Option.some.injEq LV.d.injEq DV.val.injEq Value.bool.injEq Value.int.injEq decide_true decide_false and_self Nat.zero_add Nat.add_zero if_true if_false Int.toNat_zero beq_self_eq_true Nat.zero_lt_succ Int.toNat_natCast Int.natCast_nonneg List.length_map i64 bl List.zip_cons_cons List.zip_nil_left List.zip_nil_right nwp confV stateV nodeV jobV nodesV jobsV opV msgV nodeR jobR opR msgR zeroOp zeroMsg msgsV
variable {G : Nat → Option (List DV)}
theorem copyD_tri (s : StateD) (hn : s.nodes.length ≤ 1000) (hj : s.jobs.length ≤ 1000) : Tri Tryz.prog G 29 [stateV s] [] (stateV s) [] := by
  refine tri_W Tryz.func29 (by decide) irOk29 (Nat.le_of_ble_eq_true rfl) ?_
  simp only [ir29,go_sem,↓reduceIte,zA,zB,zC,zD,zE,zF,reduceCtorEq,zG,zH,zI,zJ,zK,zL,zM,zN,zO,zP]
  refine WD_calln (cloneN_tri s.nodes hn) rfl rfl rfl ?_
  simp only [go_sem,↓reduceIte,zA,zB,zC,zD,zE,zF,reduceCtorEq,zG,zH,zI,zJ,zK,zL,zM,zN,zO,zP]
  refine WD_calln (cloneJ_tri s.jobs hj) rfl rfl rfl ?_
  simp only [go_sem,↓reduceIte,zA,zB,zC,zD,zE,zF,reduceCtorEq,zG,zH,zI,zJ,zK,zL,zM,zN,zO,zP]
  refine W_opsD_end rfl ?_
  simp only [go_sem,↓reduceIte,zA,zB,zC,zD,zE,zF,reduceCtorEq,zG,zH,zI,zJ,zK,zL,zM,zN,zO,zP]
  exact BackZ [2, 3] rfl (by simp [St.obj,objL]) (by simp [St.obj,objL,oneOr,St.get,getE,argR,argRs,rowsAt,LV.int,List.take_of_length_le])
theorem Tri.stat1 {P : Program} {G : Nat → Option (List DV)} {f : Nat} {args : List LV} {t : StateD} (h : Tri P G f args [] (stateV t) []) {J : Nat → Prop} {ι : Nat → Nat → Option Nat} {w : World} {vs : Array Value} (S : Store G J w ι (objL [])) (hR : RepL J w ι args vs.toList) :
    Calls P f vs w fun e w' => ∃ (ys : List Value) (J' : Nat → Prop), e = .returned (.agg ⟨ys⟩) ∧ RowKit.Below w.heap.size w w' ∧ StRep G J' w' ι t ys ∧ (∀ k, J k → J' k) ∧ (∀ k, J' k → J k ∨ w.heap.size ≤ k) := by
  refine (h.2 J ι w vs S hR).mono fun e w' hh => ?_
  obtain ⟨v, he, J', ι', S', hr, hE⟩ := hh
  have hB : RowKit.Below w.heap.size w w' := ⟨hE.ev.os, hE.ev.tape, hE.ev.output, hE.ev.size, fun k hk => hE.ev.same k hk (by rintro ⟨o, hb⟩; simp [objL,OSt.own] at hb)⟩
  obtain ⟨ys, rfl, hy, ho⟩ := rep_sDs hr
  refine ⟨ys, J', he, hB, ⟨S'.any S, hy, ho⟩, hE.ev.jmono, fun k hk => ?_⟩
  rcases hE.ev.jnew k hk with h | h | ⟨o, hb⟩
  · exact .inl h
  · exact .inr h
  · simp [objL,OSt.own] at hb
end Dv
