/- Clone, Copy. -/
import Derived.Test.YtcanhhnmfkdclaaGreatDoorD4
set_option linter.unusedVariables false
set_option linter.unusedSimpArgs false
namespace Dv
open Go Go.Proofs
open Nat renaming reduceEqDiff → zA, reduceAdd → zB, reduceSub → zC, reduceMul → zD, reduceLT → zE, reduceLeDiff → zF
open Int renaming reduceLE → zG, reduceLT → zH, reduceToNat → zI, reduceBEq → zJ, reduceBNe → zK, reduceEq → zL, reduceAdd → zM, reduceSub → zN, reduceMul → zO, reduceNeg → zP
attribute [local go_sem] argEnv W_nil W_seq W_skip W_ret W_exit W_scope W_block W_blk W_reg W_regD W_cond WC_t WC_f WC_any Wx_c Wx_ops Wx_lp Wx_blk W_ops_nil W_opsD_q W_guard W_guardD WG_tt WG_ff WG_tf WG_ft WG_u WGD_tt WGD_ff WGD_tf WGD_ft WGD_u WE_some WED_some W_more W_mv W_pick W_new W_box W_build W_bsl W_ld1 W_ldn W_st W_nck W_bin W_eqb W_not W_cvt W_fad W_fld1 W_fldn W_ixa W_ixr W_ix1 W_ixs W_len W_lens W_mkf W_ext W_app W_min W_max W_isnp W_isns W_eqs W_neg W_ixn W_sli W_sls WD_more WD_mv WD_pick WD_new WD_box WD_build WD_bsl WD_ld1 WD_ldn WD_st WD_nck WD_bin WD_eqb WD_not WD_cvt WD_fad WD_fld1 WD_fldn WD_ixa WD_ixr WD_ix1 WD_ixs WD_len WD_lens WD_mkf WD_ext WD_app WD_min WD_max WD_isnp WD_isns WD_eqs WD_neg WD_ixn WD_sli WD_sls effF effM bytesOf Opd.ev getE putE binV LV.int LV.bool LV.undef Go.undef LV.cells LV.toD LV.toDs splice fillL rowsOf boxOf srcRows updL objL Eff.owned nwp St.get St.obj St.put Value.oneCell' Ends adopt Ad.ap isNil St.keep St.okKeep okObj idl idlL idlO RVs.of RV.of oneOr Ends0 EndsO_iff frzs rn rnL rnO piOf eqCells eqV boundV Option.map_some Option.map_none List.append_nil List.nil_append List.cons_append List.map_nil List.map_cons List.length_nil List.length_cons List.set_cons_zero List.set_cons_succ List.take_succ_cons List.take_zero List.take_nil List.drop_succ_cons List.drop_zero List.drop_nil List.getElem?_cons_zero List.getElem?_cons_succ List.getElem?_nil List.isEmpty_nil List.isEmpty_cons List.all_cons List.all_nil List.isEmpty_nil cond_true cond_false Bool.true_and Bool.false_and Bool.and_true Bool.and_false Bool.not_true Bool.not_false Bool.or_true Bool.true_or Bool.or_false Bool.false_or true_and and_true true_or or_true Option.some.injEq LV.d.injEq DV.val.injEq Value.bool.injEq Value.int.injEq decide_true decide_false and_self Nat.zero_add Nat.add_zero if_true if_false Int.toNat_zero beq_self_eq_true Nat.zero_lt_succ Int.toNat_natCast Int.natCast_nonneg List.length_map i64 bl List.zip_cons_cons List.zip_nil_left List.zip_nil_right nwp confV stateV nodeV jobV nodesV jobsV opV msgV nodeR jobR opR msgR zeroOp zeroMsg msgsV
variable {G : Nat → Option (List DV)}

/-- slices.Clone[[]api.Node,api.Node] -/
def ir48 : Nat × C × List RV := (8,
(.seq (.reg [⟨some 2,.mv (.c (.val (.slice none 0 0))),none,[]⟩])
 (.seq (.seq (.reg [⟨some 3,.mv (.t 0),none,[]⟩,
 ⟨some 4,.isns false (.t 3),none,[]⟩])
 (.cond (.t 4) (.seq (.reg [⟨some 2,.mv (.c (.val (.slice none 0 0))),none,[]⟩])
 .ret)
 .skip))
 (.seq (.reg [⟨some 5,.bsl 49 5 [],none,[]⟩,
 ⟨some 6,.mv (.t 0),none,[]⟩,
 ⟨some 7,.app 49 5 24 (.t 5) (.t 6),none,[]⟩,
 ⟨some 2,.mv (.t 7),none,[]⟩])
 .ret))),
[(.t 2)])
theorem irOk48 : convFn Tryz.prog Tryz.f48 = some ir48 := by kernel_rfl
/-- slices.Clone[[]api.Job,api.Job] -/
def ir49 : Nat × C × List RV := (8,
(.seq (.reg [⟨some 2,.mv (.c (.val (.slice none 0 0))),none,[]⟩])
 (.seq (.seq (.reg [⟨some 3,.mv (.t 0),none,[]⟩,
 ⟨some 4,.isns false (.t 3),none,[]⟩])
 (.cond (.t 4) (.seq (.reg [⟨some 2,.mv (.c (.val (.slice none 0 0))),none,[]⟩])
 .ret)
 .skip))
 (.seq (.reg [⟨some 5,.bsl 47 12 [],none,[]⟩,
 ⟨some 6,.mv (.t 0),none,[]⟩,
 ⟨some 7,.app 47 12 96 (.t 5) (.t 6),none,[]⟩,
 ⟨some 2,.mv (.t 7),none,[]⟩])
 .ret))),
[(.t 2)])
theorem irOk49 : convFn Tryz.prog Tryz.f49 = some ir49 := by kernel_rfl
/-- book.Copy -/
def ir29 : Nat × C × List RV := (12,
(.seq (.reg [⟨some 1,.box 27 (.t 0),none,[]⟩,
 ⟨some 2,.new 27 [(.val (.slice none 0 0)),(.val (.slice none 0 0)),(.val (.int .i64 0)),(.val (.int .i64 0)),(.val (.int .i64 0)),(.val (.int .i64 0))],none,[]⟩])
 (.seq (.regD [⟨some 3,.fad 0 (.t 1),none,[]⟩,
 ⟨some 4,.ld1 (.t 3),none,[0]⟩,
 ⟨some 5,.call (.f 48) [(.t 4)],none,[1,0]⟩,
 ⟨some 6,.fad 1 (.t 1),none,[]⟩,
 ⟨some 7,.ld1 (.t 6),none,[3]⟩,
 ⟨some 8,.call (.f 49) [(.t 7)],none,[4,3,2,1,0]⟩,
 ⟨some 9,.fad 0 (.t 1),none,[0,1,2,3,4]⟩,
 ⟨none,.st 1 (.t 9) (.t 5),none,[6,0,1,2,3,4,5]⟩,
 ⟨some 10,.fad 1 (.t 1),none,[0,1,2,3,4,5,6,7]⟩,
 ⟨none,.st 1 (.t 10) (.t 8),none,[8,0,1,2,3,4,5,6,7]⟩])
 (.seq (.reg [⟨some 11,.ldn 6 (.t 1),none,[]⟩,
 ⟨none,.st 6 (.t 2) (.t 11),none,[]⟩])
 .ret))),
[(.cn 2 6)])
theorem irOk29 : convFn Tryz.prog Tryz.f29 = some ir29 := by kernel_rfl


theorem cloneN_tri (l : List NodeD) (hl : l.length ≤ 1000) : Tri Tryz.prog G 48 [nodesV l] [] (.sl 0 l.length 5 0 l.length) [.dat 49 5 (l.map nodeR)] := by
  refine tri_W Tryz.func48 (by decide) irOk48 (Nat.le_of_ble_eq_true rfl) ?_
  simp only [ir48,go_sem,↓reduceIte,zA,zB,zC,zD,zE,zF,reduceCtorEq,zG,zH,zI,zJ,zK,zL,zM,zN,zO,zP]
  cases l with
  | nil =>
    simp only [List.length_nil,List.map_nil,go_sem,↓reduceIte,zA,zB,zC,zD,zE,zF,reduceCtorEq,zG,zH,zI,zJ,zK,zL,zM,zN,zO,zP]
    refine ⟨?_, ?_⟩
    · exact BackO [.t 2 49 5] rfl rfl
    · exact BackO [] rfl rfl
  | cons n l =>
    have h0 : ¬ (n :: l).length = 0 := by simp
    have hb : (l.length + 1) * 24 ≤ 70368744177664 := by simp at hl; omega
    simp only [h0,List.length_map,List.take_of_length_le (show (List.map nodeR (n :: l)).length ≤ (n :: l).length by simp),Nat.le_refl,List.drop_zero,go_sem,↓reduceIte,zA,zB,zC,zD,zE,zF,reduceCtorEq,zG,zH,zI,zJ,zK,zL,zM,zN,zO,zP]
    simp only [hb,go_sem,↓reduceIte,zA,zB,zC,zD,zE,zF,reduceCtorEq,zG,zH,zI,zJ,zK,zL,zM,zN,zO,zP]
    exact BackO [] rfl rfl

theorem cloneJ_tri (l : List JobD) (hl : l.length ≤ 1000) : Tri Tryz.prog G 49 [jobsV l] [] (.sl 0 l.length 12 0 l.length) [.dat 47 12 (l.map jobR)] := by
  refine tri_W Tryz.func49 (by decide) irOk49 (Nat.le_of_ble_eq_true rfl) ?_
  simp only [ir49,go_sem,↓reduceIte,zA,zB,zC,zD,zE,zF,reduceCtorEq,zG,zH,zI,zJ,zK,zL,zM,zN,zO,zP]
  cases l with
  | nil =>
    simp only [List.length_nil,List.map_nil,go_sem,↓reduceIte,zA,zB,zC,zD,zE,zF,reduceCtorEq,zG,zH,zI,zJ,zK,zL,zM,zN,zO,zP]
    refine ⟨?_, ?_⟩
    · exact BackO [.t 2 47 12] rfl rfl
    · exact BackO [] rfl rfl
  | cons n l =>
    have h0 : ¬ (n :: l).length = 0 := by simp
    have hb : (l.length + 1) * 96 ≤ 70368744177664 := by simp at hl; omega
    simp only [h0,List.length_map,List.take_of_length_le (show (List.map jobR (n :: l)).length ≤ (n :: l).length by simp),Nat.le_refl,List.drop_zero,go_sem,↓reduceIte,zA,zB,zC,zD,zE,zF,reduceCtorEq,zG,zH,zI,zJ,zK,zL,zM,zN,zO,zP]
    simp only [hb,go_sem,↓reduceIte,zA,zB,zC,zD,zE,zF,reduceCtorEq,zG,zH,zI,zJ,zK,zL,zM,zN,zO,zP]
    exact BackO [] rfl rfl

theorem copy_tri (s : StateD) (hn : s.nodes.length ≤ 1000) (hj : s.jobs.length ≤ 1000) : Tri Tryz.prog G 29 [stateV s] [] (.agg [.sl 0 s.nodes.length 5 0 s.nodes.length, .sl 1 s.jobs.length 12 0 s.jobs.length, .int s.goal, .int s.prior, .int s.mode, .int s.term]) [.dat 49 5 (s.nodes.map nodeR), .dat 47 12 (s.jobs.map jobR)] := by
  refine tri_W Tryz.func29 (by decide) irOk29 (Nat.le_of_ble_eq_true rfl) ?_
  simp only [ir29,go_sem,↓reduceIte,zA,zB,zC,zD,zE,zF,reduceCtorEq,zG,zH,zI,zJ,zK,zL,zM,zN,zO,zP]
  refine WD_calln (cloneN_tri s.nodes hn) rfl rfl rfl ?_
  simp only [go_sem,↓reduceIte,zA,zB,zC,zD,zE,zF,reduceCtorEq,zG,zH,zI,zJ,zK,zL,zM,zN,zO,zP]
  refine WD_calln (cloneJ_tri s.jobs hj) rfl rfl rfl ?_
  simp only [go_sem,↓reduceIte,zA,zB,zC,zD,zE,zF,reduceCtorEq,zG,zH,zI,zJ,zK,zL,zM,zN,zO,zP]
  refine W_opsD_end rfl ?_
  simp only [go_sem,↓reduceIte,zA,zB,zC,zD,zE,zF,reduceCtorEq,zG,zH,zI,zJ,zK,zL,zM,zN,zO,zP]
  refine BackR [] [2, 3] [] rfl rfl (by decide) (by simp) (by simp) rfl rfl ?_
  simp [oneOr,argR,argRs]
end Dv
