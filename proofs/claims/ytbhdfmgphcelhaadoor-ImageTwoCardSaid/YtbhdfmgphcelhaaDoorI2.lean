/- image.reader: the next number, a count. -/
import Derived.Test.YtbhdfmgphcelhaaDoorI1
set_option linter.unusedVariables false
set_option linter.unusedSimpArgs false
namespace Dv
open Go Go.Proofs
open Nat renaming reduceEqDiff → zA, reduceAdd → zB, reduceSub → zC, reduceMul → zD, reduceLT → zE, reduceLeDiff → zF
open Int renaming reduceLE → zG, reduceLT → zH, reduceToNat → zI, reduceBEq → zJ, reduceBNe → zK, reduceEq → zL, reduceAdd → zM, reduceSub → zN, reduceMul → zO, reduceNeg → zP
attribute [local go_sem] argEnv W_nil W_seq W_skip W_ret W_exit W_scope W_block W_blk W_reg W_regD W_cond WC_t WC_f WC_any Wx_c Wx_ops Wx_lp Wx_blk W_ops_nil W_opsD_q W_guard W_guardD WG_tt WG_ff WG_tf WG_ft WG_u WGD_tt WGD_ff WGD_tf WGD_ft WGD_u WE_some WED_some W_mv W_pick W_new W_box W_build W_bsl W_ld1 W_ldn W_st W_nck W_bin W_eqb W_not W_cvt W_fad W_fld1 W_fldn W_ixa W_ixr W_ix1 W_ixs W_len W_lens W_mkf W_ext W_app W_min W_isnp W_isns W_eqs W_neg W_ixn W_sli W_sls WD_mv WD_pick WD_new WD_box WD_build WD_bsl WD_ld1 WD_ldn WD_st WD_nck WD_bin WD_eqb WD_not WD_cvt WD_fad WD_fld1 WD_fldn WD_ixa WD_ixr WD_ix1 WD_ixs WD_len WD_lens WD_mkf WD_ext WD_app WD_min WD_isnp WD_isns WD_eqs WD_neg WD_ixn WD_sli WD_sls effF Opd.ev getE putE binV LV.int LV.bool LV.undef Go.undef LV.cells LV.toD LV.toDs splice fillL rowsOf srcRows updL objL Eff.owned nwp St.get St.obj St.put Value.oneCell' Ends adopt Ad.ap isNil St.keep St.okKeep okObj idl idlL idlO RVs.of RV.of oneOr Ends0 EndsO_iff frzs rn rnL rnO piOf eqCells eqV boundV Option.map_some Option.map_none List.append_nil List.nil_append List.cons_append List.map_nil List.map_cons List.length_nil List.length_cons List.set_cons_zero List.set_cons_succ List.take_succ_cons List.take_zero List.take_nil List.drop_succ_cons List.drop_zero List.drop_nil List.getElem?_cons_zero List.getElem?_cons_succ List.getElem?_nil List.isEmpty_nil List.isEmpty_cons List.all_cons List.all_nil List.isEmpty_nil cond_true cond_false Bool.true_and Bool.false_and Bool.and_true Bool.and_false Bool.not_true Bool.not_false Bool.or_true Bool.true_or Bool.or_false Bool.false_or true_and and_true true_or or_true Option.some.injEq LV.d.injEq DV.val.injEq Value.bool.injEq Value.int.injEq decide_true decide_false and_self Nat.zero_add Nat.add_zero if_true if_false Int.toNat_zero beq_self_eq_true Nat.zero_lt_succ Int.toNat_natCast Int.natCast_nonneg List.length_map i64 bl List.zip_cons_cons List.zip_nil_left List.zip_nil_right nwp confV stateV nodeV jobV nodesV jobsV opV msgV nodeR jobR opR msgR zeroOp zeroMsg msgsV
variable {G : Nat → Option (List DV)}

/-- image.reader.next -/
def ir59 : Nat × C × List RV := (26,
(.seq (.reg [⟨(some 2), .mv (.c (.val (.int .i64 0))), none, []⟩])
 (.seq (.reg [⟨(some 4), .mv (.t 0), none, []⟩,
 ⟨(some 5), .nck (.t 4), none, []⟩,
 ⟨(some 6), .fad 0 (.t 5), none, []⟩,
 ⟨(some 7), .ld1 (.t 6), none, []⟩,
 ⟨(some 8), .len (.t 7), none, []⟩,
 ⟨(some 9), .bin .gtr (.t 8) (.c (.val (.int .i64 0))), none, []⟩,
 ⟨(some 10), .call (.f 24) [(.t 9)], none, []⟩])
 (.seq (.reg [⟨(some 11), .mv (.t 0), none, []⟩,
 ⟨(some 12), .nck (.t 11), none, []⟩,
 ⟨(some 13), .fad 0 (.t 12), none, []⟩,
 ⟨(some 14), .ld1 (.t 13), none, []⟩,
 ⟨(some 15), .ixa 1 (.t 14) (.c (.val (.int .i64 0))), none, []⟩,
 ⟨(some 16), .ld1 (.t 15), none, []⟩,
 ⟨(some 3), .mv (.t 16), none, []⟩])
 (.seq (.reg [⟨(some 17), .mv (.t 0), none, []⟩,
 ⟨(some 18), .mv (.t 0), none, []⟩,
 ⟨(some 19), .nck (.t 18), none, []⟩,
 ⟨(some 20), .fad 0 (.t 19), none, []⟩,
 ⟨(some 21), .ld1 (.t 20), none, []⟩,
 ⟨(some 22), .sli 1 (.t 21) (some (.c (.val (.int .i64 1)))) none none, none, []⟩,
 ⟨(some 23), .nck (.t 17), none, []⟩,
 ⟨(some 24), .fad 0 (.t 23), none, []⟩,
 ⟨none, .st 1 (.t 24) (.t 22), none, []⟩])
 (.seq (.reg [⟨(some 25), .mv (.t 3), none, []⟩,
 ⟨(some 2), .mv (.t 25), none, []⟩])
 .ret))))),
[(.t 2)])
theorem irOk59 : convFn Tryd.prog Tryd.f59 = some ir59 := by kernel_rfl
/-- image.reader.count -/
def ir58 : Nat × C × List RV := (13,
(.seq (.reg [⟨(some 4), .mv (.c (.val (.int .i64 0))), none, []⟩])
 (.seq (.reg [⟨(some 6), .mv (.t 0), none, []⟩,
 ⟨(some 7), .call (.f 59) [(.t 6)], none, []⟩,
 ⟨(some 5), .mv (.t 7), none, []⟩])
 (.seq (.reg [⟨(some 8), .mv (.t 5), none, []⟩,
 ⟨(some 9), .mv (.t 1), none, []⟩,
 ⟨(some 10), .bin .leq (.t 8) (.t 9), none, []⟩,
 ⟨(some 11), .call (.f 24) [(.t 10)], none, []⟩])
 (.seq (.reg [⟨(some 12), .mv (.t 5), none, []⟩,
 ⟨(some 4), .mv (.t 12), none, []⟩])
 .ret)))),
[(.t 4)])
theorem irOk58 : convFn Tryd.prog Tryd.f58 = some ir58 := by kernel_rfl


def intR (l : List Int) : List (List DV) := l.map fun x => [i64 x]
def rdO (xs : List Int) (k : Nat) : List LObj := [.box 76 [.sl 1 xs.length 1 k (xs.length - k)], .dat 3 1 (intR xs)]
attribute [local go_sem] rdO intR
attribute [local simp] rdO
theorem rnext_tri (xs : List Int) (k : Nat) (hk : k < xs.length) (h63 : xs.length ≤ 1000000) : Tri Tryd.prog G 59 [.ptr 0 0] (rdO xs k) (.int (xs.getD k 0)) (rdO xs (k + 1)) := by
  have hg := get_mapD (f := fun x : Int => [i64 x]) 0 hk
  generalize xs.getD k 0 = x at *
  refine tri_WP Tryd.func59 (by decide) irOk59 (Nat.le_of_ble_eq_true rfl) rfl rfl rfl ?_
  simp only [ir59, go_sem, ↓reduceIte, zA, zB, zC, zD, zE, zF, reduceCtorEq, zG, zH, zI, zJ, zK, zL, zM, zN, zO, zP]
  have h1 : decide (((xs.length - k : Nat) : Int) > 0) = true := decide_eq_true (by omega)
  simp only [h1, go_sem, ↓reduceIte, zA, zB, zC, zD, zE, zF, reduceCtorEq, zG, zH, zI, zJ, zK, zL, zM, zN, zO, zP]
  refine W_calld (must_tri) rfl rfl rfl rfl ?_; simp only [go_sem, ↓reduceIte, zA, zB, zC, zD, zE, zF, reduceCtorEq, zG, zH, zI, zJ, zK, zL, zM, zN, zO, zP]
  have h2 : 0 < xs.length - k := by omega
  have h3 : xs.length - k - 1 = xs.length - (k + 1) := by omega
  have h4 : 1 ≤ xs.length - k ∧ xs.length - k ≤ xs.length - k := by omega
  simp only [h2, hg, if_pos h4, h3, go_sem, ↓reduceIte, zA, zB, zC, zD, zE, zF, reduceCtorEq, zG, zH, zI, zJ, zK, zL, zM, zN, zO, zP]

theorem rnext_triX (xs : List Int) : TriX Tryd.prog G 59 [.ptr 0 0] (rdO xs xs.length) noneV (rdO xs xs.length) := by
  refine tri_X Tryd.func59 (by decide) irOk59 (Nat.le_of_ble_eq_true rfl) rfl ?_ ?_
  · simp only [go_sem, ↓reduceIte, zA, zB, zC, zD, zE, zF, reduceCtorEq, zG, zH, zI, zJ, zK, zL, zM, zN, zO, zP]
  have h1 : decide (((xs.length - xs.length : Nat) : Int) > 0) = false := decide_eq_false (by omega)
  simp only [ir59, h1, go_sem, ↓reduceIte, zA, zB, zC, zD, zE, zF, reduceCtorEq, zG, zH, zI, zJ, zK, zL, zM, zN, zO, zP]
  refine W_callxd must_triX rfl rfl rfl ?_
  simp only [Wx_pn, PanK, go_sem, ↓reduceIte, zA, zB, zC, zD, zE, zF, reduceCtorEq, zG, zH, zI, zJ, zK, zL, zM, zN, zO, zP]

theorem rcount_tri (xs : List Int) (k : Nat) (most : Int) (hk : k < xs.length) (h63 : xs.length ≤ 1000000) (hm : xs.getD k 0 ≤ most) : Tri Tryd.prog G 58 [.ptr 0 0, .int most] (rdO xs k) (.int (xs.getD k 0)) (rdO xs (k + 1)) := by
  refine tri_WP Tryd.func58 (by decide) irOk58 (Nat.le_of_ble_eq_true rfl) rfl rfl rfl ?_
  simp only [ir58, go_sem, ↓reduceIte, zA, zB, zC, zD, zE, zF, reduceCtorEq, zG, zH, zI, zJ, zK, zL, zM, zN, zO, zP]
  refine W_callo [0, 1] (rnext_tri xs k hk h63) rfl (by simp only [argRs, argR, List.map_cons, List.map_nil, go_sem, ↓reduceIte, zA, zB, zC, zD, zE, zF, reduceCtorEq, zG, zH, zI, zJ, zK, zL, zM, zN, zO, zP]) (by decide) (by simp only [go_sem, ↓reduceIte, zA, zB, zC, zD, zE, zF, reduceCtorEq, zG, zH, zI, zJ, zK, zL, zM, zN, zO, zP]) (by simp only [go_sem, ↓reduceIte, zA, zB, zC, zD, zE, zF, reduceCtorEq, zG, zH, zI, zJ, zK, zL, zM, zN, zO, zP, List.all_cons, List.all_nil]) (by simp) ?_; simp only [go_sem, ↓reduceIte, zA, zB, zC, zD, zE, zF, reduceCtorEq, zG, zH, zI, zJ, zK, zL, zM, zN, zO, zP]
  rw [decide_eq_true hm]
  refine W_calld (must_tri) rfl rfl rfl rfl ?_; simp only [go_sem, ↓reduceIte, zA, zB, zC, zD, zE, zF, reduceCtorEq, zG, zH, zI, zJ, zK, zL, zM, zN, zO, zP]
theorem rcount_triX (xs : List Int) (k : Nat) (most : Int) (hk : k < xs.length) (h63 : xs.length ≤ 1000000) (hm : ¬ xs.getD k 0 ≤ most) : TriX Tryd.prog G 58 [.ptr 0 0, .int most] (rdO xs k) noneV (rdO xs (k + 1)) := by
  refine tri_X Tryd.func58 (by decide) irOk58 (Nat.le_of_ble_eq_true rfl) rfl ?_ ?_
  · simp only [go_sem, ↓reduceIte, zA, zB, zC, zD, zE, zF, reduceCtorEq, zG, zH, zI, zJ, zK, zL, zM, zN, zO, zP]
  simp only [ir58, go_sem, ↓reduceIte, zA, zB, zC, zD, zE, zF, reduceCtorEq, zG, zH, zI, zJ, zK, zL, zM, zN, zO, zP]
  refine W_callo [0, 1] (rnext_tri xs k hk h63) rfl (by simp only [argRs, argR, List.map_cons, List.map_nil, go_sem, ↓reduceIte, zA, zB, zC, zD, zE, zF, reduceCtorEq, zG, zH, zI, zJ, zK, zL, zM, zN, zO, zP]) (by decide) (by simp only [go_sem, ↓reduceIte, zA, zB, zC, zD, zE, zF, reduceCtorEq, zG, zH, zI, zJ, zK, zL, zM, zN, zO, zP]) (by simp only [go_sem, ↓reduceIte, zA, zB, zC, zD, zE, zF, reduceCtorEq, zG, zH, zI, zJ, zK, zL, zM, zN, zO, zP, List.all_cons, List.all_nil]) (by simp) ?_; simp only [go_sem, ↓reduceIte, zA, zB, zC, zD, zE, zF, reduceCtorEq, zG, zH, zI, zJ, zK, zL, zM, zN, zO, zP]
  rw [decide_eq_false hm]
  refine W_callxd must_triX rfl rfl rfl ?_
  simp only [Wx_pn, PanK, go_sem, ↓reduceIte, zA, zB, zC, zD, zE, zF, reduceCtorEq, zG, zH, zI, zJ, zK, zL, zM, zN, zO, zP]
/-- nothing is left. -/
theorem rcount_triX0 (xs : List Int) (most : Int) : TriX Tryd.prog G 58 [.ptr 0 0, .int most] (rdO xs xs.length) noneV (rdO xs xs.length) := by
  refine tri_X Tryd.func58 (by decide) irOk58 (Nat.le_of_ble_eq_true rfl) rfl ?_ ?_
  · simp only [go_sem, ↓reduceIte, zA, zB, zC, zD, zE, zF, reduceCtorEq, zG, zH, zI, zJ, zK, zL, zM, zN, zO, zP]
  simp only [ir58, go_sem, ↓reduceIte, zA, zB, zC, zD, zE, zF, reduceCtorEq, zG, zH, zI, zJ, zK, zL, zM, zN, zO, zP]
  refine W_callxo [0, 1] (rnext_triX xs) rfl (by simp only [argRs, argR, List.map_cons, List.map_nil, go_sem, ↓reduceIte, zA, zB, zC, zD, zE, zF, reduceCtorEq, zG, zH, zI, zJ, zK, zL, zM, zN, zO, zP]) (by decide) (by simp only [go_sem, ↓reduceIte, zA, zB, zC, zD, zE, zF, reduceCtorEq, zG, zH, zI, zJ, zK, zL, zM, zN, zO, zP]) (by simp only [go_sem, ↓reduceIte, zA, zB, zC, zD, zE, zF, reduceCtorEq, zG, zH, zI, zJ, zK, zL, zM, zN, zO, zP, List.all_cons, List.all_nil]) (by simp) ?_; simp only [Wx_c, Wx_ops, Wx_blk, Wx_lp, Wx_pn, PAN, PanK, go_sem, ↓reduceIte, zA, zB, zC, zD, zE, zF, reduceCtorEq, zG, zH, zI, zJ, zK, zL, zM, zN, zO, zP]
end Dv
