/- The document's names, digits, words. -/
import Derived.Test.YtcfcigjkijkhdaaDoorO5
set_option linter.unusedVariables false
set_option linter.unusedSimpArgs false
namespace Dv
open Go Go.Proofs
open Nat renaming reduceEqDiff → zA, reduceAdd → zB, reduceSub → zC, reduceMul → zD, reduceLT → zE, reduceLeDiff → zF
open Int renaming reduceLE → zG, reduceLT → zH, reduceToNat → zI, reduceBEq → zJ, reduceBNe → zK, reduceEq → zL, reduceAdd → zM, reduceSub → zN, reduceMul → zO, reduceNeg → zP
attribute [local go_sem] argEnv W_nil W_seq W_skip W_ret W_exit W_scope W_block W_blk W_reg W_regD W_cond WC_t WC_f WC_any Wx_c Wx_ops Wx_lp Wx_blk W_ops_nil W_opsD_q W_guard W_guardD WG_tt WG_ff WG_tf WG_ft WG_u WGD_tt WGD_ff WGD_tf WGD_ft WGD_u WE_some WED_some W_more W_mv W_pick W_new W_box W_build W_bsl W_ld1 W_ldn W_st W_nck W_bin W_eqb W_not W_cvt W_fad W_fld1 W_fldn W_ixa W_ixr W_ix1 W_ixs W_len W_lens W_mkf W_ext W_app W_min W_isnp W_isns W_eqs W_neg W_ixn W_sli W_sls WD_more WD_mv WD_pick WD_new WD_box WD_build WD_bsl WD_ld1 WD_ldn WD_st WD_nck WD_bin WD_eqb WD_not WD_cvt WD_fad WD_fld1 WD_fldn WD_ixa WD_ixr WD_ix1 WD_ixs WD_len WD_lens WD_mkf WD_ext WD_app WD_min WD_isnp WD_isns WD_eqs WD_neg WD_ixn WD_sli WD_sls effF effM bytesOf Opd.ev getE putE binV LV.int LV.bool LV.undef Go.undef LV.cells LV.toD LV.toDs splice fillL rowsOf boxOf srcRows updL objL Eff.owned nwp St.get St.obj St.put Value.oneCell' Ends adopt Ad.ap isNil St.keep St.okKeep okObj idl idlL idlO RVs.of RV.of oneOr Ends0 EndsO_iff frzs rn rnL rnO piOf eqCells eqV boundV Option.map_some Option.map_none List.append_nil List.nil_append List.cons_append List.map_nil List.map_cons List.length_nil List.length_cons List.set_cons_zero List.set_cons_succ List.take_succ_cons List.take_zero List.take_nil List.drop_succ_cons List.drop_zero List.drop_nil List.getElem?_cons_zero List.getElem?_cons_succ List.getElem?_nil List.isEmpty_nil List.isEmpty_cons List.all_cons List.all_nil List.isEmpty_nil cond_true cond_false Bool.true_and Bool.false_and Bool.and_true Bool.and_false Bool.not_true Bool.not_false Bool.or_true Bool.true_or Bool.or_false Bool.false_or true_and and_true true_or or_true Option.some.injEq LV.d.injEq DV.val.injEq Value.bool.injEq Value.int.injEq decide_true decide_false and_self Nat.zero_add Nat.add_zero if_true if_false Int.toNat_zero beq_self_eq_true Nat.zero_lt_succ Int.toNat_natCast Int.natCast_nonneg List.length_map i64 bl List.zip_cons_cons List.zip_nil_left List.zip_nil_right nwp confV stateV nodeV jobV nodesV jobsV opV msgV nodeR jobR opR msgR zeroOp zeroMsg msgsV
variable {G : Nat → Option (List DV)}

/-- dunnageref08.Name -/
def ir41 : Nat × C × List RV := (16,
(.seq (.reg [⟨(some 2), .mv (.c (.val (.string ⟨#[]⟩))), none, []⟩])
 (.seq (.reg [⟨(some 4), .bsl 9 1 [(.c (.val (.string ⟨#[115, 117, 98, 109, 105, 116]⟩))), (.c (.val (.string ⟨#[99, 97, 110, 99, 101, 108]⟩))), (.c (.val (.string ⟨#[116, 97, 114, 103, 101, 116]⟩))), (.c (.val (.string ⟨#[112, 97, 117, 115, 101]⟩))), (.c (.val (.string ⟨#[114, 101, 115, 117, 109, 101]⟩))), (.c (.val (.string ⟨#[97, 98, 111, 114, 116]⟩))), (.c (.val (.string ⟨#[100, 111, 119, 110]⟩))), (.c (.val (.string ⟨#[117, 112]⟩))), (.c (.val (.string ⟨#[104, 111, 108, 100]⟩))), (.c (.val (.string ⟨#[115, 116, 97, 114, 116]⟩))), (.c (.val (.string ⟨#[117, 110, 104, 111, 108, 100]⟩))), (.c (.val (.string ⟨#[100, 114, 97, 105, 110]⟩))), (.c (.val (.string ⟨#[115, 97, 118, 101, 100]⟩))), (.c (.val (.string ⟨#[101, 118, 105, 99, 116]⟩))), (.c (.val (.string ⟨#[100, 111, 110, 101]⟩))), (.c (.val (.string ⟨#[99, 111, 114, 100, 111, 110]⟩))), (.c (.val (.string ⟨#[117, 110, 99, 111, 114, 100, 111, 110]⟩))), (.c (.val (.string ⟨#[109, 111, 118, 101]⟩))), (.c (.val (.string ⟨#[109, 111, 118, 101, 100]⟩))), (.c (.val (.string ⟨#[115, 104, 114, 105, 110, 107]⟩))), (.c (.val (.string ⟨#[110, 101, 119, 116, 101, 114, 109]⟩)))], none, []⟩,
 ⟨(some 3), .mv (.t 4), none, []⟩])
 (.seq (.seq (.reg [⟨(some 5), .mv (.t 0), none, []⟩,
 ⟨(some 6), .bin .lss (.t 5) (.c (.val (.int .i64 1))), none, []⟩,
 ⟨(some 7), .mv (.t 6), none, []⟩,
 ⟨(some 8), .mv (.t 0), (some (7, false)), []⟩,
 ⟨(some 9), .bin .gtr (.t 8) (.c (.val (.int .i64 21))), (some (7, false)), []⟩,
 ⟨(some 10), .pick (.t 7) (.c (.val (.bool true))) (.t 9), none, []⟩])
 (.cond (.t 10) (.seq (.reg [⟨(some 2), .mv (.c (.val (.string ⟨#[]⟩))), none, []⟩])
 .ret)
 .skip))
 (.seq (.reg [⟨(some 11), .mv (.t 3), none, []⟩,
 ⟨(some 12), .mv (.t 0), none, []⟩,
 ⟨(some 13), .bin .sub (.t 12) (.c (.val (.int .i64 1))), none, []⟩,
 ⟨(some 14), .ixa 1 (.t 11) (.t 13), none, []⟩,
 ⟨(some 15), .ld1 (.t 14), none, []⟩,
 ⟨(some 2), .mv (.t 15), none, []⟩])
 .ret)))),
[(.t 2)])
theorem irOk41 : convFn Tryd.prog Tryd.f41 = some ir41 := by kernel_rfl
/-- dunnageref08.digits -/
def ir48 : Nat × C × List RV := (17,
(.seq (.reg [⟨(some 2), .mv (.c (.val (.string ⟨#[]⟩))), none, []⟩])
 (.seq (.seq (.reg [⟨(some 3), .mv (.t 0), none, []⟩,
 ⟨(some 4), .bin .lss (.t 3) (.c (.val (.int .i64 10))), none, []⟩])
 (.cond (.t 4) (.seq (.reg [⟨(some 5), .mv (.t 0), none, []⟩,
 ⟨(some 6), .bin .add (.c (.val (.int .i64 48))) (.t 5), none, []⟩,
 ⟨(some 7), .cvt .u8 (.t 6), none, []⟩,
 ⟨(some 8), .bsl 5 1 [(.t 7)], none, []⟩,
 ⟨(some 9), .more (.b2s (.t 8)), none, []⟩,
 ⟨(some 2), .mv (.t 9), none, []⟩])
 .ret)
 .skip))
 (.seq (.reg [⟨(some 10), .mv (.t 0), none, []⟩,
 ⟨(some 11), .bin .quo (.t 10) (.c (.val (.int .i64 10))), none, []⟩,
 ⟨(some 12), .call (.f 48) [(.t 11)], none, []⟩,
 ⟨(some 13), .mv (.t 0), none, []⟩,
 ⟨(some 14), .bin .rem (.t 13) (.c (.val (.int .i64 10))), none, []⟩,
 ⟨(some 15), .call (.f 48) [(.t 14)], none, []⟩,
 ⟨(some 16), .bin .add (.t 12) (.t 15), none, []⟩,
 ⟨(some 2), .mv (.t 16), none, []⟩])
 .ret))),
[(.t 2)])
theorem irOk48 : convFn Tryd.prog Tryd.f48 = some ir48 := by kernel_rfl
/-- dunnageref08.Text -/
def ir34 : Nat × C × List RV := (28,
(.seq (.reg [⟨(some 1), .box 23 (.t 0), none, []⟩,
 ⟨(some 2), .mv (.c (.val (.string ⟨#[]⟩))), none, []⟩])
 (.seq (.seq (.reg [⟨(some 5), .ldn 7 (.t 1), none, []⟩,
 ⟨(some 6), .call (.f 30) [(.t 5)], none, []⟩,
 ⟨(some 7), .not (.t 6), none, []⟩])
 (.cond (.t 7) (.seq (.reg [⟨(some 2), .mv (.c (.val (.string ⟨#[]⟩))), none, []⟩])
 .ret)
 .skip))
 (.seq (.reg [⟨(some 8), .fad 0 (.t 1), none, []⟩,
 ⟨(some 9), .ld1 (.t 8), none, []⟩,
 ⟨(some 10), .call (.f 41) [(.t 9)], none, []⟩,
 ⟨(some 3), .mv (.t 10), none, []⟩])
 (.seq (.seq (.reg [⟨(some 4), .mv (.c (.val (.int .i64 0))), none, []⟩])
 (.block 0 (.loop (.seq (.seq (.reg [⟨(some 11), .mv (.t 4), none, []⟩,
 ⟨(some 12), .fad 0 (.t 1), none, []⟩,
 ⟨(some 13), .ld1 (.t 12), none, []⟩,
 ⟨(some 14), .call (.f 46) [(.t 13)], none, []⟩,
 ⟨(some 15), .bin .lss (.t 11) (.t 14), none, []⟩])
 (.cond (.t 15) .skip
 (.exit 0)))
 (.seq (.block 1 (.reg [⟨(some 18), .mv (.t 3), none, []⟩,
 ⟨(some 19), .bin .add (.t 18) (.c (.val (.string ⟨#[32]⟩))), none, []⟩,
 ⟨(some 20), .ldn 7 (.t 1), none, []⟩,
 ⟨(some 21), .call (.f 45) [(.t 20)], none, []⟩,
 ⟨(some 22), .mv (.t 4), none, []⟩,
 ⟨(some 23), .ixa 1 (.t 21) (.t 22), none, []⟩,
 ⟨(some 24), .ld1 (.t 23), none, []⟩,
 ⟨(some 25), .call (.f 48) [(.t 24)], none, []⟩,
 ⟨(some 26), .bin .add (.t 19) (.t 25), none, []⟩,
 ⟨(some 3), .mv (.t 26), none, []⟩]))
 (.reg [⟨(some 16), .mv (.t 4), none, []⟩,
 ⟨(some 17), .bin .add (.t 16) (.c (.val (.int .i64 1))), none, []⟩,
 ⟨(some 4), .mv (.t 17), none, []⟩]))))))
 (.seq (.reg [⟨(some 27), .mv (.t 3), none, []⟩,
 ⟨(some 2), .mv (.t 27), none, []⟩])
 .ret))))),
[(.t 2)])
theorem irOk34 : convFn Tryd.prog Tryd.f34 = some ir34 := by kernel_rfl


theorem name8_at (k : Int) (h : 1 ≤ k ∧ k ≤ 21) : (namesR.tail.map fun d => [d])[(k - 1).toNat]? = some [.val (.string (nameOf k))] := by
  have h : k = 1 ∨ k = 2 ∨ k = 3 ∨ k = 4 ∨ k = 5 ∨ k = 6 ∨ k = 7 ∨ k = 8 ∨ k = 9 ∨ k = 10 ∨ k = 11 ∨ k = 12 ∨ k = 13 ∨ k = 14 ∨ k = 15 ∨ k = 16 ∨ k = 17 ∨ k = 18 ∨ k = 19 ∨ k = 20 ∨ k = 21 := by omega
  rcases h with h | h | h | h | h | h | h | h | h | h | h | h | h | h | h | h | h | h | h | h | h <;> subst h <;> rfl
set_option maxHeartbeats 1000000 in
theorem name8_tri (k : Int) : Tri Tryd.prog G 41 [.int k] [] (.d (.val (.string (nameOf k)))) [] := by
  refine tri_W0 Tryd.func41 (by decide) irOk41 (Nat.le_of_ble_eq_true rfl) rfl ?_
  simp only [ir41, go_sem, ↓reduceIte, zA, zB, zC, zD, zE, zF, reduceCtorEq, zG, zH, zI, zJ, zK, zL, zM, zN, zO, zP]
  refine WG_split (fun h1 => ?_) (fun h1 => ?_) <;> simp only [h1, go_sem, ↓reduceIte, zA, zB, zC, zD, zE, zF, reduceCtorEq, zG, zH, zI, zJ, zK, zL, zM, zN, zO, zP] <;> (try simp only [beq_iff_eq, beq_eq_false_iff_ne, bne_iff_ne, ne_eq, decide_eq_true_eq, decide_eq_false_iff_not, Bool.not_true, Bool.not_false, Bool.not_eq_true, Bool.not_eq_false, bne_eq_false_iff_eq, Decidable.not_not] at h1)
  · refine WC_split (fun h2 => ?_) (fun h2 => ?_) <;> simp only [h2, go_sem, ↓reduceIte, zA, zB, zC, zD, zE, zF, reduceCtorEq, zG, zH, zI, zJ, zK, zL, zM, zN, zO, zP] <;> (try simp only [beq_iff_eq, beq_eq_false_iff_ne, bne_iff_ne, ne_eq, decide_eq_true_eq, decide_eq_false_iff_not, Bool.not_true, Bool.not_false, Bool.not_eq_true, Bool.not_eq_false, bne_eq_false_iff_eq, Decidable.not_not] at h2)
    · rw [name_none k (by omega)]
    · have h3 : IntKind.i64.wrap (k - 1) = k - 1 := wrap_in (by omega) (by omega)
      have h4 : 0 ≤ k - 1 ∧ (k - 1).toNat < 21 := by omega
      have h5 := name8_at k (by omega)
      simp only [namesR, namesL, List.map_cons, List.map_nil, List.tail_cons] at h5
      simp only [h3, h4.1, h4.2, h5, and_self, go_sem, ↓reduceIte, zA, zB, zC, zD, zE, zF, reduceCtorEq, zG, zH, zI, zJ, zK, zL, zM, zN, zO, zP]
  · rw [name_none k (by omega)]
theorem itoaB_lt (n : Int) (h0 : 0 ≤ n) (h1 : n < 10) : itoaB n = ⟨#[UInt8.ofNat (48 + n.toNat)]⟩ := by
  unfold itoaB Lib.itoa
  rw [if_neg (by omega), Lib.decDigits, dif_pos (by omega)]
theorem itoaB_ge (n : Int) (h1 : 10 ≤ n) : itoaB n = itoaB (n / 10) ++ itoaB (n % 10) := by
  rw [itoaB_lt (n % 10) (by omega) (by omega)]
  unfold itoaB Lib.itoa
  rw [if_neg (by omega), if_neg (by omega), Lib.decDigits, dif_neg (by omega)]
  rw [show n.toNat / 10 = (n / 10).toNat by omega, show n.toNat % 10 = (n % 10).toNat by omega]
  apply ByteArray.ext
  simp
theorem digits_step (n : Int) (h0 : 0 ≤ n) (h1 : n ≤ 1000000) (ih : ∀ m : Int, 0 ≤ m → m ≤ 1000000 → 10 ≤ n → m.toNat < n.toNat → Tri Tryd.prog G 48 [.int m] [] (.d (.val (.string (itoaB m)))) []) : Tri Tryd.prog G 48 [.int n] [] (.d (.val (.string (itoaB n)))) [] := by
  have hz1 := itoaB_size (n / 10) (by omega) (by omega)
  have hz2 := itoaB_size (n % 10) (by omega) (by omega)
  refine tri_W0 Tryd.func48 (by decide) irOk48 (Nat.le_of_ble_eq_true rfl) rfl ?_
  simp only [ir48, go_sem, ↓reduceIte, zA, zB, zC, zD, zE, zF, reduceCtorEq, zG, zH, zI, zJ, zK, zL, zM, zN, zO, zP]
  by_cases hlt : n < 10
  · have w1 : IntKind.i64.wrap (48 + n) = 48 + n := wrap_in (by omega) (by omega)
    have w2 : IntKind.u8.wrap (48 + n) = 48 + n := by
      simp only [IntKind.wrap, IntKind.bits, IntKind.signed, Bool.false_and, Bool.false_eq_true, if_false]
      omega
    have w5 : (48 + n).toNat = 48 + n.toNat := by omega
    simp only [decide_eq_true hlt, w1, w2, w5, itoaB_lt n h0 hlt, go_sem, ↓reduceIte, zA, zB, zC, zD, zE, zF, reduceCtorEq, zG, zH, zI, zJ, zK, zL, zM, zN, zO, zP]
  · have hq : n.tdiv 10 = n / 10 := Int.tdiv_eq_ediv_of_nonneg h0
    have hr : n.tmod 10 = n % 10 := Int.tmod_eq_emod_of_nonneg h0
    have w3 : IntKind.i64.wrap (n / 10) = n / 10 := wrap_in (by omega) (by omega)
    have w4 : IntKind.i64.wrap (n % 10) = n % 10 := wrap_in (by omega) (by omega)
    have h10 : ((10 : Int) ≠ 0) = True := by simp
    have hadd : (itoaB (n / 10)).size + (itoaB (n % 10)).size ≤ 9223372036854775807 := by omega
    simp only [decide_eq_false hlt, hq, hr, w3, w4, h10, if_true, go_sem, ↓reduceIte, zA, zB, zC, zD, zE, zF, reduceCtorEq, zG, zH, zI, zJ, zK, zL, zM, zN, zO, zP]
    refine W_calld (ih (n / 10) (by omega) (by omega) (by omega) (by omega)) rfl rfl rfl rfl ?_
    simp only [h10, hr, w4, if_true, go_sem, ↓reduceIte, zA, zB, zC, zD, zE, zF, reduceCtorEq, zG, zH, zI, zJ, zK, zL, zM, zN, zO, zP]
    refine W_calld (ih (n % 10) (by omega) (by omega) (by omega) (by omega)) rfl rfl rfl rfl ?_
    rw [itoaB_ge n (by omega)]
    simp only [hadd, if_true, go_sem, ↓reduceIte, zA, zB, zC, zD, zE, zF, reduceCtorEq, zG, zH, zI, zJ, zK, zL, zM, zN, zO, zP]
theorem digits_triF : ∀ (f : Nat) (n : Int), n.toNat < f → 0 ≤ n → n ≤ 1000000 → Tri Tryd.prog G 48 [.int n] [] (.d (.val (.string (itoaB n)))) []
  | 0, n, hf, _, _ => absurd hf (Nat.not_lt_zero _)
  | f + 1, n, hf, h0, h1 => digits_step n h0 h1 fun m hm0 hm1 _ hlt => digits_triF f m (by omega) hm0 hm1
theorem digits_tri (n : Int) (h0 : 0 ≤ n) (h1 : n ≤ 1000000) : Tri Tryd.prog G 48 [.int n] [] (.d (.val (.string (itoaB n)))) [] := digits_triF (n.toNat + 1) n (Nat.lt_succ_self _) h0 h1

def text8S (o : OpD) (p : Nat × ByteArray) : St := ⟨[(1, .ptr 0 0), (3, .d (.val (.string p.2))), (4, .int p.1)],
  [some (.box 23 [.int o.kind, .int o.a, .int o.b, .int o.c, .int o.d, .int o.e, .int o.f])]⟩
set_option maxHeartbeats 1000000 in
theorem text8_tri (o : OpD) : Tri Tryd.prog G 34 [opV o] [] (.d (.val (.string (textO o)))) [] := by
  refine tri_W0 Tryd.func34 (by decide) irOk34 (Nat.le_of_ble_eq_true rfl) rfl ?_
  simp only [ir34, go_sem, ↓reduceIte, zA, zB, zC, zD, zE, zF, reduceCtorEq, zG, zH, zI, zJ, zK, zL, zM, zN, zO, zP]
  refine W_calld (ops8Right_tri o) rfl rfl rfl rfl ?_
  simp only [go_sem, ↓reduceIte, zA, zB, zC, zD, zE, zF, reduceCtorEq, zG, zH, zI, zJ, zK, zL, zM, zN, zO, zP]
  cases hr : opOkB o with
  | false =>
    have hp : textO o = ⟨#[]⟩ := by unfold textO; rw [if_neg (by rw [hr]; decide)]
    simp only [hp, go_sem, ↓reduceIte, zA, zB, zC, zD, zE, zF, reduceCtorEq, zG, zH, zI, zJ, zK, zL, zM, zN, zO, zP]
  | true =>
  have hp : textO o = textL (nameOf o.kind) ((numsL o).take (manyK o.kind)) := by unfold textO; rw [if_pos hr]
  have hm := manyK_le o.kind
  have hrng := nums_rng hr
  have hns := name_size o.kind
  simp only [go_sem, ↓reduceIte, zA, zB, zC, zD, zE, zF, reduceCtorEq, zG, zH, zI, zJ, zK, zL, zM, zN, zO, zP]
  refine W_calld (name8_tri o.kind) rfl rfl rfl rfl ?_
  have hnl : (numsL o).length = 6 := rfl
  have htl : ((numsL o).take (manyK o.kind)).length = manyK o.kind := by rw [List.length_take, hnl]; omega
  simp only [go_sem, ↓reduceIte, zA, zB, zC, zD, zE, zF, reduceCtorEq, zG, zH, zI, zJ, zK, zL, zM, zN, zO, zP]
  refine W_loopI [1, 3, 4] [] (fun p : Nat × ByteArray => p.1 ≤ manyK o.kind ∧ p.2.size ≤ 8 + 8 * p.1 ∧ textL p.2 (((numsL o).take (manyK o.kind)).drop p.1) = textO o) (fun p => manyK o.kind - p.1) (text8S o) (0, nameOf o.kind) ?_ ⟨Nat.zero_le _, by dsimp only; omega, by rw [hp]; rfl⟩ ?_
  · simp only [text8S, Int.natCast_zero, go_sem, ↓reduceIte, zA, zB, zC, zD, zE, zF, reduceCtorEq, zG, zH, zI, zJ, zK, zL, zM, zN, zO, zP]
  rintro ⟨i, acc⟩ ⟨hi, hsz, hF⟩
  dsimp only at hi hsz hF
  simp only [text8S, go_sem, ↓reduceIte, zA, zB, zC, zD, zE, zF, reduceCtorEq, zG, zH, zI, zJ, zK, zL, zM, zN, zO, zP]
  refine W_calld (many8_tri o.kind) rfl rfl rfl rfl ?_
  simp only [go_sem, ↓reduceIte, zA, zB, zC, zD, zE, zF, reduceCtorEq, zG, zH, zI, zJ, zK, zL, zM, zN, zO, zP]
  cases hlt : decide ((i : Int) < ((manyK o.kind : Nat) : Int)) with
  | false =>
    have hi2 : i = manyK o.kind := by have := of_decide_eq_false hlt; omega
    rw [hi2, List.drop_eq_nil_of_le (by omega)] at hF
    simp only [textL] at hF
    simp only [hF, go_sem, ↓reduceIte, zA, zB, zC, zD, zE, zF, reduceCtorEq, zG, zH, zI, zJ, zK, zL, zM, zN, zO, zP]
  | true =>
  have hi2 : i < manyK o.kind := by have := of_decide_eq_true hlt; omega
  have hgc := get_mapD (f := fun n : Int => [i64 n]) 0 (show i < (numsL o).length by omega)
  have hn := hrng ((numsL o).getD i 0) (by simp [List.getD, show i < (numsL o).length by omega])
  have hd : ((numsL o).take (manyK o.kind)).drop i = (numsL o).getD i 0 :: ((numsL o).take (manyK o.kind)).drop (i + 1) := by
    rw [List.drop_eq_getElem_cons (by omega)]
    simp [List.getD, show i < (numsL o).length by omega]
  rw [hd] at hF
  generalize (numsL o).getD i 0 = n at *
  have hz := itoaB_size n hn.1 hn.2
  have h1 : acc.size + (#[32] : Array UInt8).size ≤ 9223372036854775807 := by have : (#[32] : Array UInt8).size = 1 := rfl; omega
  have h1b : acc.size + (⟨#[32]⟩ : ByteArray).size ≤ 9223372036854775807 := h1
  simp only [h1, h1b, if_true, go_sem, ↓reduceIte, zA, zB, zC, zD, zE, zF, reduceCtorEq, zG, zH, zI, zJ, zK, zL, zM, zN, zO, zP]
  refine W_calld (numbers_tri o) rfl rfl rfl rfl ?_
  have hgr : (numsR o)[i]? = some [i64 n] := by simp only [numsR]; exact hgc
  simp only [hgr, go_sem, ↓reduceIte, zA, zB, zC, zD, zE, zF, reduceCtorEq, zG, zH, zI, zJ, zK, zL, zM, zN, zO, zP]
  refine W_calld (digits_tri n hn.1 hn.2) rfl rfl rfl rfl ?_
  have hs2 : (acc ++ (⟨#[32]⟩ : ByteArray)).size = acc.size + 1 := by rw [ByteArray.size_append]; rfl
  have h2 : (acc ++ (⟨#[32]⟩ : ByteArray)).size + (itoaB n).size ≤ 9223372036854775807 := by rw [hs2]; omega
  have h2b : acc.size + (#[32] : Array UInt8).size + (itoaB n).size ≤ 9223372036854775807 := by have : (#[32] : Array UInt8).size = 1 := rfl; omega
  simp only [textL, sepB, ← ByteArray.append_assoc] at hF
  simp only [h2, h2b, if_true, go_sem, ↓reduceIte, zA, zB, zC, zD, zE, zF, reduceCtorEq, zG, zH, zI, zJ, zK, zL, zM, zN, zO, zP]
  refine W_lpI (i + 1, acc ++ (⟨#[32]⟩ : ByteArray) ++ itoaB n) ?_ ?_ ⟨by dsimp only; omega, by dsimp only; rw [ByteArray.size_append, hs2]; omega, hF⟩ (by dsimp only; omega)
  · simp only [go_sem, ↓reduceIte, zA, zB, zC, zD, zE, zF, reduceCtorEq, zG, zH, zI, zJ, zK, zL, zM, zN, zO, zP]
  · simp only [text8S, wrap_succ (show i < 9223372036854775807 by omega), go_sem, ↓reduceIte, zA, zB, zC, zD, zE, zF, reduceCtorEq, zG, zH, zI, zJ, zK, zL, zM, zN, zO, zP]
end Dv
