/- ops: a word's number. -/
import Derived.Test.YtcfcigjkijkhdaaDoorO5
set_option linter.unusedVariables false
set_option linter.unusedSimpArgs false
namespace Dv
open Go Go.Proofs
open Nat renaming reduceEqDiff → zA, reduceAdd → zB, reduceSub → zC, reduceMul → zD, reduceLT → zE, reduceLeDiff → zF
open Int renaming reduceLE → zG, reduceLT → zH, reduceToNat → zI, reduceBEq → zJ, reduceBNe → zK, reduceEq → zL, reduceAdd → zM, reduceSub → zN, reduceMul → zO, reduceNeg → zP
attribute [local go_sem] argEnv W_nil W_seq W_skip W_ret W_exit W_scope W_block W_blk W_reg W_regD W_cond WC_t WC_f WC_any Wx_c Wx_ops Wx_lp Wx_blk W_ops_nil W_opsD_q W_guard W_guardD WG_tt WG_ff WG_tf WG_ft WG_u WGD_tt WGD_ff WGD_tf WGD_ft WGD_u WE_some WED_some W_more W_mv W_pick W_new W_box W_build W_bsl W_ld1 W_ldn W_st W_nck W_bin W_eqb W_not W_cvt W_fad W_fld1 W_fldn W_ixa W_ixr W_ix1 W_ixs W_len W_lens W_mkf W_ext W_app W_min W_isnp W_isns W_eqs W_neg W_ixn W_sli W_sls WD_more WD_mv WD_pick WD_new WD_box WD_build WD_bsl WD_ld1 WD_ldn WD_st WD_nck WD_bin WD_eqb WD_not WD_cvt WD_fad WD_fld1 WD_fldn WD_ixa WD_ixr WD_ix1 WD_ixs WD_len WD_lens WD_mkf WD_ext WD_app WD_min WD_isnp WD_isns WD_eqs WD_neg WD_ixn WD_sli WD_sls effF effM bytesOf Opd.ev getE putE binV LV.int LV.bool LV.undef Go.undef LV.cells LV.toD LV.toDs splice fillL rowsOf boxOf srcRows updL objL Eff.owned nwp St.get St.obj St.put Value.oneCell' Ends adopt Ad.ap isNil St.keep St.okKeep okObj idl idlL idlO RVs.of RV.of oneOr Ends0 EndsO_iff frzs rn rnL rnO piOf eqCells eqV boundV Option.map_some Option.map_none List.append_nil List.nil_append List.cons_append List.map_nil List.map_cons List.length_nil List.length_cons List.set_cons_zero List.set_cons_succ List.take_succ_cons List.take_zero List.take_nil List.drop_succ_cons List.drop_zero List.drop_nil List.getElem?_cons_zero List.getElem?_cons_succ List.getElem?_nil List.isEmpty_nil List.isEmpty_cons List.all_cons List.all_nil List.isEmpty_nil cond_true cond_false Bool.true_and Bool.false_and Bool.and_true Bool.and_false Bool.not_true Bool.not_false Bool.or_true Bool.true_or Bool.or_false Bool.false_or true_and and_true true_or or_true Option.some.injEq LV.d.injEq DV.val.injEq Value.bool.injEq Value.int.injEq decide_true decide_false and_self Nat.zero_add Nat.add_zero if_true if_false Int.toNat_zero beq_self_eq_true Nat.zero_lt_succ Int.toNat_natCast Int.natCast_nonneg List.length_map i64 bl List.zip_cons_cons List.zip_nil_left List.zip_nil_right nwp confV stateV nodeV jobV nodesV jobsV opV msgV nodeR jobR opR msgR zeroOp zeroMsg msgsV
variable {G : Nat → Option (List DV)}

def numGo : List UInt8 → Int → Int
  | [], n => n
  | b :: l, n => if b.toNat < 48 ∨ 57 < b.toNat then -1 else numGo l (10 * n + ((b.toNat : Int) - 48))
def numW (s : ByteArray) : Int := if s.size = 0 ∨ 7 < s.size ∨ (s.data.toList[0]? = some 48 ∧ s ≠ ⟨#[48]⟩) then -1 else numGo s.data.toList 0
def nmbS (s : ByteArray) (p : Nat × Int) : St := ⟨[(0, .d (.val (.string s))), (3, .int p.2), (22, .int s.size), (23, .int p.1)], []⟩
theorem bs_len (s : ByteArray) : s.data.toList.length = s.size := rfl
theorem str_eqb (a b : ByteArray) : (a.toList == b.toList) = (a.data.toList == b.data.toList) := by
  rw [ByteArray.toList_eq, ByteArray.toList_eq]
theorem nil_eqb (s : ByteArray) : (s.toList == (⟨#[]⟩ : ByteArray).toList) = decide (s.size = 0) := by
  rw [str_eqb, ← bs_len]
  cases s.data.toList <;> rfl
theorem c48_eqb (s : ByteArray) : (s.toList == (⟨#[48]⟩ : ByteArray).toList) = decide (s = ⟨#[48]⟩) := str_eq _ _
set_option maxHeartbeats 1000000 in
theorem number_tri (s : ByteArray) : Tri Tryd.prog G 53 [.d (.val (.string s))] [] (.int (numW s)) [] := by
  have hbl := bs_len s
  generalize hq : numW s = q
  unfold numW at hq
  refine tri_W0 Tryd.func53 (by decide) irOk53 (Nat.le_of_ble_eq_true rfl) rfl ?_
  simp only [ir53, go_sem, ↓reduceIte, zA, zB, zC, zD, zE, zF, reduceCtorEq, zG, zH, zI, zJ, zK, zL, zM, zN, zO, zP]
  simp only [nil_eqb, c48_eqb, go_sem, ↓reduceIte, zA, zB, zC, zD, zE, zF, reduceCtorEq, zG, zH, zI, zJ, zK, zL, zM, zN, zO, zP]
  by_cases h0 : s.size = 0
  · rw [if_pos (.inl h0)] at hq
    simp only [h0, hq, go_sem, ↓reduceIte, zA, zB, zC, zD, zE, zF, reduceCtorEq, zG, zH, zI, zJ, zK, zL, zM, zN, zO, zP]
  by_cases h7 : 7 < s.size
  · rw [if_pos (.inr (.inl h7))] at hq
    simp only [h0, hq, show ((s.size : Nat) : Int) > 7 from by omega, go_sem, ↓reduceIte, zA, zB, zC, zD, zE, zF, reduceCtorEq, zG, zH, zI, zJ, zK, zL, zM, zN, zO, zP]
  have hnn : s.data.toList ≠ [] := by intro h; rw [h] at hbl; simp at hbl; omega
  obtain ⟨b, l, hd⟩ := List.exists_cons_of_ne_nil hnn
  have hb8 : ((b.toNat : Int) == 48) = decide (b = 48) := by
    rw [Bool.eq_iff_iff, beq_iff_eq, decide_eq_true_eq]
    constructor
    · intro h; exact UInt8.toNat_inj.1 (by rw [show b.toNat = 48 by omega]; rfl)
    · intro h; rw [h]; rfl
  simp only [h0, hd, hb8, show ¬ ((s.size : Nat) : Int) > 7 from by omega, go_sem, ↓reduceIte, zA, zB, zC, zD, zE, zF, reduceCtorEq, zG, zH, zI, zJ, zK, zL, zM, zN, zO, zP]
  by_cases hz : b = 48 ∧ s ≠ ⟨#[48]⟩
  · rw [if_pos (.inr (.inr ⟨by rw [hd, hz.1]; rfl, hz.2⟩))] at hq
    simp only [hz.1, hz.2, hq, c48_eqb, go_sem, ↓reduceIte, zA, zB, zC, zD, zE, zF, reduceCtorEq, zG, zH, zI, zJ, zK, zL, zM, zN, zO, zP]
  have hnz : ¬ (s.size = 0 ∨ 7 < s.size ∨ (s.data.toList[0]? = some 48 ∧ s ≠ ⟨#[48]⟩)) := by
    rintro (h | h | ⟨h, h2⟩)
    · exact h0 h
    · exact h7 h
    · exact hz ⟨by rw [hd] at h; exact Option.some.inj h, h2⟩
  rw [if_neg hnz] at hq
  have hz2 : (decide (b = 48)) = true → s = ⟨#[48]⟩ := fun h => Decidable.byContradiction fun h2 => hz ⟨of_decide_eq_true h, h2⟩
  have hgo : (∃ u, b = 48 ∧ s = ⟨#[48]⟩ ∧ u = 0) ∨ b ≠ 48 := by
    by_cases hb : b = 48
    · exact .inl ⟨0, hb, hz2 (decide_eq_true hb), rfl⟩
    · exact .inr hb
  rcases hgo with ⟨_, hb, hs, _⟩ | hb
  · simp only [hb, c48_eqb, decide_eq_true hs, go_sem, ↓reduceIte, zA, zB, zC, zD, zE, zF, reduceCtorEq, zG, zH, zI, zJ, zK, zL, zM, zN, zO, zP]
    refine W_loopI [0, 3, 22, 23] [] (fun p : Nat × Int => p.1 ≤ s.size ∧ 0 ≤ p.2 ∧ p.2 < 10 ^ p.1 ∧ numGo (s.data.toList.drop p.1) p.2 = q) (fun p => s.size - p.1) (nmbS s) (0, 0) ?_ ⟨Nat.zero_le _, Int.le_refl _, by decide, by rw [← hq]; rfl⟩ ?_
    · simp only [nmbS, Int.natCast_zero, go_sem, ↓reduceIte, zA, zB, zC, zD, zE, zF, reduceCtorEq, zG, zH, zI, zJ, zK, zL, zM, zN, zO, zP]
    rintro ⟨i, n⟩ ⟨hi, hn0, hn1, hF⟩
    dsimp only at hi hn0 hn1 hF
    simp only [nmbS, go_sem, ↓reduceIte, zA, zB, zC, zD, zE, zF, reduceCtorEq, zG, zH, zI, zJ, zK, zL, zM, zN, zO, zP]
    by_cases hlt : i < s.size
    case neg =>
      rw [List.drop_eq_nil_of_le (by omega), numGo] at hF
      simp only [decide_eq_false (show ¬ ((i : Nat) : Int) < ((s.size : Nat) : Int) by omega), hF, go_sem, ↓reduceIte, zA, zB, zC, zD, zE, zF, reduceCtorEq, zG, zH, zI, zJ, zK, zL, zM, zN, zO, zP]
    have hdi : s.data.toList.drop i = s.data.toList[i]'(by omega) :: s.data.toList.drop (i + 1) := List.drop_eq_getElem_cons (by omega)
    have hgi := List.getElem?_eq_getElem (show i < s.data.toList.length by omega)
    rw [hdi, numGo] at hF
    generalize s.data.toList[i]'(by omega) = c at *
    have hc := c.toNat_lt
    simp only [decide_eq_true (show ((i : Nat) : Int) < ((s.size : Nat) : Int) by omega), hgi, go_sem, ↓reduceIte, zA, zB, zC, zD, zE, zF, reduceCtorEq, zG, zH, zI, zJ, zK, zL, zM, zN, zO, zP]
    by_cases h48 : c.toNat < 48
    · rw [if_pos (.inl h48)] at hF
      simp only [decide_eq_true (show ((c.toNat : Nat) : Int) < 48 by omega), hF, go_sem, ↓reduceIte, zA, zB, zC, zD, zE, zF, reduceCtorEq, zG, zH, zI, zJ, zK, zL, zM, zN, zO, zP]
    by_cases h57 : 57 < c.toNat
    · rw [if_pos (.inr h57)] at hF
      simp only [decide_eq_false (show ¬ ((c.toNat : Nat) : Int) < 48 by omega), decide_eq_true (show ((c.toNat : Nat) : Int) > 57 by omega), hgi, hF, go_sem, ↓reduceIte, zA, zB, zC, zD, zE, zF, reduceCtorEq, zG, zH, zI, zJ, zK, zL, zM, zN, zO, zP]
    rw [if_neg (by omega)] at hF
    have hp : n < 10 ^ 6 := Int.lt_of_lt_of_le hn1 (by exact_mod_cast Nat.pow_le_pow_right (by decide) (show i ≤ 6 by omega))
    simp only [decide_eq_false (show ¬ ((c.toNat : Nat) : Int) < 48 by omega), decide_eq_false (show ¬ ((c.toNat : Nat) : Int) > 57 by omega), hgi, go_sem, ↓reduceIte, zA, zB, zC, zD, zE, zF, reduceCtorEq, zG, zH, zI, zJ, zK, zL, zM, zN, zO, zP]
    have w1 : IntKind.i64.wrap (10 * n) = 10 * n := wrap_in (by omega) (by omega)
    have w2 : IntKind.u8.wrap ((c.toNat : Int) - 48) = (c.toNat : Int) - 48 := u8_in _ (by omega) (by omega)
    have w3 : IntKind.i64.wrap ((c.toNat : Int) - 48) = (c.toNat : Int) - 48 := wrap_in (by omega) (by omega)
    have w4 : IntKind.i64.wrap (10 * n + ((c.toNat : Int) - 48)) = 10 * n + ((c.toNat : Int) - 48) := wrap_in (by omega) (by omega)
    refine W_lpI (i + 1, 10 * n + ((c.toNat : Int) - 48)) ?_ ?_ ⟨by dsimp only; omega, by dsimp only; omega, by dsimp only; rw [Int.pow_succ]; omega, hF⟩ (by dsimp only; omega)
    · simp only [go_sem, ↓reduceIte, zA, zB, zC, zD, zE, zF, reduceCtorEq, zG, zH, zI, zJ, zK, zL, zM, zN, zO, zP]
    · simp only [nmbS, w1, w2, w3, w4, wrap_succ (show i < 9223372036854775807 by omega), go_sem, ↓reduceIte, zA, zB, zC, zD, zE, zF, reduceCtorEq, zG, zH, zI, zJ, zK, zL, zM, zN, zO, zP]
  · simp only [hb, go_sem, ↓reduceIte, zA, zB, zC, zD, zE, zF, reduceCtorEq, zG, zH, zI, zJ, zK, zL, zM, zN, zO, zP]
    refine W_loopI [0, 3, 22, 23] [] (fun p : Nat × Int => p.1 ≤ s.size ∧ 0 ≤ p.2 ∧ p.2 < 10 ^ p.1 ∧ numGo (s.data.toList.drop p.1) p.2 = q) (fun p => s.size - p.1) (nmbS s) (0, 0) ?_ ⟨Nat.zero_le _, Int.le_refl _, by decide, by rw [← hq]; rfl⟩ ?_
    · simp only [nmbS, Int.natCast_zero, go_sem, ↓reduceIte, zA, zB, zC, zD, zE, zF, reduceCtorEq, zG, zH, zI, zJ, zK, zL, zM, zN, zO, zP]
    rintro ⟨i, n⟩ ⟨hi, hn0, hn1, hF⟩
    dsimp only at hi hn0 hn1 hF
    simp only [nmbS, go_sem, ↓reduceIte, zA, zB, zC, zD, zE, zF, reduceCtorEq, zG, zH, zI, zJ, zK, zL, zM, zN, zO, zP]
    by_cases hlt : i < s.size
    case neg =>
      rw [List.drop_eq_nil_of_le (by omega), numGo] at hF
      simp only [decide_eq_false (show ¬ ((i : Nat) : Int) < ((s.size : Nat) : Int) by omega), hF, go_sem, ↓reduceIte, zA, zB, zC, zD, zE, zF, reduceCtorEq, zG, zH, zI, zJ, zK, zL, zM, zN, zO, zP]
    have hdi : s.data.toList.drop i = s.data.toList[i]'(by omega) :: s.data.toList.drop (i + 1) := List.drop_eq_getElem_cons (by omega)
    have hgi := List.getElem?_eq_getElem (show i < s.data.toList.length by omega)
    rw [hdi, numGo] at hF
    generalize s.data.toList[i]'(by omega) = c at *
    have hc := c.toNat_lt
    simp only [decide_eq_true (show ((i : Nat) : Int) < ((s.size : Nat) : Int) by omega), hgi, go_sem, ↓reduceIte, zA, zB, zC, zD, zE, zF, reduceCtorEq, zG, zH, zI, zJ, zK, zL, zM, zN, zO, zP]
    by_cases h48 : c.toNat < 48
    · rw [if_pos (.inl h48)] at hF
      simp only [decide_eq_true (show ((c.toNat : Nat) : Int) < 48 by omega), hF, go_sem, ↓reduceIte, zA, zB, zC, zD, zE, zF, reduceCtorEq, zG, zH, zI, zJ, zK, zL, zM, zN, zO, zP]
    by_cases h57 : 57 < c.toNat
    · rw [if_pos (.inr h57)] at hF
      simp only [decide_eq_false (show ¬ ((c.toNat : Nat) : Int) < 48 by omega), decide_eq_true (show ((c.toNat : Nat) : Int) > 57 by omega), hgi, hF, go_sem, ↓reduceIte, zA, zB, zC, zD, zE, zF, reduceCtorEq, zG, zH, zI, zJ, zK, zL, zM, zN, zO, zP]
    rw [if_neg (by omega)] at hF
    have hp : n < 10 ^ 6 := Int.lt_of_lt_of_le hn1 (by exact_mod_cast Nat.pow_le_pow_right (by decide) (show i ≤ 6 by omega))
    simp only [decide_eq_false (show ¬ ((c.toNat : Nat) : Int) < 48 by omega), decide_eq_false (show ¬ ((c.toNat : Nat) : Int) > 57 by omega), hgi, go_sem, ↓reduceIte, zA, zB, zC, zD, zE, zF, reduceCtorEq, zG, zH, zI, zJ, zK, zL, zM, zN, zO, zP]
    have w1 : IntKind.i64.wrap (10 * n) = 10 * n := wrap_in (by omega) (by omega)
    have w2 : IntKind.u8.wrap ((c.toNat : Int) - 48) = (c.toNat : Int) - 48 := u8_in _ (by omega) (by omega)
    have w3 : IntKind.i64.wrap ((c.toNat : Int) - 48) = (c.toNat : Int) - 48 := wrap_in (by omega) (by omega)
    have w4 : IntKind.i64.wrap (10 * n + ((c.toNat : Int) - 48)) = 10 * n + ((c.toNat : Int) - 48) := wrap_in (by omega) (by omega)
    refine W_lpI (i + 1, 10 * n + ((c.toNat : Int) - 48)) ?_ ?_ ⟨by dsimp only; omega, by dsimp only; omega, by dsimp only; rw [Int.pow_succ]; omega, hF⟩ (by dsimp only; omega)
    · simp only [go_sem, ↓reduceIte, zA, zB, zC, zD, zE, zF, reduceCtorEq, zG, zH, zI, zJ, zK, zL, zM, zN, zO, zP]
    · simp only [nmbS, w1, w2, w3, w4, wrap_succ (show i < 9223372036854775807 by omega), go_sem, ↓reduceIte, zA, zB, zC, zD, zE, zF, reduceCtorEq, zG, zH, zI, zJ, zK, zL, zM, zN, zO, zP]
end Dv
