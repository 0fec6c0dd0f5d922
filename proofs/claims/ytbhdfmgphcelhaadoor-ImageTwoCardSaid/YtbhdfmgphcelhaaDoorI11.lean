/- The document's lists as bytes; the same bytes. -/
import Derived.Test.YtbhdfmgphcelhaaDoorI10
set_option linter.unusedVariables false
set_option linter.unusedSimpArgs false
namespace Dv
open Go Go.Proofs
open Nat renaming reduceEqDiff → zA, reduceAdd → zB, reduceSub → zC, reduceMul → zD, reduceLT → zE, reduceLeDiff → zF
open Int renaming reduceLE → zG, reduceLT → zH, reduceToNat → zI, reduceBEq → zJ, reduceBNe → zK, reduceEq → zL, reduceAdd → zM, reduceSub → zN, reduceMul → zO, reduceNeg → zP
attribute [local go_sem] argEnv W_nil W_seq W_skip W_ret W_exit W_scope W_block W_blk W_reg W_regD W_cond WC_t WC_f WC_any Wx_c Wx_ops Wx_lp Wx_blk W_ops_nil W_opsD_q W_guard W_guardD WG_tt WG_ff WG_tf WG_ft WG_u WGD_tt WGD_ff WGD_tf WGD_ft WGD_u WE_some WED_some W_mv W_pick W_new W_box W_build W_bsl W_ld1 W_ldn W_st W_nck W_bin W_eqb W_not W_cvt W_fad W_fld1 W_fldn W_ixa W_ixr W_ix1 W_ixs W_len W_lens W_mkf W_ext W_app W_min W_isnp W_isns W_eqs W_neg W_ixn W_sli W_sls WD_mv WD_pick WD_new WD_box WD_build WD_bsl WD_ld1 WD_ldn WD_st WD_nck WD_bin WD_eqb WD_not WD_cvt WD_fad WD_fld1 WD_fldn WD_ixa WD_ixr WD_ix1 WD_ixs WD_len WD_lens WD_mkf WD_ext WD_app WD_min WD_isnp WD_isns WD_eqs WD_neg WD_ixn WD_sli WD_sls effF Opd.ev getE putE binV LV.int LV.bool LV.undef Go.undef LV.cells LV.toD LV.toDs splice fillL rowsOf srcRows updL objL Eff.owned nwp St.get St.obj St.put Value.oneCell' Ends adopt Ad.ap isNil St.keep St.okKeep okObj idl idlL idlO RVs.of RV.of oneOr Ends0 EndsO_iff frzs rn rnL rnO piOf eqCells eqV boundV Option.map_some Option.map_none List.append_nil List.nil_append List.cons_append List.map_nil List.map_cons List.length_nil List.length_cons List.set_cons_zero List.set_cons_succ List.take_succ_cons List.take_zero List.take_nil List.drop_succ_cons List.drop_zero List.drop_nil List.getElem?_cons_zero List.getElem?_cons_succ List.getElem?_nil List.isEmpty_nil List.isEmpty_cons List.all_cons List.all_nil List.isEmpty_nil cond_true cond_false Bool.true_and Bool.false_and Bool.and_true Bool.and_false Bool.not_true Bool.not_false Bool.or_true Bool.true_or Bool.or_false Bool.false_or true_and and_true true_or or_true Option.some.injEq LV.d.injEq DV.val.injEq Value.bool.injEq Value.int.injEq decide_true decide_false and_self Nat.zero_add Nat.add_zero if_true if_false Int.toNat_zero beq_self_eq_true Nat.zero_lt_succ Int.toNat_natCast Int.natCast_nonneg List.length_map i64 bl List.zip_cons_cons List.zip_nil_left List.zip_nil_right nwp confV stateV nodeV jobV nodesV jobsV opV msgV nodeR jobR opR msgR zeroOp zeroMsg msgsV
variable {G : Nat → Option (List DV)}

/-- dunnageref01.Bytes -/
def ir7 : Nat × C × List RV := (26,
(.seq (.reg [⟨(some 4), .mv (.c (.val (.bool false))), none, []⟩])
 (.seq (.seq (.reg [⟨(some 6), .mv (.t 0), none, []⟩,
 ⟨(some 7), .len (.t 6), none, []⟩,
 ⟨(some 8), .mv (.t 1), none, []⟩,
 ⟨(some 9), .len (.t 8), none, []⟩,
 ⟨(some 10), .bin .neq (.t 7) (.t 9), none, []⟩])
 (.cond (.t 10) (.seq (.reg [⟨(some 4), .mv (.c (.val (.bool false))), none, []⟩])
 .ret)
 .skip))
 (.seq (.seq (.reg [⟨(some 5), .mv (.c (.val (.int .i64 0))), none, []⟩])
 (.block 0 (.loop (.seq (.seq (.reg [⟨(some 11), .mv (.t 5), none, []⟩,
 ⟨(some 12), .mv (.t 0), none, []⟩,
 ⟨(some 13), .len (.t 12), none, []⟩,
 ⟨(some 14), .bin .lss (.t 11) (.t 13), none, []⟩])
 (.cond (.t 14) .skip
 (.exit 0)))
 (.seq (.block 1 (.seq (.regD [⟨(some 17), .mv (.t 0), none, []⟩,
 ⟨(some 18), .mv (.t 5), none, []⟩,
 ⟨(some 19), .ixa 1 (.t 17) (.t 18), none, [0, 1]⟩,
 ⟨(some 20), .ld1 (.t 19), none, [2, 0, 1]⟩,
 ⟨(some 21), .mv (.t 1), none, []⟩,
 ⟨(some 22), .mv (.t 5), none, []⟩,
 ⟨(some 23), .ixa 1 (.t 21) (.t 22), none, [4, 5]⟩,
 ⟨(some 24), .ld1 (.t 23), none, [6, 4, 5]⟩,
 ⟨(some 25), .bin .neq (.t 20) (.t 24), none, [3, 2, 0, 1, 7, 6, 4, 5]⟩])
 (.cond (.t 25) (.seq (.reg [⟨(some 4), .mv (.c (.val (.bool false))), none, []⟩])
 .ret)
 .skip)))
 (.reg [⟨(some 15), .mv (.t 5), none, []⟩,
 ⟨(some 16), .bin .add (.t 15) (.c (.val (.int .i64 1))), none, []⟩,
 ⟨(some 5), .mv (.t 16), none, []⟩]))))))
 (.seq (.reg [⟨(some 4), .mv (.c (.val (.bool true))), none, []⟩])
 .ret)))),
[(.t 4)])
theorem irOk7 : convFn Tryd.prog Tryd.f7 = some ir7 := by kernel_rfl

attribute [local go_sem] u8 bytesV numR

theorem dropD_cons {α : Type} (l : List α) (k : Nat) (z : α) (h : k < l.length) : l.drop k = l.getD k z :: l.drop (k + 1) := by
  rw [List.drop_eq_getElem_cons h]; simp [List.getD, h]
theorem dropD_dec {α : Type} [DecidableEq α] (l m : List α) (k : Nat) (z : α) (h1 : k < l.length) (h2 : k < m.length) : decide (l.drop k = m.drop k) = (decide (l.getD k z = m.getD k z) && decide (l.drop (k + 1) = m.drop (k + 1))) := by
  rw [dropD_cons l k z h1, dropD_cons m k z h2, Bool.eq_iff_iff]
  simp
def bytesS (a b : List Int) (k : Nat) : St := ⟨[(0, bytesV a), (1, bytesV b), (5, .int k)], []⟩
theorem bytes_tri (a b : List Int) (ha : a.length ≤ 1000000000) : Tri Tryd.prog G 7 [bytesV a, bytesV b] [] (.bool (decide (a = b))) [] := by
  have hla : (byteR a).length = a.length := by simp [byteR]
  have hlb : (byteR b).length = b.length := by simp [byteR]
  refine tri_W0 Tryd.func7 (by decide) irOk7 (Nat.le_of_ble_eq_true rfl) rfl ?_
  simp only [ir7, go_sem, ↓reduceIte, zA, zB, zC, zD, zE, zF, reduceCtorEq, zG, zH, zI, zJ, zK, zL, zM, zN, zO, zP]
  simp only [hla, hlb, go_sem, ↓reduceIte, zA, zB, zC, zD, zE, zF, reduceCtorEq, zG, zH, zI, zJ, zK, zL, zM, zN, zO, zP]
  by_cases hl : a.length = b.length
  case neg =>
    have h1 : ((a.length : Int) != (b.length : Int)) = true := bne_iff_ne.2 (by omega)
    simp only [h1, decide_eq_false (show ¬ a = b from fun e => hl (by rw [e])), go_sem, ↓reduceIte, zA, zB, zC, zD, zE, zF, reduceCtorEq, zG, zH, zI, zJ, zK, zL, zM, zN, zO, zP]
  have h1 : ((a.length : Int) != (b.length : Int)) = false := by rw [hl]; simp
  simp only [h1, go_sem, ↓reduceIte, zA, zB, zC, zD, zE, zF, reduceCtorEq, zG, zH, zI, zJ, zK, zL, zM, zN, zO, zP]
  generalize hq : decide (a = b) = r
  refine W_loopI [0, 1, 5] [] (fun k : Nat => k ≤ a.length ∧ decide (a.drop k = b.drop k) = r) (fun k => a.length - k) (bytesS a b) 0 ?_ ⟨Nat.zero_le _, hq⟩ ?_
  · simp only [bytesS, Int.natCast_zero, go_sem, ↓reduceIte, zA, zB, zC, zD, zE, zF, reduceCtorEq, zG, zH, zI, zJ, zK, zL, zM, zN, zO, zP]
  rintro k ⟨hk, hF⟩
  simp only [bytesS, hla, hlb, go_sem, ↓reduceIte, zA, zB, zC, zD, zE, zF, reduceCtorEq, zG, zH, zI, zJ, zK, zL, zM, zN, zO, zP]
  cases hlt : decide ((k : Int) < (a.length : Int)) with
  | false =>
    obtain rfl : k = a.length := by have := of_decide_eq_false hlt; omega
    have : r = true := by rw [← hF, List.drop_length, List.drop_eq_nil_of_le (by omega)]; rfl
    subst this
    simp only [go_sem, ↓reduceIte, zA, zB, zC, zD, zE, zF, reduceCtorEq, zG, zH, zI, zJ, zK, zL, zM, zN, zO, zP]
  | true =>
  have h2 : k < a.length := by have := of_decide_eq_true hlt; omega
  have h3 : k < b.length := by omega
  rw [dropD_dec a b k 0 h2 h3] at hF
  have hg := get_mapD (f := fun n : Int => [u8 n]) 0 h2
  have hg2 := get_mapD (f := fun n : Int => [u8 n]) 0 h3
  generalize a.getD k 0 = x at *
  generalize b.getD k 0 = y at *
  simp only [u8] at hg hg2
  simp only [byteR, hg, hg2, go_sem, ↓reduceIte, zA, zB, zC, zD, zE, zF, reduceCtorEq, zG, zH, zI, zJ, zK, zL, zM, zN, zO, zP]
  by_cases hxy : x = y
  · rw [decide_eq_true hxy, Bool.true_and] at hF
    have h4 : (x != y) = false := by rw [hxy]; simp
    simp only [h4, go_sem, ↓reduceIte, zA, zB, zC, zD, zE, zF, reduceCtorEq, zG, zH, zI, zJ, zK, zL, zM, zN, zO, zP]
    refine W_lpI (k + 1) ?_ ?_ ⟨by omega, hF⟩ (by omega)
    · simp only [go_sem, ↓reduceIte, zA, zB, zC, zD, zE, zF, reduceCtorEq, zG, zH, zI, zJ, zK, zL, zM, zN, zO, zP]
    · simp only [bytesS, byteR, go_sem, ↓reduceIte, zA, zB, zC, zD, zE, zF, reduceCtorEq, zG, zH, zI, zJ, zK, zL, zM, zN, zO, zP, wrap_succ (show k < 9223372036854775807 by omega)]
  · rw [decide_eq_false hxy, Bool.false_and] at hF
    have h4 : (x != y) = true := bne_iff_ne.2 hxy
    subst hF
    simp only [h4, go_sem, ↓reduceIte, zA, zB, zC, zD, zE, zF, reduceCtorEq, zG, zH, zI, zJ, zK, zL, zM, zN, zO, zP]

def li1S (l : List Int) (i : Nat) : St := ⟨[(0, .d (.lst 1 (numR l))), (3, .sl 0 (numB l.length ++ (l.take i).flatMap numB).length 1 0 (numB l.length ++ (l.take i).flatMap numB).length), (4, .int i)], [some (.dat 5 1 (byteR (numB l.length ++ (l.take i).flatMap numB)))]⟩
def li1T (l pre b : List Int) (i k : Nat) : St := ⟨[(0, .d (.lst 1 (numR l))), (3, .sl 0 (pre ++ b.take k).length 1 0 (pre ++ b.take k).length), (4, .int i), (5, bytesV b), (6, .int k)], [some (.dat 5 1 (byteR (pre ++ b.take k)))]⟩
end Dv
