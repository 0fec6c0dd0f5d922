/- The document's lists as bytes; the same bytes. -/
import Derived.Test.YtehbfgkhcmepbaaDoorI10
set_option linter.unusedVariables false
set_option linter.unusedSimpArgs false
namespace Dv
open Go Go.Proofs
open Nat renaming reduceEqDiff → zA, reduceAdd → zB, reduceSub → zC, reduceMul → zD, reduceLT → zE, reduceLeDiff → zF
open Int renaming reduceLE → zG, reduceLT → zH, reduceToNat → zI, reduceBEq → zJ, reduceBNe → zK, reduceEq → zL, reduceAdd → zM, reduceSub → zN, reduceMul → zO, reduceNeg → zP
attribute [local go_sem] argEnv W_nil W_seq W_skip W_ret W_exit W_scope W_block W_blk W_reg W_regD W_cond WC_t WC_f WC_any Wx_c Wx_ops Wx_lp Wx_blk W_ops_nil W_opsD_q W_guard W_guardD WG_tt WG_ff WG_tf WG_ft WG_u WGD_tt WGD_ff WGD_tf WGD_ft WGD_u WE_some WED_some W_more W_mv W_pick W_new W_box W_build W_bsl W_ld1 W_ldn W_st W_nck W_bin W_eqb W_not W_cvt W_fad W_fld1 W_fldn W_ixa W_ixr W_ix1 W_ixs W_len W_lens W_mkf W_ext W_app W_min W_isnp W_isns W_eqs W_neg W_ixn W_sli W_sls WD_more WD_mv WD_pick WD_new WD_box WD_build WD_bsl WD_ld1 WD_ldn WD_st WD_nck WD_bin WD_eqb WD_not WD_cvt WD_fad WD_fld1 WD_fldn WD_ixa WD_ixr WD_ix1 WD_ixs WD_len WD_lens WD_mkf WD_ext WD_app WD_min WD_isnp WD_isns WD_eqs WD_neg WD_ixn WD_sli WD_sls effF effM bytesOf Opd.ev getE putE binV LV.int LV.bool LV.undef Go.undef LV.cells LV.toD LV.toDs splice fillL rowsOf srcRows updL objL Eff.owned nwp St.get St.obj St.put Value.oneCell' Ends adopt Ad.ap isNil St.keep St.okKeep okObj idl idlL idlO RVs.of RV.of oneOr Ends0 EndsO_iff frzs rn rnL rnO piOf eqCells eqV boundV Option.map_some Option.map_none List.append_nil List.nil_append List.cons_append List.map_nil List.map_cons List.length_nil List.length_cons List.set_cons_zero List.set_cons_succ List.take_succ_cons List.take_zero List.take_nil List.drop_succ_cons List.drop_zero List.drop_nil List.getElem?_cons_zero List.getElem?_cons_succ List.getElem?_nil List.isEmpty_nil List.isEmpty_cons List.all_cons List.all_nil List.isEmpty_nil cond_true cond_false Bool.true_and Bool.false_and Bool.and_true Bool.and_false Bool.not_true Bool.not_false Bool.or_true Bool.true_or Bool.or_false Bool.false_or true_and and_true true_or or_true Option.some.injEq LV.d.injEq DV.val.injEq Value.bool.injEq Value.int.injEq decide_true decide_false and_self Nat.zero_add Nat.add_zero if_true if_false Int.toNat_zero beq_self_eq_true Nat.zero_lt_succ Int.toNat_natCast Int.natCast_nonneg List.length_map i64 bl List.zip_cons_cons List.zip_nil_left List.zip_nil_right nwp confV stateV nodeV jobV nodesV jobsV opV msgV nodeR jobR opR msgR zeroOp zeroMsg msgsV
variable {G : Nat → Option (List DV)}

/-- dunnageref01.Bytes -/
def ir13 : Nat × C × List RV := (26,
(.seq (.reg [⟨(some 4), .mv (.c (.val (.bool false))), none, []⟩])
 (.seq (.seq (.reg [⟨(some 6), .mv (.t 0), none, []⟩,
 ⟨(some 7), .len (.t 6), none, []⟩,
 ⟨(some 8), .mv (.t 1), none, []⟩,
 ⟨(some 9), .len (.t 8), none, []⟩,
 ⟨(some 10), .bin .neq (.t 7) (.t 9), none, []⟩])
 (.cond (.t 10) (.seq (.reg [⟨(some 4), .mv (.c (.val (.bool false))), none, []⟩])
 .ret)
 .skip))
 (.seq (.seq (.reg [⟨(some 5), .mv (.c (.val (.int .i64 0))), none, []⟩])
 (.block 0 (.loop (.seq (.seq (.reg [⟨(some 11), .mv (.t 5), none, []⟩,
 ⟨(some 12), .mv (.t 0), none, []⟩,
 ⟨(some 13), .len (.t 12), none, []⟩,
 ⟨(some 14), .bin .lss (.t 11) (.t 13), none, []⟩])
 (.cond (.t 14) .skip
 (.exit 0)))
 (.seq (.block 1 (.seq (.regD [⟨(some 17), .mv (.t 0), none, []⟩,
 ⟨(some 18), .mv (.t 5), none, []⟩,
 ⟨(some 19), .ixa 1 (.t 17) (.t 18), none, [0, 1]⟩,
 ⟨(some 20), .ld1 (.t 19), none, [2, 0, 1]⟩,
 ⟨(some 21), .mv (.t 1), none, []⟩,
 ⟨(some 22), .mv (.t 5), none, []⟩,
 ⟨(some 23), .ixa 1 (.t 21) (.t 22), none, [4, 5]⟩,
 ⟨(some 24), .ld1 (.t 23), none, [6, 4, 5]⟩,
 ⟨(some 25), .bin .neq (.t 20) (.t 24), none, [3, 2, 0, 1, 7, 6, 4, 5]⟩])
 (.cond (.t 25) (.seq (.reg [⟨(some 4), .mv (.c (.val (.bool false))), none, []⟩])
 .ret)
 .skip)))
 (.reg [⟨(some 15), .mv (.t 5), none, []⟩,
 ⟨(some 16), .bin .add (.t 15) (.c (.val (.int .i64 1))), none, []⟩,
 ⟨(some 5), .mv (.t 16), none, []⟩]))))))
 (.seq (.reg [⟨(some 4), .mv (.c (.val (.bool true))), none, []⟩])
 .ret)))),
[(.t 4)])
theorem irOk13 : convFn Tryd.prog Tryd.f13 = some ir13 := by kernel_rfl
/-- dunnageref01.List -/
def ir30 : Nat × C × List RV := (41,
(.seq (.reg [⟨(some 2), .mv (.c (.val (.slice none 0 0))), none, []⟩])
 (.seq (.reg [⟨(some 7), .mv (.t 0), none, []⟩,
 ⟨(some 8), .len (.t 7), none, []⟩,
 ⟨(some 9), .call (.f 39) [(.t 8)], none, []⟩,
 ⟨(some 3), .mv (.t 9), none, []⟩])
 (.seq (.seq (.reg [⟨(some 4), .mv (.c (.val (.int .i64 0))), none, []⟩])
 (.block 0 (.loop (.seq (.seq (.reg [⟨(some 10), .mv (.t 4), none, []⟩,
 ⟨(some 11), .mv (.t 0), none, []⟩,
 ⟨(some 12), .len (.t 11), none, []⟩,
 ⟨(some 13), .bin .lss (.t 10) (.t 12), none, []⟩])
 (.cond (.t 13) .skip
 (.exit 0)))
 (.seq (.block 1 (.seq (.seq (.reg [⟨(some 16), .mv (.t 0), none, []⟩,
 ⟨(some 17), .mv (.t 4), none, []⟩,
 ⟨(some 18), .ixa 1 (.t 16) (.t 17), none, []⟩,
 ⟨(some 19), .ld1 (.t 18), none, []⟩,
 ⟨(some 20), .call (.f 40) [(.t 19)], none, []⟩,
 ⟨(some 21), .not (.t 20), none, []⟩])
 (.cond (.t 21) (.seq (.reg [⟨(some 2), .mv (.c (.val (.slice none 0 0))), none, []⟩])
 .ret)
 .skip))
 (.seq (.reg [⟨(some 22), .mv (.t 0), none, []⟩,
 ⟨(some 23), .mv (.t 4), none, []⟩,
 ⟨(some 24), .ixa 1 (.t 22) (.t 23), none, []⟩,
 ⟨(some 25), .ld1 (.t 24), none, []⟩,
 ⟨(some 26), .call (.f 39) [(.t 25)], none, []⟩,
 ⟨(some 5), .mv (.t 26), none, []⟩])
 (.seq (.reg [⟨(some 6), .mv (.c (.val (.int .i64 0))), none, []⟩])
 (.block 2 (.loop (.seq (.seq (.reg [⟨(some 27), .mv (.t 6), none, []⟩,
 ⟨(some 28), .mv (.t 5), none, []⟩,
 ⟨(some 29), .len (.t 28), none, []⟩,
 ⟨(some 30), .bin .lss (.t 27) (.t 29), none, []⟩])
 (.cond (.t 30) .skip
 (.exit 2)))
 (.seq (.block 3 (.reg [⟨(some 33), .mv (.t 3), none, []⟩,
 ⟨(some 34), .mv (.t 5), none, []⟩,
 ⟨(some 35), .mv (.t 6), none, []⟩,
 ⟨(some 36), .ixa 1 (.t 34) (.t 35), none, []⟩,
 ⟨(some 37), .ld1 (.t 36), none, []⟩,
 ⟨(some 38), .bsl 5 1 [(.t 37)], none, []⟩,
 ⟨(some 39), .app 5 1 1 (.t 33) (.t 38), none, []⟩,
 ⟨(some 3), .mv (.t 39), none, []⟩]))
 (.reg [⟨(some 31), .mv (.t 6), none, []⟩,
 ⟨(some 32), .bin .add (.t 31) (.c (.val (.int .i64 1))), none, []⟩,
 ⟨(some 6), .mv (.t 32), none, []⟩])))))))))
 (.reg [⟨(some 14), .mv (.t 4), none, []⟩,
 ⟨(some 15), .bin .add (.t 14) (.c (.val (.int .i64 1))), none, []⟩,
 ⟨(some 4), .mv (.t 15), none, []⟩]))))))
 (.seq (.reg [⟨(some 40), .mv (.t 3), none, []⟩,
 ⟨(some 2), .mv (.t 40), none, []⟩])
 .ret)))),
[(.t 2)])
theorem irOk30 : convFn Tryd.prog Tryd.f30 = some ir30 := by kernel_rfl

attribute [local go_sem] u8 bytesV numR

theorem dropD_cons {α : Type} (l : List α) (k : Nat) (z : α) (h : k < l.length) : l.drop k = l.getD k z :: l.drop (k + 1) := by
  rw [List.drop_eq_getElem_cons h]; simp [List.getD, h]
theorem dropD_dec {α : Type} [DecidableEq α] (l m : List α) (k : Nat) (z : α) (h1 : k < l.length) (h2 : k < m.length) : decide (l.drop k = m.drop k) = (decide (l.getD k z = m.getD k z) && decide (l.drop (k + 1) = m.drop (k + 1))) := by
  rw [dropD_cons l k z h1, dropD_cons m k z h2, Bool.eq_iff_iff]
  simp
def bytesS (a b : List Int) (k : Nat) : St := ⟨[(0, bytesV a), (1, bytesV b), (5, .int k)], []⟩
theorem bytes_tri (a b : List Int) (ha : a.length ≤ 1000000000) : Tri Tryd.prog G 13 [bytesV a, bytesV b] [] (.bool (decide (a = b))) [] := by
  have hla : (byteR a).length = a.length := by simp [byteR]
  have hlb : (byteR b).length = b.length := by simp [byteR]
  refine tri_W0 Tryd.func13 (by decide) irOk13 (Nat.le_of_ble_eq_true rfl) rfl ?_
  simp only [ir13, go_sem, ↓reduceIte, zA, zB, zC, zD, zE, zF, reduceCtorEq, zG, zH, zI, zJ, zK, zL, zM, zN, zO, zP]
  simp only [hla, hlb, go_sem, ↓reduceIte, zA, zB, zC, zD, zE, zF, reduceCtorEq, zG, zH, zI, zJ, zK, zL, zM, zN, zO, zP]
  by_cases hl : a.length = b.length
  case neg =>
    have h1 : ((a.length : Int) != (b.length : Int)) = true := bne_iff_ne.2 (by omega)
    simp only [h1, decide_eq_false (show ¬ a = b from fun e => hl (by rw [e])), go_sem, ↓reduceIte, zA, zB, zC, zD, zE, zF, reduceCtorEq, zG, zH, zI, zJ, zK, zL, zM, zN, zO, zP]
  have h1 : ((a.length : Int) != (b.length : Int)) = false := by rw [hl]; simp
  simp only [h1, go_sem, ↓reduceIte, zA, zB, zC, zD, zE, zF, reduceCtorEq, zG, zH, zI, zJ, zK, zL, zM, zN, zO, zP]
  generalize hq : decide (a = b) = r
  refine W_loopI [0, 1, 5] [] (fun k : Nat => k ≤ a.length ∧ decide (a.drop k = b.drop k) = r) (fun k => a.length - k) (bytesS a b) 0 ?_ ⟨Nat.zero_le _, hq⟩ ?_
  · simp only [bytesS, Int.natCast_zero, go_sem, ↓reduceIte, zA, zB, zC, zD, zE, zF, reduceCtorEq, zG, zH, zI, zJ, zK, zL, zM, zN, zO, zP]
  rintro k ⟨hk, hF⟩
  simp only [bytesS, hla, hlb, go_sem, ↓reduceIte, zA, zB, zC, zD, zE, zF, reduceCtorEq, zG, zH, zI, zJ, zK, zL, zM, zN, zO, zP]
  cases hlt : decide ((k : Int) < (a.length : Int)) with
  | false =>
    obtain rfl : k = a.length := by have := of_decide_eq_false hlt; omega
    have : r = true := by rw [← hF, List.drop_length, List.drop_eq_nil_of_le (by omega)]; rfl
    subst this
    simp only [go_sem, ↓reduceIte, zA, zB, zC, zD, zE, zF, reduceCtorEq, zG, zH, zI, zJ, zK, zL, zM, zN, zO, zP]
  | true =>
  have h2 : k < a.length := by have := of_decide_eq_true hlt; omega
  have h3 : k < b.length := by omega
  rw [dropD_dec a b k 0 h2 h3] at hF
  have hg := get_mapD (f := fun n : Int => [u8 n]) 0 h2
  have hg2 := get_mapD (f := fun n : Int => [u8 n]) 0 h3
  generalize a.getD k 0 = x at *
  generalize b.getD k 0 = y at *
  simp only [u8] at hg hg2
  simp only [byteR, hg, hg2, go_sem, ↓reduceIte, zA, zB, zC, zD, zE, zF, reduceCtorEq, zG, zH, zI, zJ, zK, zL, zM, zN, zO, zP]
  by_cases hxy : x = y
  · rw [decide_eq_true hxy, Bool.true_and] at hF
    have h4 : (x != y) = false := by rw [hxy]; simp
    simp only [h4, go_sem, ↓reduceIte, zA, zB, zC, zD, zE, zF, reduceCtorEq, zG, zH, zI, zJ, zK, zL, zM, zN, zO, zP]
    refine W_lpI (k + 1) ?_ ?_ ⟨by omega, hF⟩ (by omega)
    · simp only [go_sem, ↓reduceIte, zA, zB, zC, zD, zE, zF, reduceCtorEq, zG, zH, zI, zJ, zK, zL, zM, zN, zO, zP]
    · simp only [bytesS, byteR, go_sem, ↓reduceIte, zA, zB, zC, zD, zE, zF, reduceCtorEq, zG, zH, zI, zJ, zK, zL, zM, zN, zO, zP, wrap_succ (show k < 9223372036854775807 by omega)]
  · rw [decide_eq_false hxy, Bool.false_and] at hF
    have h4 : (x != y) = true := bne_iff_ne.2 hxy
    subst hF
    simp only [h4, go_sem, ↓reduceIte, zA, zB, zC, zD, zE, zF, reduceCtorEq, zG, zH, zI, zJ, zK, zL, zM, zN, zO, zP]

def li1S (l : List Int) (i : Nat) : St := ⟨[(0, .d (.lst 1 (numR l))), (3, .sl 0 (numB l.length ++ (l.take i).flatMap numB).length 1 0 (numB l.length ++ (l.take i).flatMap numB).length), (4, .int i)], [some (.dat 5 1 (byteR (numB l.length ++ (l.take i).flatMap numB)))]⟩
def li1T (l pre b : List Int) (i k : Nat) : St := ⟨[(0, .d (.lst 1 (numR l))), (3, .sl 0 (pre ++ b.take k).length 1 0 (pre ++ b.take k).length), (4, .int i), (5, bytesV b), (6, .int k)], [some (.dat 5 1 (byteR (pre ++ b.take k)))]⟩
set_option maxHeartbeats 1000000 in
theorem list1_tri (l : List Int) (hl : l.length ≤ 1000000) : Tri Tryd.prog G 30 [.d (.lst 1 (numR l))] [] (bytesV (listB l)) [] := by
  have hlr : (numR l).length = l.length := by simp [numR]
  have hnl : isNum (l.length : Int) = true := by unfold isNum most53; simp; omega
  refine tri_W Tryd.func30 (by decide) irOk30 (Nat.le_of_ble_eq_true rfl) ?_
  simp only [ir30, hlr, go_sem, ↓reduceIte, zA, zB, zC, zD, zE, zF, reduceCtorEq, zG, zH, zI, zJ, zK, zL, zM, zN, zO, zP]
  refine W_calln (num1O_tri (l.length : Int) hnl) rfl rfl rfl ?_
  simp only [hlr, go_sem, ↓reduceIte, zA, zB, zC, zD, zE, zF, reduceCtorEq, zG, zH, zI, zJ, zK, zL, zM, zN, zO, zP]
  refine W_loopI [0, 3, 4] [] (fun i : Nat => i ≤ l.length ∧ (l.take i).all isNum = true) (fun i => l.length - i) (li1S l) 0 ?_ ⟨Nat.zero_le _, by simp⟩ ?_
  · simp only [li1S, List.take_zero, List.flatMap_nil, Int.natCast_zero, go_sem, ↓reduceIte, zA, zB, zC, zD, zE, zF, reduceCtorEq, zG, zH, zI, zJ, zK, zL, zM, zN, zO, zP]
  rintro i ⟨hi, hall⟩
  generalize hpre : numB l.length ++ (l.take i).flatMap numB = pre at *
  have hpl : pre.length ≤ 9000009 := by
    rw [← hpre, List.length_append]
    have h1 := flat_le (l.take i)
    have h2 := numB_le (l.length : Int)
    rw [List.length_take] at h1
    omega
  have hprl : (byteR pre).length = pre.length := by simp [byteR]
  simp only [li1S, hpre, hlr, go_sem, ↓reduceIte, zA, zB, zC, zD, zE, zF, reduceCtorEq, zG, zH, zI, zJ, zK, zL, zM, zN, zO, zP]
  cases hlt : decide ((i : Int) < (l.length : Int)) with
  | false =>
    have hi2 : i = l.length := by have := of_decide_eq_false hlt; omega
    rw [hi2, List.take_length] at hpre hall
    have hB : listB l = pre := by unfold listB; rw [if_pos hall, hpre]
    simp only [go_sem, ↓reduceIte, zA, zB, zC, zD, zE, zF, reduceCtorEq, zG, zH, zI, zJ, zK, zL, zM, zN, zO, zP]
    rw [hB]
    exact BackZ [0] rfl (by simp [St.obj, objL]) (by simp [St.obj, objL, oneOr, St.get, getE, argR, rowsAt, hprl, byteR, List.take_of_length_le])
  | true =>
  have hi2 : i < l.length := by have := of_decide_eq_true hlt; omega
  have hg := get_mapD (f := fun n : Int => [i64 n]) 0 hi2
  have hm : l.getD i 0 ∈ l := by simp [List.getD, hi2]
  have htk : l.take (i + 1) = l.take i ++ [l.getD i 0] := by rw [List.take_add_one]; simp [List.getD, hi2]
  generalize l.getD i 0 = x at *
  simp only [i64] at hg
  simp only [hg, go_sem, ↓reduceIte, zA, zB, zC, zD, zE, zF, reduceCtorEq, zG, zH, zI, zJ, zK, zL, zM, zN, zO, zP]
  refine W_calld (is1_tri x) rfl rfl rfl rfl ?_; simp only [go_sem, ↓reduceIte, zA, zB, zC, zD, zE, zF, reduceCtorEq, zG, zH, zI, zJ, zK, zL, zM, zN, zO, zP]
  by_cases hx : isNum x = true
  case neg =>
    have hx2 : isNum x = false := by simpa using hx
    have hL : listB l = [] := by
      unfold listB; rw [if_neg]; intro h; rw [List.all_eq_true] at h; exact hx (h x hm)
    simp only [hx2, hL, go_sem, ↓reduceIte, zA, zB, zC, zD, zE, zF, reduceCtorEq, zG, zH, zI, zJ, zK, zL, zM, zN, zO, zP]
    exact Back0 rfl (by simp [oneOr, argR, bytesV, byteR, St.get, getE])
  simp only [hx, hg, go_sem, ↓reduceIte, zA, zB, zC, zD, zE, zF, reduceCtorEq, zG, zH, zI, zJ, zK, zL, zM, zN, zO, zP]
  refine W_calld (num1_tri x) rfl rfl rfl rfl ?_; simp only [go_sem, ↓reduceIte, zA, zB, zC, zD, zE, zF, reduceCtorEq, zG, zH, zI, zJ, zK, zL, zM, zN, zO, zP]
  have hxl : (byteR (numB x)).length = (numB x).length := by simp [byteR]
  have hq9 := numB_le x
  have hnew : numB l.length ++ (l.take (i + 1)).flatMap numB = pre ++ numB x := by rw [htk, List.flatMap_append, ← List.append_assoc, hpre]; simp
  generalize numB x = bx at *
  refine W_loopI [0, 3, 4, 5, 6] [] (fun k : Nat => k ≤ bx.length) (fun k => bx.length - k) (li1T l pre bx i) 0 ?_ (Nat.zero_le _) ?_
  · simp only [li1T, List.take_zero, List.append_nil, Int.natCast_zero, go_sem, ↓reduceIte, zA, zB, zC, zD, zE, zF, reduceCtorEq, zG, zH, zI, zJ, zK, zL, zM, zN, zO, zP]
  intro k hk
  simp only [li1T, hxl, go_sem, ↓reduceIte, zA, zB, zC, zD, zE, zF, reduceCtorEq, zG, zH, zI, zJ, zK, zL, zM, zN, zO, zP]
  cases hltk : decide ((k : Int) < (bx.length : Int)) with
  | false =>
    obtain rfl : k = bx.length := by have := of_decide_eq_false hltk; omega
    simp only [List.take_length, go_sem, ↓reduceIte, zA, zB, zC, zD, zE, zF, reduceCtorEq, zG, zH, zI, zJ, zK, zL, zM, zN, zO, zP]
    refine W_lpI (i + 1) ?_ ?_ ⟨by omega, by rw [htk, List.all_append, hall]; simp [hx]⟩ (by omega)
    · simp only [go_sem, ↓reduceIte, zA, zB, zC, zD, zE, zF, reduceCtorEq, zG, zH, zI, zJ, zK, zL, zM, zN, zO, zP]
    · simp only [li1S, hnew, wrap_succ (show i < 9223372036854775807 by omega), go_sem, ↓reduceIte, zA, zB, zC, zD, zE, zF, reduceCtorEq, zG, zH, zI, zJ, zK, zL, zM, zN, zO, zP]
  | true =>
  have hk2 : k < bx.length := by have := of_decide_eq_true hltk; omega
  have hg2 := get_mapD (f := fun n : Int => [u8 n]) 0 hk2
  have htk2 : bx.take (k + 1) = bx.take k ++ [bx.getD k 0] := by rw [List.take_add_one]; simp [List.getD, hk2]
  generalize bx.getD k 0 = c at *
  simp only [u8] at hg2
  have hl4 : (pre ++ bx.take k).length = pre.length + k := by simp; omega
  have hl5 : (byteR (pre ++ bx.take k)).length = pre.length + k := by simp only [byteR, List.length_map, hl4]
  have happ : (byteR (pre ++ bx.take k) ++ [[DV.val (Value.int IntKind.u8 c)]]).length * 1 ≤ 70368744177664 := by rw [List.length_append, hl5]; simp; omega
  have hgb : (byteR bx)[k]? = some [DV.val (Value.int IntKind.u8 c)] := hg2
  simp only [hgb, hl4, hl5, go_sem, ↓reduceIte, zA, zB, zC, zD, zE, zF, reduceCtorEq, zG, zH, zI, zJ, zK, zL, zM, zN, zO, zP]
  rw [if_pos happ]
  simp only [hl5, go_sem, ↓reduceIte, zA, zB, zC, zD, zE, zF, reduceCtorEq, zG, zH, zI, zJ, zK, zL, zM, zN, zO, zP]
  have hl6 : (pre ++ (bx.take k ++ [c])).length = pre.length + k + 1 := by simp; omega
  refine W_lpI (k + 1) ?_ ?_ (by omega) (by omega)
  · simp only [go_sem, ↓reduceIte, zA, zB, zC, zD, zE, zF, reduceCtorEq, zG, zH, zI, zJ, zK, zL, zM, zN, zO, zP]
  · simp only [li1T, htk2, hl6, byteR, List.map_append, List.append_assoc, wrap_succ (show k < 9223372036854775807 by omega), go_sem, ↓reduceIte, zA, zB, zC, zD, zE, zF, reduceCtorEq, zG, zH, zI, zJ, zK, zL, zM, zN, zO, zP]
end Dv
