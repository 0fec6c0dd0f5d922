/- The document's ops as bytes, and out of bytes. -/
import Derived.Test.YtcfcigjkijkhdaaDoorO2
import Derived.Test.YtcfcigjkijkhdaaDoorI12
set_option linter.unusedVariables false
set_option linter.unusedSimpArgs false
namespace Dv
open Go Go.Proofs
open Nat renaming reduceEqDiff → zA, reduceAdd → zB, reduceSub → zC, reduceMul → zD, reduceLT → zE, reduceLeDiff → zF
open Int renaming reduceLE → zG, reduceLT → zH, reduceToNat → zI, reduceBEq → zJ, reduceBNe → zK, reduceEq → zL, reduceAdd → zM, reduceSub → zN, reduceMul → zO, reduceNeg → zP
attribute [local go_sem] argEnv W_nil W_seq W_skip W_ret W_exit W_scope W_block W_blk W_reg W_regD W_cond WC_t WC_f WC_any Wx_c Wx_ops Wx_lp Wx_blk W_ops_nil W_opsD_q W_guard W_guardD WG_tt WG_ff WG_tf WG_ft WG_u WGD_tt WGD_ff WGD_tf WGD_ft WGD_u WE_some WED_some W_more W_mv W_pick W_new W_box W_build W_bsl W_ld1 W_ldn W_st W_nck W_bin W_eqb W_not W_cvt W_fad W_fld1 W_fldn W_ixa W_ixr W_ix1 W_ixs W_len W_lens W_mkf W_ext W_app W_min W_isnp W_isns W_eqs W_neg W_ixn W_sli W_sls WD_more WD_mv WD_pick WD_new WD_box WD_build WD_bsl WD_ld1 WD_ldn WD_st WD_nck WD_bin WD_eqb WD_not WD_cvt WD_fad WD_fld1 WD_fldn WD_ixa WD_ixr WD_ix1 WD_ixs WD_len WD_lens WD_mkf WD_ext WD_app WD_min WD_isnp WD_isns WD_eqs WD_neg WD_ixn WD_sli WD_sls effF effM bytesOf Opd.ev getE putE binV LV.int LV.bool LV.undef Go.undef LV.cells LV.toD LV.toDs splice fillL rowsOf boxOf srcRows updL objL Eff.owned nwp St.get St.obj St.put Value.oneCell' Ends adopt Ad.ap isNil St.keep St.okKeep okObj idl idlL idlO RVs.of RV.of oneOr Ends0 EndsO_iff frzs rn rnL rnO piOf eqCells eqV boundV Option.map_some Option.map_none List.append_nil List.nil_append List.cons_append List.map_nil List.map_cons List.length_nil List.length_cons List.set_cons_zero List.set_cons_succ List.take_succ_cons List.take_zero List.take_nil List.drop_succ_cons List.drop_zero List.drop_nil List.getElem?_cons_zero List.getElem?_cons_succ List.getElem?_nil List.isEmpty_nil List.isEmpty_cons List.all_cons List.all_nil List.isEmpty_nil cond_true cond_false Bool.true_and Bool.false_and Bool.and_true Bool.and_false Bool.not_true Bool.not_false Bool.or_true Bool.true_or Bool.or_false Bool.false_or true_and and_true true_or or_true Option.some.injEq LV.d.injEq DV.val.injEq Value.bool.injEq Value.int.injEq decide_true decide_false and_self Nat.zero_add Nat.add_zero if_true if_false Int.toNat_zero beq_self_eq_true Nat.zero_lt_succ Int.toNat_natCast Int.natCast_nonneg List.length_map i64 bl List.zip_cons_cons List.zip_nil_left List.zip_nil_right nwp confV stateV nodeV jobV nodesV jobsV opV msgV nodeR jobR opR msgR zeroOp zeroMsg msgsV
variable {G : Nat → Option (List DV)}

/-- dunnageref08.Of -/
def ir42 : Nat × C × List RV := (45,
(.seq (.reg [⟨(some 4), .new 23 [(.val (.int .i64 0)), (.val (.int .i64 0)), (.val (.int .i64 0)), (.val (.int .i64 0)), (.val (.int .i64 0)), (.val (.int .i64 0)), (.val (.int .i64 0))], none, []⟩])
 (.seq (.reg [⟨(some 7), .more (.mks 3 1 8 [(.val (.int .i64 0))] (.c (.val (.int .i64 6)))), none, []⟩,
 ⟨(some 5), .mv (.t 7), none, []⟩])
 (.seq (.seq (.reg [⟨(some 6), .mv (.c (.val (.int .i64 0))), none, []⟩])
 (.block 0 (.loop (.seq (.seq (.reg [⟨(some 8), .mv (.t 6), none, []⟩,
 ⟨(some 9), .mv (.t 1), none, []⟩,
 ⟨(some 10), .len (.t 9), none, []⟩,
 ⟨(some 11), .bin .lss (.t 8) (.t 10), none, []⟩,
 ⟨(some 12), .mv (.t 11), none, []⟩,
 ⟨(some 13), .mv (.t 6), (some (12, true)), []⟩,
 ⟨(some 14), .bin .lss (.t 13) (.c (.val (.int .i64 6))), (some (12, true)), []⟩,
 ⟨(some 15), .pick (.t 12) (.t 14) (.c (.val (.bool false))), none, []⟩])
 (.cond (.t 15) .skip
 (.exit 0)))
 (.seq (.block 1 (.reg [⟨(some 18), .mv (.t 5), none, []⟩,
 ⟨(some 19), .mv (.t 6), none, []⟩,
 ⟨(some 20), .mv (.t 1), none, []⟩,
 ⟨(some 21), .mv (.t 6), none, []⟩,
 ⟨(some 22), .ixa 1 (.t 20) (.t 21), none, []⟩,
 ⟨(some 23), .ld1 (.t 22), none, []⟩,
 ⟨(some 24), .ixa 1 (.t 18) (.t 19), none, []⟩,
 ⟨none, .st 1 (.t 24) (.t 23), none, []⟩]))
 (.reg [⟨(some 16), .mv (.t 6), none, []⟩,
 ⟨(some 17), .bin .add (.t 16) (.c (.val (.int .i64 1))), none, []⟩,
 ⟨(some 6), .mv (.t 17), none, []⟩]))))))
 (.seq (.regD [⟨(some 25), .mv (.t 0), none, []⟩,
 ⟨(some 26), .mv (.t 5), none, []⟩,
 ⟨(some 27), .ixa 1 (.t 26) (.c (.val (.int .i64 0))), none, [1]⟩,
 ⟨(some 28), .ld1 (.t 27), none, [2, 1]⟩,
 ⟨(some 29), .mv (.t 5), none, []⟩,
 ⟨(some 30), .ixa 1 (.t 29) (.c (.val (.int .i64 1))), none, [4]⟩,
 ⟨(some 31), .ld1 (.t 30), none, [5, 4]⟩,
 ⟨(some 32), .mv (.t 5), none, []⟩,
 ⟨(some 33), .ixa 1 (.t 32) (.c (.val (.int .i64 2))), none, [7]⟩,
 ⟨(some 34), .ld1 (.t 33), none, [8, 7]⟩,
 ⟨(some 35), .mv (.t 5), none, []⟩,
 ⟨(some 36), .ixa 1 (.t 35) (.c (.val (.int .i64 3))), none, [10]⟩,
 ⟨(some 37), .ld1 (.t 36), none, [11, 10]⟩,
 ⟨(some 38), .mv (.t 5), none, []⟩,
 ⟨(some 39), .ixa 1 (.t 38) (.c (.val (.int .i64 4))), none, [13]⟩,
 ⟨(some 40), .ld1 (.t 39), none, [14, 13]⟩,
 ⟨(some 41), .mv (.t 5), none, []⟩,
 ⟨(some 42), .ixa 1 (.t 41) (.c (.val (.int .i64 5))), none, [16]⟩,
 ⟨(some 43), .ld1 (.t 42), none, [17, 16]⟩,
 ⟨(some 44), .build [(.val (.int .i64 0)), (.val (.int .i64 0)), (.val (.int .i64 0)), (.val (.int .i64 0)), (.val (.int .i64 0)), (.val (.int .i64 0)), (.val (.int .i64 0))] [(0, 1, (.t 25)), (1, 1, (.t 28)), (2, 1, (.t 31)), (3, 1, (.t 34)), (4, 1, (.t 37)), (5, 1, (.t 40)), (6, 1, (.t 43))], none, [0, 3, 2, 1, 6, 5, 4, 9, 8, 7, 12, 11, 10, 15, 14, 13, 18, 17, 16]⟩,
 ⟨none, .st 7 (.t 4) (.t 44), none, [19, 0, 3, 2, 1, 6, 5, 4, 9, 8, 7, 12, 11, 10, 15, 14, 13, 18, 17, 16]⟩])
 .ret)))),
[(.cn 4 7)])
theorem irOk42 : convFn Tryd.prog Tryd.f42 = some ir42 := by kernel_rfl

attribute [local go_sem] bytesV

/-- the first numbers, noughts behind them -/
def six (l : List Int) (i : Nat) : List Int := l.take i ++ List.replicate (6 - i) 0
theorem six_len (l : List Int) (i : Nat) (h1 : i ≤ 6) (h2 : i ≤ l.length) : (six l i).length = 6 := by simp [six]; omega
theorem six_set (l : List Int) (i : Nat) (h1 : i < 6) (h2 : i < l.length) : (six l i).set i (l.getD i 0) = six l (i + 1) := by
  unfold six
  rw [List.set_append, List.length_take, Nat.min_eq_left (by omega), if_neg (by omega), Nat.sub_self, show 6 - i = (6 - (i + 1)) + 1 by omega, List.replicate_succ, List.set_cons_zero]
  have : l.take (i + 1) = l.take i ++ [l.getD i 0] := by rw [List.take_add_one]; simp [List.getD, h2]
  rw [this, List.append_assoc]; rfl
theorem six_get (l : List Int) (j : Nat) (hj : j < 6) : (six l (min l.length 6)).getD j 0 = l.getD j 0 := by
  unfold six
  by_cases h : j < l.length
  · have h1 : j < (l.take (min l.length 6)).length := by rw [List.length_take]; omega
    simp only [List.getD]
    rw [List.getElem?_append_left h1, List.getElem?_take_of_lt (by omega)]
  · have h1 : (l.take (min l.length 6)).length ≤ j := by rw [List.length_take]; omega
    simp only [List.getD]
    rw [List.getElem?_append_right h1, List.getElem?_replicate, List.getElem?_eq_none (Nat.le_of_not_lt h)]
    split <;> rfl
def ofS (kind : Int) (l : List Int) (i : Nat) : St := ⟨[(0, .int kind), (1, .d (.lst 1 (numR l))), (4, .ptr 0 0), (5, .sl 1 6 1 0 6), (6, .int i)], [some (.box 23 [.int 0, .int 0, .int 0, .int 0, .int 0, .int 0, .int 0]), some (.dat 3 1 (numR (six l i)))]⟩
set_option maxHeartbeats 1000000 in
theorem of8_tri (kind : Int) (l : List Int) (hl : l.length ≤ 1000) : Tri Tryd.prog G 42 [.int kind, .d (.lst 1 (numR l))] [] (opV (ofI kind l)) [] := by
  have hnl : (numR l).length = l.length := by simp [numR]
  refine tri_W0 Tryd.func42 (by decide) irOk42 (Nat.le_of_ble_eq_true rfl) rfl ?_
  simp only [ir42, go_sem, ↓reduceIte, zA, zB, zC, zD, zE, zF, reduceCtorEq, zG, zH, zI, zJ, zK, zL, zM, zN, zO, zP]
  refine W_loopI [0, 1, 4, 5, 6] [] (fun i : Nat => i ≤ 6 ∧ i ≤ l.length) (fun i => 6 - i) (ofS kind l) 0 ?_ ⟨Nat.zero_le _, Nat.zero_le _⟩ ?_
  · simp only [ofS, six, List.take_zero, Int.natCast_zero, go_sem, ↓reduceIte, zA, zB, zC, zD, zE, zF, reduceCtorEq, zG, zH, zI, zJ, zK, zL, zM, zN, zO, zP]
    rfl
  rintro i ⟨hi6, hil⟩
  have h6l := six_len l i hi6 hil
  have h6n : (numR (six l i)).length = 6 := by simp only [numR, List.length_map, h6l]
  simp only [ofS, hnl, go_sem, ↓reduceIte, zA, zB, zC, zD, zE, zF, reduceCtorEq, zG, zH, zI, zJ, zK, zL, zM, zN, zO, zP]
  by_cases hlt : i < l.length ∧ i < 6
  case pos =>
    obtain ⟨h1, h2⟩ := hlt
    have hg := get_mapD (f := fun n : Int => [i64 n]) 0 h1
    have hset := six_set l i h2 h1
    generalize l.getD i 0 = x at *
    have hgb : (numR l)[i]? = some [DV.val (.int .i64 x)] := hg
    have h3 := get_mapD (f := fun n : Int => [i64 n]) 0 (show i < (six l i).length by omega)
    have h3b : (numR (six l i))[i]? = some [DV.val (.int .i64 ((six l i).getD i 0))] := h3
    have hsetb : (numR (six l i)).set i [DV.val (.int .i64 x)] = numR (six l (i + 1)) := by rw [← hset]; simp [numR]
    simp only [decide_eq_true (show ((i : Nat) : Int) < ((l.length : Nat) : Int) by omega), decide_eq_true (show ((i : Nat) : Int) < 6 by omega), hgb, h2, h6n, h3b, hsetb, go_sem, ↓reduceIte, zA, zB, zC, zD, zE, zF, reduceCtorEq, zG, zH, zI, zJ, zK, zL, zM, zN, zO, zP]
    refine W_lpI (i + 1) ?_ ?_ ⟨by omega, by omega⟩ (by omega)
    · simp only [go_sem, ↓reduceIte, zA, zB, zC, zD, zE, zF, reduceCtorEq, zG, zH, zI, zJ, zK, zL, zM, zN, zO, zP]
    · simp only [ofS, wrap_succ (show i < 9223372036854775807 by omega), go_sem, ↓reduceIte, zA, zB, zC, zD, zE, zF, reduceCtorEq, zG, zH, zI, zJ, zK, zL, zM, zN, zO, zP]
  have him : i = min l.length 6 := by omega
  have hq : ∀ j, j < 6 → (numR (six l i))[j]? = some [DV.val (.int .i64 (l.getD j 0))] := fun j hj => by
    have h3 := get_mapD (f := fun n : Int => [i64 n]) 0 (show j < (six l i).length by omega)
    rw [him, six_get l j hj] at h3
    rw [him]; exact h3
  have h0 := hq 0 (by decide)
  have h1 := hq 1 (by decide)
  have h2 := hq 2 (by decide)
  have h3 := hq 3 (by decide)
  have h4 := hq 4 (by decide)
  have h5 := hq 5 (by decide)
  have hend : ∀ b : Bool, b = true → decide (((i : Nat) : Int) < ((l.length : Nat) : Int)) = b → decide (((i : Nat) : Int) < 6) = false := fun b hb h => by
    subst hb
    have := of_decide_eq_true h
    exact decide_eq_false (by omega)
  cases hd : decide (((i : Nat) : Int) < ((l.length : Nat) : Int)) with
  | true =>
    simp only [hend true rfl hd, h6n, h0, h1, h2, h3, h4, h5, ofI, go_sem, ↓reduceIte, zA, zB, zC, zD, zE, zF, reduceCtorEq, zG, zH, zI, zJ, zK, zL, zM, zN, zO, zP]
    refine W_opsD_end (by decide) ?_
    simp only [go_sem, ↓reduceIte, zA, zB, zC, zD, zE, zF, reduceCtorEq, zG, zH, zI, zJ, zK, zL, zM, zN, zO, zP]
  | false =>
    simp only [h6n, h0, h1, h2, h3, h4, h5, ofI, go_sem, ↓reduceIte, zA, zB, zC, zD, zE, zF, reduceCtorEq, zG, zH, zI, zJ, zK, zL, zM, zN, zO, zP]
    refine W_opsD_end (by decide) ?_
    simp only [go_sem, ↓reduceIte, zA, zB, zC, zD, zE, zF, reduceCtorEq, zG, zH, zI, zJ, zK, zL, zM, zN, zO, zP]

def getOR (b : List Int) : Option OpD := match getL b 0 7 with
  | none => none
  | some (xs, _) => if 0 < xs.length ∧ putO (ofI (xs.getD 0 0) (xs.drop 1)) ≠ [] ∧ putO (ofI (xs.getD 0 0) (xs.drop 1)) = b then some (ofI (xs.getD 0 0) (xs.drop 1)) else none
theorem putO_len (o : OpD) : (putO o).length ≤ 1000 := by
  unfold putO
  split
  · unfold listB
    split
    · have h1 := flat_le (o.kind :: (numsL o).take (manyK o.kind))
      have h2 := numB_le ((o.kind :: (numsL o).take (manyK o.kind)).length : Int)
      have h3 : (o.kind :: (numsL o).take (manyK o.kind)).length ≤ 7 := by rw [List.length_cons, List.length_take]; simp [numsL]; omega
      rw [List.length_append]; omega
    · simp
  · simp
end Dv
