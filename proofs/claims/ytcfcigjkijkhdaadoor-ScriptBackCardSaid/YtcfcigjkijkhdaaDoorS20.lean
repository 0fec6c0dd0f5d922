/- The scripts' statements: what is told is read again. -/
import Derived.Test.YtcfcigjkijkhdaaDoorS19
set_option linter.unusedVariables false
set_option linter.unusedSimpArgs false
namespace Dv
open Go Go.Proofs
open Nat renaming reduceEqDiff → zA, reduceAdd → zB, reduceSub → zC, reduceMul → zD, reduceLT → zE, reduceLeDiff → zF
open Int renaming reduceLE → zG, reduceLT → zH, reduceToNat → zI, reduceBEq → zJ, reduceBNe → zK, reduceEq → zL, reduceAdd → zM, reduceSub → zN, reduceMul → zO, reduceNeg → zP
attribute [local go_sem] argEnv W_nil W_seq W_skip W_ret W_exit W_scope W_block W_blk W_reg W_regD W_cond WC_t WC_f WC_any Wx_c Wx_ops Wx_lp Wx_blk W_ops_nil W_opsD_q W_guard W_guardD WG_tt WG_ff WG_tf WG_ft WG_u WGD_tt WGD_ff WGD_tf WGD_ft WGD_u WE_some WED_some W_more W_mv W_pick W_new W_box W_build W_bsl W_ld1 W_ldn W_st W_nck W_bin W_eqb W_not W_cvt W_fad W_fld1 W_fldn W_ixa W_ixr W_ix1 W_ixs W_len W_lens W_mkf W_ext W_app W_min W_isnp W_isns W_eqs W_neg W_ixn W_sli W_sls WD_more WD_mv WD_pick WD_new WD_box WD_build WD_bsl WD_ld1 WD_ldn WD_st WD_nck WD_bin WD_eqb WD_not WD_cvt WD_fad WD_fld1 WD_fldn WD_ixa WD_ixr WD_ix1 WD_ixs WD_len WD_lens WD_mkf WD_ext WD_app WD_min WD_isnp WD_isns WD_eqs WD_neg WD_ixn WD_sli WD_sls effF effM bytesOf Opd.ev getE putE binV LV.int LV.bool LV.undef Go.undef LV.cells LV.toD LV.toDs splice fillL rowsOf boxOf srcRows updL objL Eff.owned nwp St.get St.obj St.put Value.oneCell' Ends adopt Ad.ap isNil St.keep St.okKeep okObj idl idlL idlO RVs.of RV.of oneOr Ends0 EndsO_iff frzs rn rnL rnO piOf eqCells eqV boundV Option.map_some Option.map_none List.append_nil List.nil_append List.cons_append List.map_nil List.map_cons List.length_nil List.length_cons List.set_cons_zero List.set_cons_succ List.take_succ_cons List.take_zero List.take_nil List.drop_succ_cons List.drop_zero List.drop_nil List.getElem?_cons_zero List.getElem?_cons_succ List.getElem?_nil List.isEmpty_nil List.isEmpty_cons List.all_cons List.all_nil List.isEmpty_nil cond_true cond_false Bool.true_and Bool.false_and Bool.and_true Bool.and_false Bool.not_true Bool.not_false Bool.or_true Bool.true_or Bool.or_false Bool.false_or true_and and_true true_or or_true Option.some.injEq LV.d.injEq DV.val.injEq Value.bool.injEq Value.int.injEq decide_true decide_false and_self Nat.zero_add Nat.add_zero if_true if_false Int.toNat_zero beq_self_eq_true Nat.zero_lt_succ Int.toNat_natCast Int.natCast_nonneg List.length_map i64 bl List.zip_cons_cons List.zip_nil_left List.zip_nil_right nwp confV stateV nodeV jobV nodesV jobsV opV msgV nodeR jobR opR msgR zeroOp zeroMsg msgsV
variable {G : Nat → Option (List DV)}

/-- dunnagelaw23.ScriptBack -/
def ir5 : Nat × C × List RV := (74,
(.seq (.reg [⟨(some 4), .mv (.c (.val (.bool false))), none, []⟩])
 (.seq (.seq (.reg [⟨(some 13), .call (.f 7) [], none, []⟩,
 ⟨(some 14), .not (.t 13), none, []⟩])
 (.cond (.t 14) (.seq (.reg [⟨(some 4), .mv (.c (.val (.bool false))), none, []⟩])
 .ret)
 .skip))
 (.seq (.seq (.reg [⟨(some 15), .mv (.t 0), none, []⟩,
 ⟨(some 16), .len (.t 15), none, []⟩,
 ⟨(some 17), .bin .gtr (.t 16) (.c (.val (.int .i64 100))), none, []⟩,
 ⟨(some 18), .mv (.t 17), none, []⟩,
 ⟨(some 19), .mv (.t 1), (some (18, false)), []⟩,
 ⟨(some 20), .lens (.t 19), (some (18, false)), []⟩,
 ⟨(some 21), .bin .gtr (.t 20) (.c (.val (.int .i64 2000))), (some (18, false)), []⟩,
 ⟨(some 22), .pick (.t 18) (.c (.val (.bool true))) (.t 21), none, []⟩])
 (.cond (.t 22) (.seq (.reg [⟨(some 4), .mv (.c (.val (.bool true))), none, []⟩])
 .ret)
 .skip))
 (.seq (.reg [⟨(some 5), .mv (.c (.val (.slice none 0 0))), none, []⟩])
 (.seq (.seq (.reg [⟨(some 6), .mv (.c (.val (.int .i64 0))), none, []⟩])
 (.block 0 (.loop (.seq (.seq (.reg [⟨(some 23), .mv (.t 6), none, []⟩,
 ⟨(some 24), .mv (.t 0), none, []⟩,
 ⟨(some 25), .len (.t 24), none, []⟩,
 ⟨(some 26), .bin .lss (.t 23) (.t 25), none, []⟩])
 (.cond (.t 26) .skip
 (.exit 0)))
 (.seq (.block 1 (.seq (.reg [⟨(some 29), .mv (.t 0), none, []⟩,
 ⟨(some 30), .mv (.t 6), none, []⟩,
 ⟨(some 31), .ixa 10 (.t 29) (.t 30), none, []⟩,
 ⟨(some 32), .ldn 10 (.t 31), none, []⟩,
 ⟨(some 33), .call (.f 10) [(.t 32)], none, []⟩])
 (.cond (.t 33) (.reg [⟨(some 34), .mv (.t 5), none, []⟩,
 ⟨(some 35), .mv (.t 0), none, []⟩,
 ⟨(some 36), .mv (.t 6), none, []⟩,
 ⟨(some 37), .ixa 10 (.t 35) (.t 36), none, []⟩,
 ⟨(some 38), .ldn 10 (.t 37), none, []⟩,
 ⟨(some 39), .bsl 25 10 [(.t 38)], none, []⟩,
 ⟨(some 40), .app 25 10 80 (.t 34) (.t 39), none, []⟩,
 ⟨(some 5), .mv (.t 40), none, []⟩])
 .skip)))
 (.reg [⟨(some 27), .mv (.t 6), none, []⟩,
 ⟨(some 28), .bin .add (.t 27) (.c (.val (.int .i64 1))), none, []⟩,
 ⟨(some 6), .mv (.t 28), none, []⟩]))))))
 (.seq (.reg [⟨(some 42), .mv (.t 0), none, []⟩,
 ⟨(some 43), .call (.f 16) [(.t 42)], none, []⟩,
 ⟨(some 44), .call (.f 14) [(.t 43)], none, []⟩,
 ⟨(some 41), .mv (.t 44), none, []⟩,
 ⟨(some 45), .ext (.t 41) 0, none, []⟩,
 ⟨(some 46), .ext (.t 41) 1, none, []⟩,
 ⟨(some 7), .mv (.t 45), none, []⟩,
 ⟨(some 8), .mv (.t 46), none, []⟩])
 (.seq (.reg [⟨(some 48), .mv (.t 1), none, []⟩,
 ⟨(some 49), .call (.f 14) [(.t 48)], none, []⟩,
 ⟨(some 47), .mv (.t 49), none, []⟩,
 ⟨(some 50), .ext (.t 47) 0, none, []⟩,
 ⟨(some 51), .ext (.t 47) 1, none, []⟩,
 ⟨(some 9), .mv (.t 50), none, []⟩,
 ⟨(some 10), .mv (.t 51), none, []⟩])
 (.seq (.reg [⟨(some 53), .mv (.t 9), none, []⟩,
 ⟨(some 54), .call (.f 16) [(.t 53)], none, []⟩,
 ⟨(some 55), .call (.f 14) [(.t 54)], none, []⟩,
 ⟨(some 52), .mv (.t 55), none, []⟩,
 ⟨(some 56), .ext (.t 52) 0, none, []⟩,
 ⟨(some 57), .ext (.t 52) 1, none, []⟩,
 ⟨(some 11), .mv (.t 56), none, []⟩,
 ⟨(some 12), .mv (.t 57), none, []⟩])
 (.seq (.reg [⟨(some 58), .mv (.t 7), none, []⟩,
 ⟨(some 59), .mv (.t 5), none, []⟩,
 ⟨(some 60), .call (.f 18) [(.t 58), (.t 59)], none, []⟩,
 ⟨(some 61), .mv (.t 60), none, []⟩,
 ⟨(some 62), .mv (.t 9), (some (61, true)), []⟩,
 ⟨(some 63), .mv (.t 11), (some (61, true)), []⟩,
 ⟨(some 64), .call (.f 18) [(.t 62), (.t 63)], (some (61, true)), []⟩,
 ⟨(some 65), .pick (.t 61) (.t 64) (.c (.val (.bool false))), none, []⟩,
 ⟨(some 66), .mv (.t 65), none, []⟩,
 ⟨(some 67), .mv (.t 8), (some (66, true)), []⟩,
 ⟨(some 68), .len (.t 67), (some (66, true)), []⟩,
 ⟨(some 69), .mv (.t 12), (some (66, true)), []⟩,
 ⟨(some 70), .len (.t 69), (some (66, true)), []⟩,
 ⟨(some 71), .bin .add (.t 68) (.t 70), (some (66, true)), []⟩,
 ⟨(some 72), .bin .eql (.t 71) (.c (.val (.int .i64 0))), (some (66, true)), []⟩,
 ⟨(some 73), .pick (.t 66) (.t 72) (.c (.val (.bool false))), none, []⟩,
 ⟨(some 4), .mv (.t 73), none, []⟩])
 .ret))))))))),
[(.t 4)])
theorem irOk5 : convFn Tryd.prog Tryd.f5 = some ir5 := by kernel_rfl

attribute [local go_sem] optEnt resP entsV

theorem textGo_size : ∀ (l : List EntD) (acc : ByteArray), (textGo l acc).size ≤ acc.size + 201 * l.length
  | [], acc => Nat.le_refl _
  | e :: l, acc => by
    have hw := wordsE_size e
    rw [textGo]
    split
    · have := textGo_size l (acc ++ (wordsE e ++ ⟨#[10]⟩))
      rw [ByteArray.size_append, ByteArray.size_append, show (⟨#[10]⟩ : ByteArray).size = 1 from rfl] at this
      rw [List.length_cons]; omega
    · have := textGo_size l acc
      rw [List.length_cons]; omega
theorem textE_size (l : List EntD) : (textE l).size ≤ 201 * l.length := by
  have := textGo_size l ⟨#[]⟩
  unfold textE
  have h0 : (⟨#[]⟩ : ByteArray).size = 0 := rfl
  omega
def rightTo (l : List EntD) (i : Nat) : List EntD := (l.take i).filter entOkB
theorem rightTo_len (l : List EntD) (i : Nat) : (rightTo l i).length ≤ i := by
  have h1 := List.length_filter_le entOkB (l.take i)
  have h2 := List.length_take_le i l
  unfold rightTo; omega
theorem rightTo_succ (l : List EntD) (i : Nat) (h : i < l.length) : rightTo l (i + 1) = rightTo l i ++ if entOkB (l.getD i zeroEnt) = true then [l.getD i zeroEnt] else [] := by
  unfold rightTo
  rw [take_snocD zeroEnt h, List.filter_append]
  congr 1
  by_cases hr : entOkB (l.getD i zeroEnt) = true
  · rw [if_pos hr, List.filter_cons_of_pos hr, List.filter_nil]
  · rw [if_neg hr, List.filter_cons_of_neg hr, List.filter_nil]
theorem rightTo_all (l : List EntD) : rightTo l l.length = l.filter entOkB := by unfold rightTo; rw [List.take_length]
def bkS (l : List EntD) (s : ByteArray) (i : Nat) : St := ⟨[(0, entsV l), (1, .d (.val (.string s))), (5, .sl 0 (rightTo l i).length 10 0 (rightTo l i).length), (6, .int i)], [some (.dat 25 10 (entRows (rightTo l i)))]⟩
set_option maxHeartbeats 4000000 in
theorem sBack_law (h : OG G) (l : List EntD) (s : ByteArray) : Tri Tryd.prog G 5 [entsV l, .d (.val (.string s))] [] (.bool true) [] := by
  have hnl := entRows_len l
  refine tri_W0 Tryd.func5 (by decide) irOk5 (Nat.le_of_ble_eq_true rfl) rfl ?_
  simp only [ir5, go_sem, ↓reduceIte, zA, zB, zC, zD, zE, zF, reduceCtorEq, zG, zH, zI, zJ, zK, zL, zM, zN, zO, zP]
  refine W_calld (alive23_tri h) rfl rfl rfl rfl ?_; simp only [go_sem, ↓reduceIte, zA, zB, zC, zD, zE, zF, reduceCtorEq, zG, zH, zI, zJ, zK, zL, zM, zN, zO, zP]
  simp only [hnl, go_sem, ↓reduceIte, zA, zB, zC, zD, zE, zF, reduceCtorEq, zG, zH, zI, zJ, zK, zL, zM, zN, zO, zP]
  by_cases h1 : l.length ≤ 100
  case neg => simp only [decide_eq_true (show ((l.length : Nat) : Int) > 100 by omega), go_sem, ↓reduceIte, zA, zB, zC, zD, zE, zF, reduceCtorEq, zG, zH, zI, zJ, zK, zL, zM, zN, zO, zP]
  by_cases h2 : s.size ≤ 2000
  case neg => simp only [decide_eq_false (show ¬ ((l.length : Nat) : Int) > 100 by omega), decide_eq_true (show ((s.size : Nat) : Int) > 2000 by omega), go_sem, ↓reduceIte, zA, zB, zC, zD, zE, zF, reduceCtorEq, zG, zH, zI, zJ, zK, zL, zM, zN, zO, zP]
  simp only [decide_eq_false (show ¬ ((l.length : Nat) : Int) > 100 by omega), decide_eq_false (show ¬ ((s.size : Nat) : Int) > 2000 by omega), go_sem, ↓reduceIte, zA, zB, zC, zD, zE, zF, reduceCtorEq, zG, zH, zI, zJ, zK, zL, zM, zN, zO, zP]
  refine W_loopI [0, 1, 5, 6] [.t 5 25 10] (fun i : Nat => i ≤ l.length) (fun i => l.length - i) (bkS l s) 0 ?_ (Nat.zero_le _) ?_
  · simp only [bkS, rightTo, entRows, List.take_zero, List.filter_nil, List.map_nil, List.length_nil, Int.natCast_zero, go_sem, ↓reduceIte, zA, zB, zC, zD, zE, zF, reduceCtorEq, zG, zH, zI, zJ, zK, zL, zM, zN, zO, zP]
  intro i hi
  have hrl := rightTo_len l i
  have hre := entRows_len (rightTo l i)
  simp only [bkS, hnl, go_sem, ↓reduceIte, zA, zB, zC, zD, zE, zF, reduceCtorEq, zG, zH, zI, zJ, zK, zL, zM, zN, zO, zP]
  by_cases hlt : i < l.length
  case neg =>
    simp only [decide_eq_false (show ¬ ((i : Nat) : Int) < ((l.length : Nat) : Int) by omega), go_sem, ↓reduceIte, zA, zB, zC, zD, zE, zF, reduceCtorEq, zG, zH, zI, zJ, zK, zL, zM, zN, zO, zP]
    have hil : i = l.length := by omega
    subst hil
    rw [rightTo_all] at *
    have ht1 := textE_size l
    obtain ⟨p1, p2⟩ := parse_len s
    have hA := Go.Proofs.parse_tri h (textE l) (by omega)
    rw [parse_text l] at hA
    have ht2 := textE_size (parseS s).1
    have hB := Go.Proofs.parse_tri h (textE (parseS s).1) (by omega)
    rw [parse_back s] at hB
    refine W_calld (text_triE h l (by omega)) rfl rfl rfl rfl ?_; simp only [go_sem, ↓reduceIte, zA, zB, zC, zD, zE, zF, reduceCtorEq, zG, zH, zI, zJ, zK, zL, zM, zN, zO, zP]
    refine W_calld hA rfl rfl rfl rfl ?_
    simp only [go_sem, ↓reduceIte, zA, zB, zC, zD, zE, zF, reduceCtorEq, zG, zH, zI, zJ, zK, zL, zM, zN, zO, zP]
    refine W_calld (Go.Proofs.parse_tri h s (by omega)) rfl rfl rfl rfl ?_; simp only [go_sem, ↓reduceIte, zA, zB, zC, zD, zE, zF, reduceCtorEq, zG, zH, zI, zJ, zK, zL, zM, zN, zO, zP]
    have hlb : (parseS s).1.length ≤ 100000 := by omega
    generalize (parseS s).1 = b at *
    refine W_calld (text_triE h b hlb) rfl rfl rfl rfl ?_; simp only [go_sem, ↓reduceIte, zA, zB, zC, zD, zE, zF, reduceCtorEq, zG, zH, zI, zJ, zK, zL, zM, zN, zO, zP]
    refine W_calld hB rfl rfl rfl rfl ?_
    simp only [go_sem, ↓reduceIte, zA, zB, zC, zD, zE, zF, reduceCtorEq, zG, zH, zI, zJ, zK, zL, zM, zN, zO, zP]
    generalize List.filter entOkB l = f at *
    have hE := same23_tri (G := G) f f (by omega) (by omega)
    refine W_callz [0] (hE) rfl (by simp [argRs, argR, rowsAt, objL, entsV, hre, List.take_of_length_le (Nat.le_of_eq hre), go_sem, ↓reduceIte, zA, zB, zC, zD, zE, zF, reduceCtorEq, zG, zH, zI, zJ, zK, zL, zM, zN, zO, zP]) (by simp [objL]) rfl rfl ?_; simp only [go_sem, ↓reduceIte, zA, zB, zC, zD, zE, zF, reduceCtorEq, zG, zH, zI, zJ, zK, zL, zM, zN, zO, zP]
    refine W_calld (same23_tri b b (by omega) (by omega)) rfl rfl rfl rfl ?_; simp only [go_sem, ↓reduceIte, zA, zB, zC, zD, zE, zF, reduceCtorEq, zG, zH, zI, zJ, zK, zL, zM, zN, zO, zP]
    decide
  have hgb := get_mapD (f := entR) zeroEnt hlt
  have hsu := rightTo_succ l i hlt
  have hgb : (entRows l)[i]? = some (entR (l.getD i zeroEnt)) := hgb
  generalize l.getD i zeroEnt = e at *
  simp only [entR] at hgb
  simp only [decide_eq_true (show ((i : Nat) : Int) < ((l.length : Nat) : Int) by omega), hgb, go_sem, ↓reduceIte, zA, zB, zC, zD, zE, zF, reduceCtorEq, zG, zH, zI, zJ, zK, zL, zM, zN, zO, zP]
  refine W_calld (h.entok e) rfl rfl rfl rfl ?_; simp only [go_sem, ↓reduceIte, zA, zB, zC, zD, zE, zF, reduceCtorEq, zG, zH, zI, zJ, zK, zL, zM, zN, zO, zP]
  cases hr : entOkB e with
  | false =>
    rw [hr, if_neg (by decide), List.append_nil] at hsu
    simp only [go_sem, ↓reduceIte, zA, zB, zC, zD, zE, zF, reduceCtorEq, zG, zH, zI, zJ, zK, zL, zM, zN, zO, zP]
    refine W_lpI (i + 1) ?_ ?_ (by omega) (by omega)
    · simp only [go_sem, ↓reduceIte, zA, zB, zC, zD, zE, zF, reduceCtorEq, zG, zH, zI, zJ, zK, zL, zM, zN, zO, zP]
    · simp only [bkS, hsu, wrap_succ (show i < 9223372036854775807 by omega), go_sem, ↓reduceIte, zA, zB, zC, zD, zE, zF, reduceCtorEq, zG, zH, zI, zJ, zK, zL, zM, zN, zO, zP]
  | true =>
    rw [hr, if_pos rfl] at hsu
    simp only [hgb, go_sem, ↓reduceIte, zA, zB, zC, zD, zE, zF, reduceCtorEq, zG, zH, zI, zJ, zK, zL, zM, zN, zO, zP]
    have h7 : (rightTo l i).length = (entRows (rightTo l i)).length ∧ (entRows (rightTo l i) ++ [entR e]).length * 80 ≤ 70368744177664 := ⟨hre.symm, by rw [List.length_append, hre]; simp; omega⟩
    simp only [entR] at h7
    rw [if_pos h7]
    simp only [hre, go_sem, ↓reduceIte, zA, zB, zC, zD, zE, zF, reduceCtorEq, zG, zH, zI, zJ, zK, zL, zM, zN, zO, zP]
    refine W_lpI (i + 1) ?_ ?_ (by omega) (by omega)
    · simp only [go_sem, ↓reduceIte, zA, zB, zC, zD, zE, zF, reduceCtorEq, zG, zH, zI, zJ, zK, zL, zM, zN, zO, zP]
    · simp only [bkS, hsu, entRows, List.map_append, List.map_cons, List.map_nil, List.length_append, List.length_cons, List.length_nil, entR, wrap_succ (show i < 9223372036854775807 by omega), go_sem, ↓reduceIte, zA, zB, zC, zD, zE, zF, reduceCtorEq, zG, zH, zI, zJ, zK, zL, zM, zN, zO, zP]
end Dv
