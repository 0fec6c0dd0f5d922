/- The scripts' statements: texts. -/
import Derived.Test.YtcfcigjkijkhdaaDoorS18
set_option linter.unusedVariables false
set_option linter.unusedSimpArgs false
namespace Dv
open Go Go.Proofs
open Nat renaming reduceEqDiff → zA, reduceAdd → zB, reduceSub → zC, reduceMul → zD, reduceLT → zE, reduceLeDiff → zF
open Int renaming reduceLE → zG, reduceLT → zH, reduceToNat → zI, reduceBEq → zJ, reduceBNe → zK, reduceEq → zL, reduceAdd → zM, reduceSub → zN, reduceMul → zO, reduceNeg → zP
attribute [local go_sem] argEnv W_nil W_seq W_skip W_ret W_exit W_scope W_block W_blk W_reg W_regD W_cond WC_t WC_f WC_any Wx_c Wx_ops Wx_lp Wx_blk W_ops_nil W_opsD_q W_guard W_guardD WG_tt WG_ff WG_tf WG_ft WG_u WGD_tt WGD_ff WGD_tf WGD_ft WGD_u WE_some WED_some W_more W_mv W_pick W_new W_box W_build W_bsl W_ld1 W_ldn W_st W_nck W_bin W_eqb W_not W_cvt W_fad W_fld1 W_fldn W_ixa W_ixr W_ix1 W_ixs W_len W_lens W_mkf W_ext W_app W_min W_isnp W_isns W_eqs W_neg W_ixn W_sli W_sls WD_more WD_mv WD_pick WD_new WD_box WD_build WD_bsl WD_ld1 WD_ldn WD_st WD_nck WD_bin WD_eqb WD_not WD_cvt WD_fad WD_fld1 WD_fldn WD_ixa WD_ixr WD_ix1 WD_ixs WD_len WD_lens WD_mkf WD_ext WD_app WD_min WD_isnp WD_isns WD_eqs WD_neg WD_ixn WD_sli WD_sls effF effM bytesOf Opd.ev getE putE binV LV.int LV.bool LV.undef Go.undef LV.cells LV.toD LV.toDs splice fillL rowsOf boxOf srcRows updL objL Eff.owned nwp St.get St.obj St.put Value.oneCell' Ends adopt Ad.ap isNil St.keep St.okKeep okObj idl idlL idlO RVs.of RV.of oneOr Ends0 EndsO_iff frzs rn rnL rnO piOf eqCells eqV boundV Option.map_some Option.map_none List.append_nil List.nil_append List.cons_append List.map_nil List.map_cons List.length_nil List.length_cons List.set_cons_zero List.set_cons_succ List.take_succ_cons List.take_zero List.take_nil List.drop_succ_cons List.drop_zero List.drop_nil List.getElem?_cons_zero List.getElem?_cons_succ List.getElem?_nil List.isEmpty_nil List.isEmpty_cons List.all_cons List.all_nil List.isEmpty_nil cond_true cond_false Bool.true_and Bool.false_and Bool.and_true Bool.and_false Bool.not_true Bool.not_false Bool.or_true Bool.true_or Bool.or_false Bool.false_or true_and and_true true_or or_true Option.some.injEq LV.d.injEq DV.val.injEq Value.bool.injEq Value.int.injEq decide_true decide_false and_self Nat.zero_add Nat.add_zero if_true if_false Int.toNat_zero beq_self_eq_true Nat.zero_lt_succ Int.toNat_natCast Int.natCast_nonneg List.length_map i64 bl List.zip_cons_cons List.zip_nil_left List.zip_nil_right nwp confV stateV nodeV jobV nodesV jobsV opV msgV nodeR jobR opR msgR zeroOp zeroMsg msgsV
variable {G : Nat → Option (List DV)}

/-- dunnagelaw23.ScriptTexts -/
def ir4 : Nat × C × List RV := (44,
(.seq (.reg [⟨(some 4), .mv (.c (.val (.bool false))), none, []⟩])
 (.seq (.seq (.reg [⟨(some 9), .call (.f 7) [], none, []⟩,
 ⟨(some 10), .not (.t 9), none, []⟩])
 (.cond (.t 10) (.seq (.reg [⟨(some 4), .mv (.c (.val (.bool false))), none, []⟩])
 .ret)
 .skip))
 (.seq (.seq (.reg [⟨(some 11), .mv (.t 0), none, []⟩,
 ⟨(some 12), .len (.t 11), none, []⟩,
 ⟨(some 13), .bin .gtr (.t 12) (.c (.val (.int .i64 100))), none, []⟩,
 ⟨(some 14), .mv (.t 13), none, []⟩,
 ⟨(some 15), .mv (.t 1), (some (14, false)), []⟩,
 ⟨(some 16), .lens (.t 15), (some (14, false)), []⟩,
 ⟨(some 17), .bin .gtr (.t 16) (.c (.val (.int .i64 2000))), (some (14, false)), []⟩,
 ⟨(some 18), .pick (.t 14) (.c (.val (.bool true))) (.t 17), none, []⟩])
 (.cond (.t 18) (.seq (.reg [⟨(some 4), .mv (.c (.val (.bool true))), none, []⟩])
 .ret)
 .skip))
 (.seq (.reg [⟨(some 20), .mv (.t 1), none, []⟩,
 ⟨(some 21), .call (.f 14) [(.t 20)], none, []⟩,
 ⟨(some 19), .mv (.t 21), none, []⟩,
 ⟨(some 22), .ext (.t 19) 0, none, []⟩,
 ⟨(some 23), .ext (.t 19) 1, none, []⟩,
 ⟨(some 5), .mv (.t 22), none, []⟩,
 ⟨(some 6), .mv (.t 23), none, []⟩])
 (.seq (.reg [⟨(some 25), .mv (.t 1), none, []⟩,
 ⟨(some 26), .call (.f 15) [(.t 25)], none, []⟩,
 ⟨(some 24), .mv (.t 26), none, []⟩,
 ⟨(some 27), .ext (.t 24) 0, none, []⟩,
 ⟨(some 28), .ext (.t 24) 1, none, []⟩,
 ⟨(some 7), .mv (.t 27), none, []⟩,
 ⟨(some 8), .mv (.t 28), none, []⟩])
 (.seq (.reg [⟨(some 29), .mv (.t 0), none, []⟩,
 ⟨(some 30), .call (.f 16) [(.t 29)], none, []⟩,
 ⟨(some 31), .mv (.t 0), none, []⟩,
 ⟨(some 32), .call (.f 17) [(.t 31)], none, []⟩,
 ⟨(some 33), .bin .eql (.t 30) (.t 32), none, []⟩,
 ⟨(some 34), .mv (.t 33), none, []⟩,
 ⟨(some 35), .mv (.t 5), (some (34, true)), []⟩,
 ⟨(some 36), .mv (.t 7), (some (34, true)), []⟩,
 ⟨(some 37), .call (.f 18) [(.t 35), (.t 36)], (some (34, true)), []⟩,
 ⟨(some 38), .pick (.t 34) (.t 37) (.c (.val (.bool false))), none, []⟩,
 ⟨(some 39), .mv (.t 38), none, []⟩,
 ⟨(some 40), .mv (.t 6), (some (39, true)), []⟩,
 ⟨(some 41), .mv (.t 8), (some (39, true)), []⟩,
 ⟨(some 42), .call (.f 19) [(.t 40), (.t 41)], (some (39, true)), []⟩,
 ⟨(some 43), .pick (.t 39) (.t 42) (.c (.val (.bool false))), none, []⟩,
 ⟨(some 4), .mv (.t 43), none, []⟩])
 .ret)))))),
[(.t 4)])
theorem irOk4 : convFn Tryd.prog Tryd.f4 = some ir4 := by kernel_rfl

attribute [local go_sem] optEnt resP entsV

theorem splitL_len (c : UInt8) : ∀ D : List UInt8, (splitL c D).length ≤ D.length + 1
  | [] => Nat.le_refl _
  | x :: r => by
    have ih := splitL_len c r
    rw [splitL]
    split
    · simp only [List.length_cons]; omega
    · obtain ⟨h, t, hr⟩ := List.exists_cons_of_ne_nil (splitL_ne c r)
      rw [hr] at ih ⊢
      simp only [List.length_cons] at ih ⊢
      omega
theorem lineE_len (h : List UInt8) : (lineE h).length ≤ 1 := by
  unfold lineE
  split
  · simp
  · cases entryE ⟨h.toArray⟩ <;> simp
theorem lines_len : ∀ L : List (List UInt8), (L.flatMap lineE).length ≤ L.length
  | [] => Nat.le_refl _
  | h :: t => by
    have := lines_len t
    have := lineE_len h
    rw [List.flatMap_cons, List.length_append, List.length_cons]
    omega
theorem parse_len (s : ByteArray) : (parseS s).1.length ≤ s.size + 1 ∧ (parseS s).2.length ≤ s.size + 1 := by
  have h := splitL_len 10 s.data.toList
  rw [bs_len] at h
  have h1 := lines_len (splitL 10 s.data.toList)
  have h2 := List.countP_le_length (p := lineW) (l := splitL 10 s.data.toList)
  rw [parseS_eq]
  dsimp only
  rw [wrongL_len]
  omega
set_option maxHeartbeats 4000000 in
theorem sTexts_law (h : OG G) (l : List EntD) (s : ByteArray) : Tri Tryd.prog G 4 [entsV l, .d (.val (.string s))] [] (.bool true) [] := by
  have hnl := entRows_len l
  refine tri_W0 Tryd.func4 (by decide) irOk4 (Nat.le_of_ble_eq_true rfl) rfl ?_
  simp only [ir4, go_sem, ↓reduceIte, zA, zB, zC, zD, zE, zF, reduceCtorEq, zG, zH, zI, zJ, zK, zL, zM, zN, zO, zP]
  refine W_calld (alive23_tri h) rfl rfl rfl rfl ?_; simp only [go_sem, ↓reduceIte, zA, zB, zC, zD, zE, zF, reduceCtorEq, zG, zH, zI, zJ, zK, zL, zM, zN, zO, zP]
  simp only [hnl, go_sem, ↓reduceIte, zA, zB, zC, zD, zE, zF, reduceCtorEq, zG, zH, zI, zJ, zK, zL, zM, zN, zO, zP]
  by_cases h1 : l.length ≤ 100
  case neg => simp only [decide_eq_true (show ((l.length : Nat) : Int) > 100 by omega), go_sem, ↓reduceIte, zA, zB, zC, zD, zE, zF, reduceCtorEq, zG, zH, zI, zJ, zK, zL, zM, zN, zO, zP]
  by_cases h2 : s.size ≤ 2000
  case neg => simp only [decide_eq_false (show ¬ ((l.length : Nat) : Int) > 100 by omega), decide_eq_true (show ((s.size : Nat) : Int) > 2000 by omega), go_sem, ↓reduceIte, zA, zB, zC, zD, zE, zF, reduceCtorEq, zG, zH, zI, zJ, zK, zL, zM, zN, zO, zP]
  simp only [decide_eq_false (show ¬ ((l.length : Nat) : Int) > 100 by omega), decide_eq_false (show ¬ ((s.size : Nat) : Int) > 2000 by omega), go_sem, ↓reduceIte, zA, zB, zC, zD, zE, zF, reduceCtorEq, zG, zH, zI, zJ, zK, zL, zM, zN, zO, zP]
  obtain ⟨p1, p2⟩ := parse_len s
  refine W_calld (Go.Proofs.parse_tri h s (by omega)) rfl rfl rfl rfl ?_; simp only [go_sem, ↓reduceIte, zA, zB, zC, zD, zE, zF, reduceCtorEq, zG, zH, zI, zJ, zK, zL, zM, zN, zO, zP]
  have hT := parse23_tri h s (by omega)
  rw [parse_eq s] at hT
  refine W_calld (hT) rfl rfl rfl rfl ?_; simp only [go_sem, ↓reduceIte, zA, zB, zC, zD, zE, zF, reduceCtorEq, zG, zH, zI, zJ, zK, zL, zM, zN, zO, zP]
  generalize (parseS s).1 = a at *
  generalize (parseS s).2 = b at *
  refine W_calld (text_triE h l (by omega)) rfl rfl rfl rfl ?_; simp only [go_sem, ↓reduceIte, zA, zB, zC, zD, zE, zF, reduceCtorEq, zG, zH, zI, zJ, zK, zL, zM, zN, zO, zP]
  refine W_calld (text23_tri l (by omega)) rfl rfl rfl rfl ?_; simp only [go_sem, ↓reduceIte, zA, zB, zC, zD, zE, zF, reduceCtorEq, zG, zH, zI, zJ, zK, zL, zM, zN, zO, zP]
  refine W_calld (same23_tri a a (by omega) (by omega)) rfl rfl rfl rfl ?_; simp only [go_sem, ↓reduceIte, zA, zB, zC, zD, zE, zF, reduceCtorEq, zG, zH, zI, zJ, zK, zL, zM, zN, zO, zP]
  refine W_calld (ints_tri b b (by omega) (by omega)) rfl rfl rfl rfl ?_; simp only [go_sem, ↓reduceIte, zA, zB, zC, zD, zE, zF, reduceCtorEq, zG, zH, zI, zJ, zK, zL, zM, zN, zO, zP]
end Dv
