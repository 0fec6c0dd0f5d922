/- The ops' statements: names. -/
import Derived.Test.YtehbfgkhcmepbaaDoorO13
import Derived.Test.YtehbfgkhcmepbaaDoorO14
set_option linter.unusedVariables false
set_option linter.unusedSimpArgs false
namespace Dv
open Go Go.Proofs
open Nat renaming reduceEqDiff → zA, reduceAdd → zB, reduceSub → zC, reduceMul → zD, reduceLT → zE, reduceLeDiff → zF
open Int renaming reduceLE → zG, reduceLT → zH, reduceToNat → zI, reduceBEq → zJ, reduceBNe → zK, reduceEq → zL, reduceAdd → zM, reduceSub → zN, reduceMul → zO, reduceNeg → zP
attribute [local go_sem] argEnv W_nil W_seq W_skip W_ret W_exit W_scope W_block W_blk W_reg W_regD W_cond WC_t WC_f WC_any Wx_c Wx_ops Wx_lp Wx_blk W_ops_nil W_opsD_q W_guard W_guardD WG_tt WG_ff WG_tf WG_ft WG_u WGD_tt WGD_ff WGD_tf WGD_ft WGD_u WE_some WED_some W_more W_mv W_pick W_new W_box W_build W_bsl W_ld1 W_ldn W_st W_nck W_bin W_eqb W_not W_cvt W_fad W_fld1 W_fldn W_ixa W_ixr W_ix1 W_ixs W_len W_lens W_mkf W_ext W_app W_min W_isnp W_isns W_eqs W_neg W_ixn W_sli W_sls WD_more WD_mv WD_pick WD_new WD_box WD_build WD_bsl WD_ld1 WD_ldn WD_st WD_nck WD_bin WD_eqb WD_not WD_cvt WD_fad WD_fld1 WD_fldn WD_ixa WD_ixr WD_ix1 WD_ixs WD_len WD_lens WD_mkf WD_ext WD_app WD_min WD_isnp WD_isns WD_eqs WD_neg WD_ixn WD_sli WD_sls effF effM bytesOf Opd.ev getE putE binV LV.int LV.bool LV.undef Go.undef LV.cells LV.toD LV.toDs splice fillL rowsOf srcRows updL objL Eff.owned nwp St.get St.obj St.put Value.oneCell' Ends adopt Ad.ap isNil St.keep St.okKeep okObj idl idlL idlO RVs.of RV.of oneOr Ends0 EndsO_iff frzs rn rnL rnO piOf eqCells eqV boundV Option.map_some Option.map_none List.append_nil List.nil_append List.cons_append List.map_nil List.map_cons List.length_nil List.length_cons List.set_cons_zero List.set_cons_succ List.take_succ_cons List.take_zero List.take_nil List.drop_succ_cons List.drop_zero List.drop_nil List.getElem?_cons_zero List.getElem?_cons_succ List.getElem?_nil List.isEmpty_nil List.isEmpty_cons List.all_cons List.all_nil List.isEmpty_nil cond_true cond_false Bool.true_and Bool.false_and Bool.and_true Bool.and_false Bool.not_true Bool.not_false Bool.or_true Bool.true_or Bool.or_false Bool.false_or true_and and_true true_or or_true Option.some.injEq LV.d.injEq DV.val.injEq Value.bool.injEq Value.int.injEq decide_true decide_false and_self Nat.zero_add Nat.add_zero if_true if_false Int.toNat_zero beq_self_eq_true Nat.zero_lt_succ Int.toNat_natCast Int.natCast_nonneg List.length_map i64 bl List.zip_cons_cons List.zip_nil_left List.zip_nil_right nwp confV stateV nodeV jobV nodesV jobsV opV msgV nodeR jobR opR msgR zeroOp zeroMsg msgsV
variable {G : Nat → Option (List DV)}

/-- dunnagelaw08.OpsNames -/
def ir6 : Nat × C × List RV := (72,
(.seq (.reg [⟨(some 5), .box 23 (.t 2), none, []⟩,
 ⟨(some 6), .mv (.c (.val (.bool false))), none, []⟩])
 (.seq (.seq (.reg [⟨(some 9), .call (.f 8) [], none, []⟩,
 ⟨(some 10), .not (.t 9), none, []⟩])
 (.cond (.t 10) (.seq (.reg [⟨(some 6), .mv (.c (.val (.bool false))), none, []⟩])
 .ret)
 .skip))
 (.seq (.seq (.reg [⟨(some 11), .mv (.t 0), none, []⟩,
 ⟨(some 12), .mv (.t 1), none, []⟩,
 ⟨(some 13), .bin .neq (.t 11) (.t 12), none, []⟩,
 ⟨(some 14), .mv (.t 13), none, []⟩,
 ⟨(some 15), .mv (.t 0), (some (14, true)), []⟩,
 ⟨(some 16), .call (.f 18) [(.t 15)], (some (14, true)), []⟩,
 ⟨(some 17), .mv (.t 1), (some (14, true)), []⟩,
 ⟨(some 18), .call (.f 18) [(.t 17)], (some (14, true)), []⟩,
 ⟨(some 19), .bin .eql (.t 16) (.t 18), (some (14, true)), []⟩,
 ⟨(some 20), .pick (.t 14) (.t 19) (.c (.val (.bool false))), none, []⟩,
 ⟨(some 21), .mv (.t 20), none, []⟩,
 ⟨(some 22), .mv (.t 0), (some (21, true)), []⟩,
 ⟨(some 23), .call (.f 18) [(.t 22)], (some (21, true)), []⟩,
 ⟨(some 24), .bin .neq (.t 23) (.c (.val (.string ⟨#[]⟩))), (some (21, true)), []⟩,
 ⟨(some 25), .pick (.t 21) (.t 24) (.c (.val (.bool false))), none, []⟩,
 ⟨(some 26), .mv (.t 25), none, []⟩,
 ⟨(some 27), .mv (.t 0), (some (26, false)), []⟩,
 ⟨(some 28), .call (.f 18) [(.t 27)], (some (26, false)), []⟩,
 ⟨(some 29), .bin .eql (.t 28) (.c (.val (.string ⟨#[]⟩))), (some (26, false)), []⟩,
 ⟨(some 30), .mv (.t 0), (some (26, false)), []⟩,
 ⟨(some 31), .bin .lss (.t 30) (.c (.val (.int .i64 1))), (some (26, false)), []⟩,
 ⟨(some 32), .mv (.t 31), (some (26, false)), []⟩,
 ⟨(some 33), .mv (.t 0), (some (32, false)), []⟩,
 ⟨(some 34), .bin .gtr (.t 33) (.c (.val (.int .i64 21))), (some (32, false)), []⟩,
 ⟨(some 35), .pick (.t 32) (.c (.val (.bool true))) (.t 34), (some (26, false)), []⟩,
 ⟨(some 36), .eqb true (.t 29) (.t 35), (some (26, false)), []⟩,
 ⟨(some 37), .pick (.t 26) (.c (.val (.bool true))) (.t 36), none, []⟩])
 (.cond (.t 37) (.seq (.reg [⟨(some 6), .mv (.c (.val (.bool false))), none, []⟩])
 .ret)
 .skip))
 (.seq (.seq (.reg [⟨(some 38), .ldn 7 (.t 5), none, []⟩,
 ⟨(some 39), .call (.f 11) [(.t 38)], none, []⟩,
 ⟨(some 40), .not (.t 39), none, []⟩])
 (.cond (.t 40) (.seq (.reg [⟨(some 6), .mv (.c (.val (.bool true))), none, []⟩])
 .ret)
 .skip))
 (.seq (.reg [⟨(some 41), .fad 0 (.t 5), none, []⟩,
 ⟨(some 42), .ld1 (.t 41), none, []⟩,
 ⟨(some 43), .call (.f 18) [(.t 42)], none, []⟩,
 ⟨(some 44), .lens (.t 43), none, []⟩,
 ⟨(some 7), .mv (.t 44), none, []⟩])
 (.seq (.reg [⟨(some 45), .ldn 7 (.t 5), none, []⟩,
 ⟨(some 46), .call (.f 20) [(.t 45)], none, []⟩,
 ⟨(some 8), .mv (.t 46), none, []⟩])
 (.seq (.regD [⟨(some 47), .mv (.t 8), none, []⟩,
 ⟨(some 48), .lens (.t 47), none, [0]⟩,
 ⟨(some 49), .mv (.t 7), none, []⟩,
 ⟨(some 50), .bin .geq (.t 48) (.t 49), none, [1, 0, 2]⟩,
 ⟨(some 51), .mv (.t 50), none, [3, 1, 0, 2]⟩,
 ⟨(some 52), .mv (.t 8), (some (51, true)), [4, 3, 1, 0, 2]⟩,
 ⟨(some 53), .mv (.t 7), (some (51, true)), [4, 3, 1, 0, 2]⟩,
 ⟨(some 54), .sls (.t 52) none (some (.t 53)), (some (51, true)), [5, 4, 3, 1, 0, 2, 6]⟩,
 ⟨(some 55), .fad 0 (.t 5), (some (51, true)), [4, 3, 1, 0, 2]⟩,
 ⟨(some 56), .ld1 (.t 55), (some (51, true)), [8, 4, 3, 1, 0, 2]⟩,
 ⟨(some 57), .call (.f 18) [(.t 56)], (some (51, true)), [9, 8, 4, 3, 1, 0, 2]⟩,
 ⟨(some 58), .bin .eql (.t 54) (.t 57), (some (51, true)), [7, 5, 4, 3, 1, 0, 2, 6, 10, 9, 8]⟩,
 ⟨(some 59), .pick (.t 51) (.t 58) (.c (.val (.bool false))), none, [4, 3, 1, 0, 2, 11, 7, 5, 6, 10, 9, 8]⟩,
 ⟨(some 60), .mv (.t 59), none, [12, 4, 3, 1, 0, 2, 11, 7, 5, 6, 10, 9, 8]⟩,
 ⟨(some 61), .mv (.t 8), (some (60, true)), [13, 12, 4, 3, 1, 0, 2, 11, 7, 5, 6, 10, 9, 8]⟩,
 ⟨(some 62), .lens (.t 61), (some (60, true)), [14, 13, 12, 4, 3, 1, 0, 2, 11, 7, 5, 6, 10, 9, 8]⟩,
 ⟨(some 63), .mv (.t 7), (some (60, true)), [13, 12, 4, 3, 1, 0, 2, 11, 7, 5, 6, 10, 9, 8]⟩,
 ⟨(some 64), .bin .eql (.t 62) (.t 63), (some (60, true)), [15, 14, 13, 12, 4, 3, 1, 0, 2, 11, 7, 5, 6, 10, 9, 8, 16]⟩,
 ⟨(some 65), .mv (.t 64), (some (60, true)), [17, 15, 14, 13, 12, 4, 3, 1, 0, 2, 11, 7, 5, 6, 10, 9, 8, 16]⟩,
 ⟨(some 66), .mv (.t 8), (some (65, false)), [18, 17, 15, 14, 13, 12, 4, 3, 1, 0, 2, 11, 7, 5, 6, 10, 9, 8, 16]⟩,
 ⟨(some 67), .mv (.t 7), (some (65, false)), [18, 17, 15, 14, 13, 12, 4, 3, 1, 0, 2, 11, 7, 5, 6, 10, 9, 8, 16]⟩,
 ⟨(some 68), .ixs (.t 66) (.t 67), (some (65, false)), [19, 18, 17, 15, 14, 13, 12, 4, 3, 1, 0, 2, 11, 7, 5, 6, 10, 9, 8, 16, 20]⟩,
 ⟨(some 69), .bin .eql (.t 68) (.c (.val (.int .u8 32))), (some (65, false)), [21, 19, 18, 17, 15, 14, 13, 12, 4, 3, 1, 0, 2, 11, 7, 5, 6, 10, 9, 8, 16, 20]⟩,
 ⟨(some 70), .pick (.t 65) (.c (.val (.bool true))) (.t 69), (some (60, true)), [18, 17, 15, 14, 13, 12, 4, 3, 1, 0, 2, 11, 7, 5, 6, 10, 9, 8, 16, 22, 21, 19, 20]⟩,
 ⟨(some 71), .pick (.t 60) (.t 70) (.c (.val (.bool false))), none, [13, 12, 4, 3, 1, 0, 2, 11, 7, 5, 6, 10, 9, 8, 23, 18, 17, 15, 14, 16, 22, 21, 19, 20]⟩,
 ⟨(some 6), .mv (.t 71), none, [24, 13, 12, 4, 3, 1, 0, 2, 11, 7, 5, 6, 10, 9, 8, 23, 18, 17, 15, 14, 16, 22, 21, 19, 20]⟩])
 .ret))))))),
[(.t 6)])
theorem irOk6 : convFn Tryd.prog Tryd.f6 = some ir6 := by kernel_rfl

attribute [local go_sem] u8 bytesV optOp

theorem name_nil (k : Int) : ((nameOf k).toList == (⟨#[]⟩ : ByteArray).toList) = decide (k < 1 ∨ k > 21) := by
  rw [name_eq, Bool.eq_iff_iff]
  unfold kindOk
  simp
set_option maxHeartbeats 4000000 in
theorem names_law (h : OG G) (a b : Int) (o : OpD) : Tri Tryd.prog G 6 [.int a, .int b, opV o] [] (.bool true) [] := by
  refine tri_W0 Tryd.func6 (by decide) irOk6 (Nat.le_of_ble_eq_true rfl) rfl ?_
  simp only [ir6, go_sem, ↓reduceIte, zA, zB, zC, zD, zE, zF, reduceCtorEq, zG, zH, zI, zJ, zK, zL, zM, zN, zO, zP]
  refine W_calld (alive8_tri h) rfl rfl rfl rfl ?_; simp only [go_sem, ↓reduceIte, zA, zB, zC, zD, zE, zF, reduceCtorEq, zG, zH, zI, zJ, zK, zL, zM, zN, zO, zP]
  by_cases hab : a = b
  · simp only [show (a != b) = false by rw [hab]; simp, go_sem, ↓reduceIte, zA, zB, zC, zD, zE, zF, reduceCtorEq, zG, zH, zI, zJ, zK, zL, zM, zN, zO, zP]
    refine W_calld (h.name a) rfl rfl rfl rfl ?_
    simp only [name_nil, go_sem, ↓reduceIte, zA, zB, zC, zD, zE, zF, reduceCtorEq, zG, zH, zI, zJ, zK, zL, zM, zN, zO, zP]
    by_cases hlo : a < 1
    · simp only [decide_eq_true hlo, decide_eq_true (show a < 1 ∨ a > 21 from .inl hlo), go_sem, ↓reduceIte, zA, zB, zC, zD, zE, zF, reduceCtorEq, zG, zH, zI, zJ, zK, zL, zM, zN, zO, zP]
      refine W_calld (h.right o) rfl rfl rfl rfl ?_; simp only [go_sem, ↓reduceIte, zA, zB, zC, zD, zE, zF, reduceCtorEq, zG, zH, zI, zJ, zK, zL, zM, zN, zO, zP]
      cases hr : opOkB o with
      | false => simp only [go_sem, ↓reduceIte, zA, zB, zC, zD, zE, zF, reduceCtorEq, zG, zH, zI, zJ, zK, zL, zM, zN, zO, zP]
      | true =>
        obtain ⟨n1, n2, n3⟩ := textO_name hr
        have hb0 : 0 ≤ (nameOf o.kind).size ∧ (nameOf o.kind).size ≤ (textO o).size := ⟨Nat.zero_le _, n1⟩
        simp only [go_sem, ↓reduceIte, zA, zB, zC, zD, zE, zF, reduceCtorEq, zG, zH, zI, zJ, zK, zL, zM, zN, zO, zP]
        refine W_calld (h.name o.kind) rfl rfl rfl rfl ?_; simp only [go_sem, ↓reduceIte, zA, zB, zC, zD, zE, zF, reduceCtorEq, zG, zH, zI, zJ, zK, zL, zM, zN, zO, zP]
        refine W_calld (h.text o) rfl rfl rfl rfl ?_; simp only [go_sem, ↓reduceIte, zA, zB, zC, zD, zE, zF, reduceCtorEq, zG, zH, zI, zJ, zK, zL, zM, zN, zO, zP]
        simp only [decide_eq_true (show (((textO o).size : Nat) : Int) ≥ (((nameOf o.kind).size : Nat) : Int) by omega), hb0, and_self, n2, go_sem, ↓reduceIte, zA, zB, zC, zD, zE, zF, reduceCtorEq, zG, zH, zI, zJ, zK, zL, zM, zN, zO, zP]
        refine WD_calld (h.name o.kind) rfl rfl rfl rfl ?_
        simp only [str_eq, decide_true, go_sem, ↓reduceIte, zA, zB, zC, zD, zE, zF, reduceCtorEq, zG, zH, zI, zJ, zK, zL, zM, zN, zO, zP]
        by_cases he : (textO o).size = (nameOf o.kind).size
        · simp only [show ((((textO o).size : Nat) : Int) == (((nameOf o.kind).size : Nat) : Int)) = true from beq_iff_eq.2 (by omega), go_sem, ↓reduceIte, zA, zB, zC, zD, zE, zF, reduceCtorEq, zG, zH, zI, zJ, zK, zL, zM, zN, zO, zP]
        · have n4 := n3.resolve_left he
          simp only [show ((((textO o).size : Nat) : Int) == (((nameOf o.kind).size : Nat) : Int)) = false from beq_eq_false_iff_ne.2 (by omega), n4, go_sem, ↓reduceIte, zA, zB, zC, zD, zE, zF, reduceCtorEq, zG, zH, zI, zJ, zK, zL, zM, zN, zO, zP]
          rfl
    · have hd : decide (a < 1 ∨ a > 21) = decide (a > 21) := by rw [decide_eq_decide]; omega
      simp only [decide_eq_false hlo, hd, go_sem, ↓reduceIte, zA, zB, zC, zD, zE, zF, reduceCtorEq, zG, zH, zI, zJ, zK, zL, zM, zN, zO, zP]
      refine W_calld (h.right o) rfl rfl rfl rfl ?_; simp only [go_sem, ↓reduceIte, zA, zB, zC, zD, zE, zF, reduceCtorEq, zG, zH, zI, zJ, zK, zL, zM, zN, zO, zP]
      cases hr : opOkB o with
      | false => simp only [go_sem, ↓reduceIte, zA, zB, zC, zD, zE, zF, reduceCtorEq, zG, zH, zI, zJ, zK, zL, zM, zN, zO, zP]
      | true =>
        obtain ⟨n1, n2, n3⟩ := textO_name hr
        have hb0 : 0 ≤ (nameOf o.kind).size ∧ (nameOf o.kind).size ≤ (textO o).size := ⟨Nat.zero_le _, n1⟩
        simp only [go_sem, ↓reduceIte, zA, zB, zC, zD, zE, zF, reduceCtorEq, zG, zH, zI, zJ, zK, zL, zM, zN, zO, zP]
        refine W_calld (h.name o.kind) rfl rfl rfl rfl ?_; simp only [go_sem, ↓reduceIte, zA, zB, zC, zD, zE, zF, reduceCtorEq, zG, zH, zI, zJ, zK, zL, zM, zN, zO, zP]
        refine W_calld (h.text o) rfl rfl rfl rfl ?_; simp only [go_sem, ↓reduceIte, zA, zB, zC, zD, zE, zF, reduceCtorEq, zG, zH, zI, zJ, zK, zL, zM, zN, zO, zP]
        simp only [decide_eq_true (show (((textO o).size : Nat) : Int) ≥ (((nameOf o.kind).size : Nat) : Int) by omega), hb0, and_self, n2, go_sem, ↓reduceIte, zA, zB, zC, zD, zE, zF, reduceCtorEq, zG, zH, zI, zJ, zK, zL, zM, zN, zO, zP]
        refine WD_calld (h.name o.kind) rfl rfl rfl rfl ?_
        simp only [str_eq, decide_true, go_sem, ↓reduceIte, zA, zB, zC, zD, zE, zF, reduceCtorEq, zG, zH, zI, zJ, zK, zL, zM, zN, zO, zP]
        by_cases he : (textO o).size = (nameOf o.kind).size
        · simp only [show ((((textO o).size : Nat) : Int) == (((nameOf o.kind).size : Nat) : Int)) = true from beq_iff_eq.2 (by omega), go_sem, ↓reduceIte, zA, zB, zC, zD, zE, zF, reduceCtorEq, zG, zH, zI, zJ, zK, zL, zM, zN, zO, zP]
        · have n4 := n3.resolve_left he
          simp only [show ((((textO o).size : Nat) : Int) == (((nameOf o.kind).size : Nat) : Int)) = false from beq_eq_false_iff_ne.2 (by omega), n4, go_sem, ↓reduceIte, zA, zB, zC, zD, zE, zF, reduceCtorEq, zG, zH, zI, zJ, zK, zL, zM, zN, zO, zP]
          rfl
  · simp only [show (a != b) = true from bne_iff_ne.2 hab, go_sem, ↓reduceIte, zA, zB, zC, zD, zE, zF, reduceCtorEq, zG, zH, zI, zJ, zK, zL, zM, zN, zO, zP]
    refine W_calld (h.name a) rfl rfl rfl rfl ?_
    simp only [go_sem, ↓reduceIte, zA, zB, zC, zD, zE, zF, reduceCtorEq, zG, zH, zI, zJ, zK, zL, zM, zN, zO, zP]
    refine W_calld (h.name b) rfl rfl rfl rfl ?_
    simp only [str_eq, go_sem, ↓reduceIte, zA, zB, zC, zD, zE, zF, reduceCtorEq, zG, zH, zI, zJ, zK, zL, zM, zN, zO, zP]
    by_cases hn : nameOf a = nameOf b
    · have h0 : nameOf a = ⟨#[]⟩ := Decidable.byContradiction fun h0 => hab (nameOf_inj hn h0)
      simp only [decide_eq_true hn, go_sem, ↓reduceIte, zA, zB, zC, zD, zE, zF, reduceCtorEq, zG, zH, zI, zJ, zK, zL, zM, zN, zO, zP]
      refine W_calld (h.name a) rfl rfl rfl rfl ?_
      simp only [str_eq, decide_eq_true h0, go_sem, ↓reduceIte, zA, zB, zC, zD, zE, zF, reduceCtorEq, zG, zH, zI, zJ, zK, zL, zM, zN, zO, zP]
      refine W_calld (h.name a) rfl rfl rfl rfl ?_
      simp only [name_nil, go_sem, ↓reduceIte, zA, zB, zC, zD, zE, zF, reduceCtorEq, zG, zH, zI, zJ, zK, zL, zM, zN, zO, zP]
      by_cases hlo : a < 1
      · simp only [decide_eq_true hlo, decide_eq_true (show a < 1 ∨ a > 21 from .inl hlo), go_sem, ↓reduceIte, zA, zB, zC, zD, zE, zF, reduceCtorEq, zG, zH, zI, zJ, zK, zL, zM, zN, zO, zP]
        refine W_calld (h.right o) rfl rfl rfl rfl ?_; simp only [go_sem, ↓reduceIte, zA, zB, zC, zD, zE, zF, reduceCtorEq, zG, zH, zI, zJ, zK, zL, zM, zN, zO, zP]
        cases hr : opOkB o with
        | false => simp only [go_sem, ↓reduceIte, zA, zB, zC, zD, zE, zF, reduceCtorEq, zG, zH, zI, zJ, zK, zL, zM, zN, zO, zP]
        | true =>
          obtain ⟨n1, n2, n3⟩ := textO_name hr
          have hb0 : 0 ≤ (nameOf o.kind).size ∧ (nameOf o.kind).size ≤ (textO o).size := ⟨Nat.zero_le _, n1⟩
          simp only [go_sem, ↓reduceIte, zA, zB, zC, zD, zE, zF, reduceCtorEq, zG, zH, zI, zJ, zK, zL, zM, zN, zO, zP]
          refine W_calld (h.name o.kind) rfl rfl rfl rfl ?_; simp only [go_sem, ↓reduceIte, zA, zB, zC, zD, zE, zF, reduceCtorEq, zG, zH, zI, zJ, zK, zL, zM, zN, zO, zP]
          refine W_calld (h.text o) rfl rfl rfl rfl ?_; simp only [go_sem, ↓reduceIte, zA, zB, zC, zD, zE, zF, reduceCtorEq, zG, zH, zI, zJ, zK, zL, zM, zN, zO, zP]
          simp only [decide_eq_true (show (((textO o).size : Nat) : Int) ≥ (((nameOf o.kind).size : Nat) : Int) by omega), hb0, and_self, n2, go_sem, ↓reduceIte, zA, zB, zC, zD, zE, zF, reduceCtorEq, zG, zH, zI, zJ, zK, zL, zM, zN, zO, zP]
          refine WD_calld (h.name o.kind) rfl rfl rfl rfl ?_
          simp only [str_eq, decide_true, go_sem, ↓reduceIte, zA, zB, zC, zD, zE, zF, reduceCtorEq, zG, zH, zI, zJ, zK, zL, zM, zN, zO, zP]
          by_cases he : (textO o).size = (nameOf o.kind).size
          · simp only [show ((((textO o).size : Nat) : Int) == (((nameOf o.kind).size : Nat) : Int)) = true from beq_iff_eq.2 (by omega), go_sem, ↓reduceIte, zA, zB, zC, zD, zE, zF, reduceCtorEq, zG, zH, zI, zJ, zK, zL, zM, zN, zO, zP]
          · have n4 := n3.resolve_left he
            simp only [show ((((textO o).size : Nat) : Int) == (((nameOf o.kind).size : Nat) : Int)) = false from beq_eq_false_iff_ne.2 (by omega), n4, go_sem, ↓reduceIte, zA, zB, zC, zD, zE, zF, reduceCtorEq, zG, zH, zI, zJ, zK, zL, zM, zN, zO, zP]
            rfl
      · have hd : decide (a < 1 ∨ a > 21) = decide (a > 21) := by rw [decide_eq_decide]; omega
        simp only [decide_eq_false hlo, hd, go_sem, ↓reduceIte, zA, zB, zC, zD, zE, zF, reduceCtorEq, zG, zH, zI, zJ, zK, zL, zM, zN, zO, zP]
        refine W_calld (h.right o) rfl rfl rfl rfl ?_; simp only [go_sem, ↓reduceIte, zA, zB, zC, zD, zE, zF, reduceCtorEq, zG, zH, zI, zJ, zK, zL, zM, zN, zO, zP]
        cases hr : opOkB o with
        | false => simp only [go_sem, ↓reduceIte, zA, zB, zC, zD, zE, zF, reduceCtorEq, zG, zH, zI, zJ, zK, zL, zM, zN, zO, zP]
        | true =>
          obtain ⟨n1, n2, n3⟩ := textO_name hr
          have hb0 : 0 ≤ (nameOf o.kind).size ∧ (nameOf o.kind).size ≤ (textO o).size := ⟨Nat.zero_le _, n1⟩
          simp only [go_sem, ↓reduceIte, zA, zB, zC, zD, zE, zF, reduceCtorEq, zG, zH, zI, zJ, zK, zL, zM, zN, zO, zP]
          refine W_calld (h.name o.kind) rfl rfl rfl rfl ?_; simp only [go_sem, ↓reduceIte, zA, zB, zC, zD, zE, zF, reduceCtorEq, zG, zH, zI, zJ, zK, zL, zM, zN, zO, zP]
          refine W_calld (h.text o) rfl rfl rfl rfl ?_; simp only [go_sem, ↓reduceIte, zA, zB, zC, zD, zE, zF, reduceCtorEq, zG, zH, zI, zJ, zK, zL, zM, zN, zO, zP]
          simp only [decide_eq_true (show (((textO o).size : Nat) : Int) ≥ (((nameOf o.kind).size : Nat) : Int) by omega), hb0, and_self, n2, go_sem, ↓reduceIte, zA, zB, zC, zD, zE, zF, reduceCtorEq, zG, zH, zI, zJ, zK, zL, zM, zN, zO, zP]
          refine WD_calld (h.name o.kind) rfl rfl rfl rfl ?_
          simp only [str_eq, decide_true, go_sem, ↓reduceIte, zA, zB, zC, zD, zE, zF, reduceCtorEq, zG, zH, zI, zJ, zK, zL, zM, zN, zO, zP]
          by_cases he : (textO o).size = (nameOf o.kind).size
          · simp only [show ((((textO o).size : Nat) : Int) == (((nameOf o.kind).size : Nat) : Int)) = true from beq_iff_eq.2 (by omega), go_sem, ↓reduceIte, zA, zB, zC, zD, zE, zF, reduceCtorEq, zG, zH, zI, zJ, zK, zL, zM, zN, zO, zP]
          · have n4 := n3.resolve_left he
            simp only [show ((((textO o).size : Nat) : Int) == (((nameOf o.kind).size : Nat) : Int)) = false from beq_eq_false_iff_ne.2 (by omega), n4, go_sem, ↓reduceIte, zA, zB, zC, zD, zE, zF, reduceCtorEq, zG, zH, zI, zJ, zK, zL, zM, zN, zO, zP]
            rfl
    · simp only [decide_eq_false hn, go_sem, ↓reduceIte, zA, zB, zC, zD, zE, zF, reduceCtorEq, zG, zH, zI, zJ, zK, zL, zM, zN, zO, zP]
      refine W_calld (h.name a) rfl rfl rfl rfl ?_
      simp only [name_nil, go_sem, ↓reduceIte, zA, zB, zC, zD, zE, zF, reduceCtorEq, zG, zH, zI, zJ, zK, zL, zM, zN, zO, zP]
      by_cases hlo : a < 1
      · simp only [decide_eq_true hlo, decide_eq_true (show a < 1 ∨ a > 21 from .inl hlo), go_sem, ↓reduceIte, zA, zB, zC, zD, zE, zF, reduceCtorEq, zG, zH, zI, zJ, zK, zL, zM, zN, zO, zP]
        refine W_calld (h.right o) rfl rfl rfl rfl ?_; simp only [go_sem, ↓reduceIte, zA, zB, zC, zD, zE, zF, reduceCtorEq, zG, zH, zI, zJ, zK, zL, zM, zN, zO, zP]
        cases hr : opOkB o with
        | false => simp only [go_sem, ↓reduceIte, zA, zB, zC, zD, zE, zF, reduceCtorEq, zG, zH, zI, zJ, zK, zL, zM, zN, zO, zP]
        | true =>
          obtain ⟨n1, n2, n3⟩ := textO_name hr
          have hb0 : 0 ≤ (nameOf o.kind).size ∧ (nameOf o.kind).size ≤ (textO o).size := ⟨Nat.zero_le _, n1⟩
          simp only [go_sem, ↓reduceIte, zA, zB, zC, zD, zE, zF, reduceCtorEq, zG, zH, zI, zJ, zK, zL, zM, zN, zO, zP]
          refine W_calld (h.name o.kind) rfl rfl rfl rfl ?_; simp only [go_sem, ↓reduceIte, zA, zB, zC, zD, zE, zF, reduceCtorEq, zG, zH, zI, zJ, zK, zL, zM, zN, zO, zP]
          refine W_calld (h.text o) rfl rfl rfl rfl ?_; simp only [go_sem, ↓reduceIte, zA, zB, zC, zD, zE, zF, reduceCtorEq, zG, zH, zI, zJ, zK, zL, zM, zN, zO, zP]
          simp only [decide_eq_true (show (((textO o).size : Nat) : Int) ≥ (((nameOf o.kind).size : Nat) : Int) by omega), hb0, and_self, n2, go_sem, ↓reduceIte, zA, zB, zC, zD, zE, zF, reduceCtorEq, zG, zH, zI, zJ, zK, zL, zM, zN, zO, zP]
          refine WD_calld (h.name o.kind) rfl rfl rfl rfl ?_
          simp only [str_eq, decide_true, go_sem, ↓reduceIte, zA, zB, zC, zD, zE, zF, reduceCtorEq, zG, zH, zI, zJ, zK, zL, zM, zN, zO, zP]
          by_cases he : (textO o).size = (nameOf o.kind).size
          · simp only [show ((((textO o).size : Nat) : Int) == (((nameOf o.kind).size : Nat) : Int)) = true from beq_iff_eq.2 (by omega), go_sem, ↓reduceIte, zA, zB, zC, zD, zE, zF, reduceCtorEq, zG, zH, zI, zJ, zK, zL, zM, zN, zO, zP]
          · have n4 := n3.resolve_left he
            simp only [show ((((textO o).size : Nat) : Int) == (((nameOf o.kind).size : Nat) : Int)) = false from beq_eq_false_iff_ne.2 (by omega), n4, go_sem, ↓reduceIte, zA, zB, zC, zD, zE, zF, reduceCtorEq, zG, zH, zI, zJ, zK, zL, zM, zN, zO, zP]
            rfl
      · have hd : decide (a < 1 ∨ a > 21) = decide (a > 21) := by rw [decide_eq_decide]; omega
        simp only [decide_eq_false hlo, hd, go_sem, ↓reduceIte, zA, zB, zC, zD, zE, zF, reduceCtorEq, zG, zH, zI, zJ, zK, zL, zM, zN, zO, zP]
        refine W_calld (h.right o) rfl rfl rfl rfl ?_; simp only [go_sem, ↓reduceIte, zA, zB, zC, zD, zE, zF, reduceCtorEq, zG, zH, zI, zJ, zK, zL, zM, zN, zO, zP]
        cases hr : opOkB o with
        | false => simp only [go_sem, ↓reduceIte, zA, zB, zC, zD, zE, zF, reduceCtorEq, zG, zH, zI, zJ, zK, zL, zM, zN, zO, zP]
        | true =>
          obtain ⟨n1, n2, n3⟩ := textO_name hr
          have hb0 : 0 ≤ (nameOf o.kind).size ∧ (nameOf o.kind).size ≤ (textO o).size := ⟨Nat.zero_le _, n1⟩
          simp only [go_sem, ↓reduceIte, zA, zB, zC, zD, zE, zF, reduceCtorEq, zG, zH, zI, zJ, zK, zL, zM, zN, zO, zP]
          refine W_calld (h.name o.kind) rfl rfl rfl rfl ?_; simp only [go_sem, ↓reduceIte, zA, zB, zC, zD, zE, zF, reduceCtorEq, zG, zH, zI, zJ, zK, zL, zM, zN, zO, zP]
          refine W_calld (h.text o) rfl rfl rfl rfl ?_; simp only [go_sem, ↓reduceIte, zA, zB, zC, zD, zE, zF, reduceCtorEq, zG, zH, zI, zJ, zK, zL, zM, zN, zO, zP]
          simp only [decide_eq_true (show (((textO o).size : Nat) : Int) ≥ (((nameOf o.kind).size : Nat) : Int) by omega), hb0, and_self, n2, go_sem, ↓reduceIte, zA, zB, zC, zD, zE, zF, reduceCtorEq, zG, zH, zI, zJ, zK, zL, zM, zN, zO, zP]
          refine WD_calld (h.name o.kind) rfl rfl rfl rfl ?_
          simp only [str_eq, decide_true, go_sem, ↓reduceIte, zA, zB, zC, zD, zE, zF, reduceCtorEq, zG, zH, zI, zJ, zK, zL, zM, zN, zO, zP]
          by_cases he : (textO o).size = (nameOf o.kind).size
          · simp only [show ((((textO o).size : Nat) : Int) == (((nameOf o.kind).size : Nat) : Int)) = true from beq_iff_eq.2 (by omega), go_sem, ↓reduceIte, zA, zB, zC, zD, zE, zF, reduceCtorEq, zG, zH, zI, zJ, zK, zL, zM, zN, zO, zP]
          · have n4 := n3.resolve_left he
            simp only [show ((((textO o).size : Nat) : Int) == (((nameOf o.kind).size : Nat) : Int)) = false from beq_eq_false_iff_ne.2 (by omega), n4, go_sem, ↓reduceIte, zA, zB, zC, zD, zE, zF, reduceCtorEq, zG, zH, zI, zJ, zK, zL, zM, zN, zO, zP]
            rfl
end Dv
