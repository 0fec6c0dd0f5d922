/- The ops' statements: back. -/
import Derived.Test.YtehbfgkhcmepbaaDoorO13
import Derived.Test.YtehbfgkhcmepbaaDoorO14
set_option linter.unusedVariables false
set_option linter.unusedSimpArgs false
namespace Dv
open Go Go.Proofs
open Nat renaming reduceEqDiff → zA, reduceAdd → zB, reduceSub → zC, reduceMul → zD, reduceLT → zE, reduceLeDiff → zF
open Int renaming reduceLE → zG, reduceLT → zH, reduceToNat → zI, reduceBEq → zJ, reduceBNe → zK, reduceEq → zL, reduceAdd → zM, reduceSub → zN, reduceMul → zO, reduceNeg → zP
attribute [local go_sem] argEnv W_nil W_seq W_skip W_ret W_exit W_scope W_block W_blk W_reg W_regD W_cond WC_t WC_f WC_any Wx_c Wx_ops Wx_lp Wx_blk W_ops_nil W_opsD_q W_guard W_guardD WG_tt WG_ff WG_tf WG_ft WG_u WGD_tt WGD_ff WGD_tf WGD_ft WGD_u WE_some WED_some W_more W_mv W_pick W_new W_box W_build W_bsl W_ld1 W_ldn W_st W_nck W_bin W_eqb W_not W_cvt W_fad W_fld1 W_fldn W_ixa W_ixr W_ix1 W_ixs W_len W_lens W_mkf W_ext W_app W_min W_isnp W_isns W_eqs W_neg W_ixn W_sli W_sls WD_more WD_mv WD_pick WD_new WD_box WD_build WD_bsl WD_ld1 WD_ldn WD_st WD_nck WD_bin WD_eqb WD_not WD_cvt WD_fad WD_fld1 WD_fldn WD_ixa WD_ixr WD_ix1 WD_ixs WD_len WD_lens WD_mkf WD_ext WD_app WD_min WD_isnp WD_isns WD_eqs WD_neg WD_ixn WD_sli WD_sls effF effM bytesOf Opd.ev getE putE binV LV.int LV.bool LV.undef Go.undef LV.cells LV.toD LV.toDs splice fillL rowsOf srcRows updL objL Eff.owned nwp St.get St.obj St.put Value.oneCell' Ends adopt Ad.ap isNil St.keep St.okKeep okObj idl idlL idlO RVs.of RV.of oneOr Ends0 EndsO_iff frzs rn rnL rnO piOf eqCells eqV boundV Option.map_some Option.map_none List.append_nil List.nil_append List.cons_append List.map_nil List.map_cons List.length_nil List.length_cons List.set_cons_zero List.set_cons_succ List.take_succ_cons List.take_zero List.take_nil List.drop_succ_cons List.drop_zero List.drop_nil List.getElem?_cons_zero List.getElem?_cons_succ List.getElem?_nil List.isEmpty_nil List.isEmpty_cons List.all_cons List.all_nil List.isEmpty_nil cond_true cond_false Bool.true_and Bool.false_and Bool.and_true Bool.and_false Bool.not_true Bool.not_false Bool.or_true Bool.true_or Bool.or_false Bool.false_or true_and and_true true_or or_true Option.some.injEq LV.d.injEq DV.val.injEq Value.bool.injEq Value.int.injEq decide_true decide_false and_self Nat.zero_add Nat.add_zero if_true if_false Int.toNat_zero beq_self_eq_true Nat.zero_lt_succ Int.toNat_natCast Int.natCast_nonneg List.length_map i64 bl List.zip_cons_cons List.zip_nil_left List.zip_nil_right nwp confV stateV nodeV jobV nodesV jobsV opV msgV nodeR jobR opR msgR zeroOp zeroMsg msgsV
variable {G : Nat → Option (List DV)}

/-- dunnagelaw08.OpsBack -/
def ir5 : Nat × C × List RV := (99,
(.seq (.reg [⟨(some 3), .box 23 (.t 0), none, []⟩,
 ⟨(some 6), .mv (.c (.val (.bool false))), none, []⟩])
 (.seq (.seq (.reg [⟨(some 15), .call (.f 8) [], none, []⟩,
 ⟨(some 16), .not (.t 15), none, []⟩])
 (.cond (.t 16) (.seq (.reg [⟨(some 6), .mv (.c (.val (.bool false))), none, []⟩])
 .ret)
 .skip))
 (.seq (.seq (.reg [⟨(some 17), .mv (.t 1), none, []⟩,
 ⟨(some 18), .len (.t 17), none, []⟩,
 ⟨(some 19), .bin .gtr (.t 18) (.c (.val (.int .i64 300))), none, []⟩,
 ⟨(some 20), .mv (.t 19), none, []⟩,
 ⟨(some 21), .mv (.t 2), (some (20, false)), []⟩,
 ⟨(some 22), .lens (.t 21), (some (20, false)), []⟩,
 ⟨(some 23), .bin .gtr (.t 22) (.c (.val (.int .i64 300))), (some (20, false)), []⟩,
 ⟨(some 24), .pick (.t 20) (.c (.val (.bool true))) (.t 23), none, []⟩])
 (.cond (.t 24) (.seq (.reg [⟨(some 6), .mv (.c (.val (.bool true))), none, []⟩])
 .ret)
 .skip))
 (.seq (.seq (.reg [⟨(some 25), .ldn 7 (.t 3), none, []⟩,
 ⟨(some 26), .call (.f 11) [(.t 25)], none, []⟩])
 (.cond (.t 26) (.seq (.reg [⟨(some 28), .ldn 7 (.t 3), none, []⟩,
 ⟨(some 29), .call (.f 14) [(.t 28)], none, []⟩,
 ⟨(some 30), .call (.f 9) [(.t 29)], none, []⟩,
 ⟨(some 27), .mv (.t 30), none, []⟩,
 ⟨(some 31), .ext (.t 27) 0, none, []⟩,
 ⟨(some 32), .ext (.t 27) 1, none, []⟩,
 ⟨(some 7), .new 23 [(.val (.int .i64 0)), (.val (.int .i64 0)), (.val (.int .i64 0)), (.val (.int .i64 0)), (.val (.int .i64 0)), (.val (.int .i64 0)), (.val (.int .i64 0))], none, []⟩,
 ⟨none, .st 7 (.t 7) (.t 31), none, []⟩,
 ⟨(some 8), .mv (.t 32), none, []⟩])
 (.seq (.reg [⟨(some 34), .ldn 7 (.t 3), none, []⟩,
 ⟨(some 35), .call (.f 20) [(.t 34)], none, []⟩,
 ⟨(some 36), .call (.f 16) [(.t 35)], none, []⟩,
 ⟨(some 33), .mv (.t 36), none, []⟩,
 ⟨(some 37), .ext (.t 33) 0, none, []⟩,
 ⟨(some 38), .ext (.t 33) 1, none, []⟩,
 ⟨(some 9), .new 23 [(.val (.int .i64 0)), (.val (.int .i64 0)), (.val (.int .i64 0)), (.val (.int .i64 0)), (.val (.int .i64 0)), (.val (.int .i64 0)), (.val (.int .i64 0))], none, []⟩,
 ⟨none, .st 7 (.t 9) (.t 37), none, []⟩,
 ⟨(some 10), .mv (.t 38), none, []⟩])
 (.seq (.reg [⟨(some 39), .mv (.t 8), none, []⟩,
 ⟨(some 40), .not (.t 39), none, []⟩,
 ⟨(some 41), .mv (.t 40), none, []⟩,
 ⟨(some 42), .mv (.t 10), (some (41, false)), []⟩,
 ⟨(some 43), .not (.t 42), (some (41, false)), []⟩,
 ⟨(some 44), .pick (.t 41) (.c (.val (.bool true))) (.t 43), none, []⟩,
 ⟨(some 45), .mv (.t 44), none, []⟩,
 ⟨(some 46), .ldn 7 (.t 7), (some (45, false)), []⟩,
 ⟨(some 47), .ldn 7 (.t 3), (some (45, false)), []⟩,
 ⟨(some 48), .eqs true [0, 0, 0, 0, 0, 0, 0] (.t 46) (.t 47), (some (45, false)), []⟩,
 ⟨(some 49), .pick (.t 45) (.c (.val (.bool true))) (.t 48), none, []⟩,
 ⟨(some 50), .mv (.t 49), none, []⟩,
 ⟨(some 51), .ldn 7 (.t 9), (some (50, false)), []⟩,
 ⟨(some 52), .ldn 7 (.t 3), (some (50, false)), []⟩,
 ⟨(some 53), .eqs true [0, 0, 0, 0, 0, 0, 0] (.t 51) (.t 52), (some (50, false)), []⟩,
 ⟨(some 54), .pick (.t 50) (.c (.val (.bool true))) (.t 53), none, []⟩])
 (.cond (.t 54) (.seq (.reg [⟨(some 6), .mv (.c (.val (.bool false))), none, []⟩])
 .ret)
 .skip))))
 (.seq (.regD [⟨(some 55), .ldn 7 (.t 3), none, []⟩,
 ⟨(some 56), .call (.f 14) [(.t 55)], none, [0]⟩,
 ⟨(some 57), .len (.t 56), none, [1, 0]⟩,
 ⟨(some 58), .ldn 7 (.t 3), none, []⟩,
 ⟨(some 59), .call (.f 20) [(.t 58)], none, [3, 1, 0]⟩,
 ⟨(some 60), .lens (.t 59), none, [4, 3, 1, 0]⟩,
 ⟨(some 61), .bin .add (.t 57) (.t 60), none, [2, 1, 0, 5, 4, 3]⟩,
 ⟨(some 62), .bin .gtr (.t 61) (.c (.val (.int .i64 0))), none, [6, 2, 1, 0, 5, 4, 3]⟩])
 (.cond (.t 62) (.seq (.reg [⟨(some 6), .mv (.c (.val (.bool false))), none, []⟩])
 .ret)
 .skip))))
 (.seq (.reg [⟨(some 64), .mv (.t 1), none, []⟩,
 ⟨(some 65), .call (.f 9) [(.t 64)], none, []⟩,
 ⟨(some 63), .mv (.t 65), none, []⟩,
 ⟨(some 66), .ext (.t 63) 0, none, []⟩,
 ⟨(some 67), .ext (.t 63) 1, none, []⟩,
 ⟨(some 11), .new 23 [(.val (.int .i64 0)), (.val (.int .i64 0)), (.val (.int .i64 0)), (.val (.int .i64 0)), (.val (.int .i64 0)), (.val (.int .i64 0)), (.val (.int .i64 0))], none, []⟩,
 ⟨none, .st 7 (.t 11) (.t 66), none, []⟩,
 ⟨(some 12), .mv (.t 67), none, []⟩])
 (.seq (.reg [⟨(some 69), .mv (.t 2), none, []⟩,
 ⟨(some 70), .call (.f 16) [(.t 69)], none, []⟩,
 ⟨(some 68), .mv (.t 70), none, []⟩,
 ⟨(some 71), .ext (.t 68) 0, none, []⟩,
 ⟨(some 72), .ext (.t 68) 1, none, []⟩,
 ⟨(some 13), .new 23 [(.val (.int .i64 0)), (.val (.int .i64 0)), (.val (.int .i64 0)), (.val (.int .i64 0)), (.val (.int .i64 0)), (.val (.int .i64 0)), (.val (.int .i64 0))], none, []⟩,
 ⟨none, .st 7 (.t 13) (.t 71), none, []⟩,
 ⟨(some 14), .mv (.t 72), none, []⟩])
 (.seq (.reg [⟨(some 73), .mv (.t 12), none, []⟩,
 ⟨(some 74), .not (.t 73), none, []⟩,
 ⟨(some 75), .mv (.t 74), none, []⟩,
 ⟨(some 76), .ldn 7 (.t 11), (some (75, false)), []⟩,
 ⟨(some 77), .call (.f 11) [(.t 76)], (some (75, false)), []⟩,
 ⟨(some 78), .mv (.t 77), (some (75, false)), []⟩,
 ⟨(some 79), .ldn 7 (.t 11), (some (78, true)), []⟩,
 ⟨(some 80), .call (.f 14) [(.t 79)], (some (78, true)), []⟩,
 ⟨(some 81), .mv (.t 1), (some (78, true)), []⟩,
 ⟨(some 82), .call (.f 13) [(.t 80), (.t 81)], (some (78, true)), []⟩,
 ⟨(some 83), .pick (.t 78) (.t 82) (.c (.val (.bool false))), (some (75, false)), []⟩,
 ⟨(some 84), .pick (.t 75) (.c (.val (.bool true))) (.t 83), none, []⟩,
 ⟨(some 85), .mv (.t 84), none, []⟩,
 ⟨(some 86), .mv (.t 14), (some (85, true)), []⟩,
 ⟨(some 87), .not (.t 86), (some (85, true)), []⟩,
 ⟨(some 88), .mv (.t 87), (some (85, true)), []⟩,
 ⟨(some 89), .ldn 7 (.t 13), (some (88, false)), []⟩,
 ⟨(some 90), .call (.f 11) [(.t 89)], (some (88, false)), []⟩,
 ⟨(some 91), .mv (.t 90), (some (88, false)), []⟩,
 ⟨(some 92), .ldn 7 (.t 13), (some (91, true)), []⟩,
 ⟨(some 93), .call (.f 20) [(.t 92)], (some (91, true)), []⟩,
 ⟨(some 94), .mv (.t 2), (some (91, true)), []⟩,
 ⟨(some 95), .bin .eql (.t 93) (.t 94), (some (91, true)), []⟩,
 ⟨(some 96), .pick (.t 91) (.t 95) (.c (.val (.bool false))), (some (88, false)), []⟩,
 ⟨(some 97), .pick (.t 88) (.c (.val (.bool true))) (.t 96), (some (85, true)), []⟩,
 ⟨(some 98), .pick (.t 85) (.t 97) (.c (.val (.bool false))), none, []⟩,
 ⟨(some 6), .mv (.t 98), none, []⟩])
 .ret))))))),
[(.t 6)])
theorem irOk5 : convFn Tryd.prog Tryd.f5 = some ir5 := by kernel_rfl

attribute [local go_sem] u8 bytesV optOp

set_option maxHeartbeats 4000000 in
theorem back_law (h : OG G) (o : OpD) (b : List Int) (hb : ∀ x ∈ b, 0 ≤ x ∧ x ≤ 255) (s : ByteArray) : Tri Tryd.prog G 5 [opV o, bytesV b, .d (.val (.string s))] [] (.bool true) [] := by
  have hlb : (byteR b).length = b.length := by simp [byteR]
  refine tri_W0 Tryd.func5 (by decide) irOk5 (Nat.le_of_ble_eq_true rfl) rfl ?_
  simp only [ir5, go_sem, ↓reduceIte, zA, zB, zC, zD, zE, zF, reduceCtorEq, zG, zH, zI, zJ, zK, zL, zM, zN, zO, zP]
  refine W_calld (alive8_tri h) rfl rfl rfl rfl ?_; simp only [go_sem, ↓reduceIte, zA, zB, zC, zD, zE, zF, reduceCtorEq, zG, zH, zI, zJ, zK, zL, zM, zN, zO, zP]
  simp only [hlb, go_sem, ↓reduceIte, zA, zB, zC, zD, zE, zF, reduceCtorEq, zG, zH, zI, zJ, zK, zL, zM, zN, zO, zP]
  by_cases h1 : b.length ≤ 300
  case neg => simp only [decide_eq_true (show ((b.length : Nat) : Int) > 300 by omega), go_sem, ↓reduceIte, zA, zB, zC, zD, zE, zF, reduceCtorEq, zG, zH, zI, zJ, zK, zL, zM, zN, zO, zP]
  by_cases h2 : s.size ≤ 300
  case neg => simp only [decide_eq_false (show ¬ ((b.length : Nat) : Int) > 300 by omega), decide_eq_true (show ((s.size : Nat) : Int) > 300 by omega), go_sem, ↓reduceIte, zA, zB, zC, zD, zE, zF, reduceCtorEq, zG, zH, zI, zJ, zK, zL, zM, zN, zO, zP]
  simp only [decide_eq_false (show ¬ ((b.length : Nat) : Int) > 300 by omega), decide_eq_false (show ¬ ((s.size : Nat) : Int) > 300 by omega), go_sem, ↓reduceIte, zA, zB, zC, zD, zE, zF, reduceCtorEq, zG, zH, zI, zJ, zK, zL, zM, zN, zO, zP]
  refine W_calld (h.right o) rfl rfl rfl rfl ?_; simp only [go_sem, ↓reduceIte, zA, zB, zC, zD, zE, zF, reduceCtorEq, zG, zH, zI, zJ, zK, zL, zM, zN, zO, zP]
  cases hr : opOkB o with
  | true =>
    simp only [go_sem, ↓reduceIte, zA, zB, zC, zD, zE, zF, reduceCtorEq, zG, zH, zI, zJ, zK, zL, zM, zN, zO, zP]
    refine W_calld (h.put o) rfl rfl rfl rfl ?_; simp only [go_sem, ↓reduceIte, zA, zB, zC, zD, zE, zF, reduceCtorEq, zG, zH, zI, zJ, zK, zL, zM, zN, zO, zP]
    have hT := h.get (putO o) (putO_rng o) (by have := putO_len o; omega)
    rw [getO_put hr] at hT
    refine W_calld (hT) rfl rfl rfl rfl ?_; simp only [go_sem, ↓reduceIte, zA, zB, zC, zD, zE, zF, reduceCtorEq, zG, zH, zI, zJ, zK, zL, zM, zN, zO, zP]
    simp only [Option.isSome_some, Option.getD_some, go_sem, ↓reduceIte, zA, zB, zC, zD, zE, zF, reduceCtorEq, zG, zH, zI, zJ, zK, zL, zM, zN, zO, zP]
    refine W_calld (h.text o) rfl rfl rfl rfl ?_; simp only [go_sem, ↓reduceIte, zA, zB, zC, zD, zE, zF, reduceCtorEq, zG, zH, zI, zJ, zK, zL, zM, zN, zO, zP]
    have hT2 := h.parse (textO o) (by have := textO_size hr; omega)
    rw [parseO_text hr] at hT2
    refine W_calld (hT2) rfl rfl rfl rfl ?_; simp only [go_sem, ↓reduceIte, zA, zB, zC, zD, zE, zF, reduceCtorEq, zG, zH, zI, zJ, zK, zL, zM, zN, zO, zP]
    simp only [Option.isSome_some, Option.getD_some, go_sem, ↓reduceIte, zA, zB, zC, zD, zE, zF, reduceCtorEq, zG, zH, zI, zJ, zK, zL, zM, zN, zO, zP]
    refine W_calld (h.get b hb (by omega)) rfl rfl rfl rfl ?_; simp only [go_sem, ↓reduceIte, zA, zB, zC, zD, zE, zF, reduceCtorEq, zG, zH, zI, zJ, zK, zL, zM, zN, zO, zP]
    have hS := h.parse s (by omega)
    cases hg : getO b with
    | none =>
      simp only [Option.isSome_none, Option.getD_none, zeroOp, go_sem, ↓reduceIte, zA, zB, zC, zD, zE, zF, reduceCtorEq, zG, zH, zI, zJ, zK, zL, zM, zN, zO, zP]
      refine W_calld hS rfl rfl rfl rfl ?_
      cases hp2 : parseO s with
      | none => simp only [Option.isSome_none, Option.getD_none, zeroOp, go_sem, ↓reduceIte, zA, zB, zC, zD, zE, zF, reduceCtorEq, zG, zH, zI, zJ, zK, zL, zM, zN, zO, zP]
      | some y =>
        obtain ⟨k1, k2⟩ := parseO_back hp2
        simp only [Option.isSome_some, Option.getD_some, go_sem, ↓reduceIte, zA, zB, zC, zD, zE, zF, reduceCtorEq, zG, zH, zI, zJ, zK, zL, zM, zN, zO, zP]
        have hy := h.right y
        rw [k1] at hy
        refine W_calld (hy) rfl rfl rfl rfl ?_; simp only [go_sem, ↓reduceIte, zA, zB, zC, zD, zE, zF, reduceCtorEq, zG, zH, zI, zJ, zK, zL, zM, zN, zO, zP]
        have hy2 := h.text y
        rw [k2] at hy2
        refine W_calld (hy2) rfl rfl rfl rfl ?_; simp only [go_sem, ↓reduceIte, zA, zB, zC, zD, zE, zF, reduceCtorEq, zG, zH, zI, zJ, zK, zL, zM, zN, zO, zP]
    | some x =>
      obtain ⟨g1, g2⟩ := getO_back hb hg
      simp only [Option.isSome_some, Option.getD_some, go_sem, ↓reduceIte, zA, zB, zC, zD, zE, zF, reduceCtorEq, zG, zH, zI, zJ, zK, zL, zM, zN, zO, zP]
      refine W_calld hS rfl rfl rfl rfl ?_
      have hx := h.right x
      rw [g1] at hx
      have hx2 := h.put x
      rw [g2] at hx2
      cases hp2 : parseO s with
      | none =>
        simp only [Option.isSome_none, Option.getD_none, zeroOp, go_sem, ↓reduceIte, zA, zB, zC, zD, zE, zF, reduceCtorEq, zG, zH, zI, zJ, zK, zL, zM, zN, zO, zP]
        refine W_calld (hx) rfl rfl rfl rfl ?_; simp only [go_sem, ↓reduceIte, zA, zB, zC, zD, zE, zF, reduceCtorEq, zG, zH, zI, zJ, zK, zL, zM, zN, zO, zP]
        refine W_calld (hx2) rfl rfl rfl rfl ?_; simp only [go_sem, ↓reduceIte, zA, zB, zC, zD, zE, zF, reduceCtorEq, zG, zH, zI, zJ, zK, zL, zM, zN, zO, zP]
        refine W_calld (bytes_tri b b (by omega)) rfl rfl rfl rfl ?_; simp only [go_sem, ↓reduceIte, zA, zB, zC, zD, zE, zF, reduceCtorEq, zG, zH, zI, zJ, zK, zL, zM, zN, zO, zP]
      | some y =>
        obtain ⟨k1, k2⟩ := parseO_back hp2
        simp only [Option.isSome_some, Option.getD_some, go_sem, ↓reduceIte, zA, zB, zC, zD, zE, zF, reduceCtorEq, zG, zH, zI, zJ, zK, zL, zM, zN, zO, zP]
        refine W_calld (hx) rfl rfl rfl rfl ?_; simp only [go_sem, ↓reduceIte, zA, zB, zC, zD, zE, zF, reduceCtorEq, zG, zH, zI, zJ, zK, zL, zM, zN, zO, zP]
        refine W_calld (hx2) rfl rfl rfl rfl ?_; simp only [go_sem, ↓reduceIte, zA, zB, zC, zD, zE, zF, reduceCtorEq, zG, zH, zI, zJ, zK, zL, zM, zN, zO, zP]
        refine W_calld (bytes_tri b b (by omega)) rfl rfl rfl rfl ?_; simp only [go_sem, ↓reduceIte, zA, zB, zC, zD, zE, zF, reduceCtorEq, zG, zH, zI, zJ, zK, zL, zM, zN, zO, zP]
        have hy := h.right y
        rw [k1] at hy
        refine W_calld (hy) rfl rfl rfl rfl ?_; simp only [go_sem, ↓reduceIte, zA, zB, zC, zD, zE, zF, reduceCtorEq, zG, zH, zI, zJ, zK, zL, zM, zN, zO, zP]
        have hy2 := h.text y
        rw [k2] at hy2
        refine W_calld (hy2) rfl rfl rfl rfl ?_; simp only [go_sem, ↓reduceIte, zA, zB, zC, zD, zE, zF, reduceCtorEq, zG, zH, zI, zJ, zK, zL, zM, zN, zO, zP]
  | false =>
    have hp : putO o = [] := by unfold putO; rw [if_neg (by rw [hr]; decide)]
    have ht : textO o = ⟨#[]⟩ := textO_off (by rw [hr]; decide)
    have hP := h.put o
    have hX := h.text o
    rw [hp] at hP
    rw [ht] at hX
    simp only [go_sem, ↓reduceIte, zA, zB, zC, zD, zE, zF, reduceCtorEq, zG, zH, zI, zJ, zK, zL, zM, zN, zO, zP]
    refine WD_calld (hP) rfl rfl rfl rfl ?_; simp only [go_sem, ↓reduceIte, zA, zB, zC, zD, zE, zF, reduceCtorEq, zG, zH, zI, zJ, zK, zL, zM, zN, zO, zP]
    refine WD_calld (hX) rfl rfl rfl rfl ?_; simp only [go_sem, ↓reduceIte, zA, zB, zC, zD, zE, zF, reduceCtorEq, zG, zH, zI, zJ, zK, zL, zM, zN, zO, zP]
    simp only [byteR, List.map_nil, List.length_nil, go_sem, ↓reduceIte, zA, zB, zC, zD, zE, zF, reduceCtorEq, zG, zH, zI, zJ, zK, zL, zM, zN, zO, zP]
    have hw : decide (IntKind.i64.wrap (((0 : Nat) : Int) + (((#[] : Array UInt8).size : Nat) : Int)) > 0) = false := rfl
    simp only [hw, go_sem, ↓reduceIte, zA, zB, zC, zD, zE, zF, reduceCtorEq, zG, zH, zI, zJ, zK, zL, zM, zN, zO, zP]
    refine W_calld (h.get b hb (by omega)) rfl rfl rfl rfl ?_; simp only [go_sem, ↓reduceIte, zA, zB, zC, zD, zE, zF, reduceCtorEq, zG, zH, zI, zJ, zK, zL, zM, zN, zO, zP]
    have hS := h.parse s (by omega)
    cases hg : getO b with
    | none =>
      simp only [Option.isSome_none, Option.getD_none, zeroOp, go_sem, ↓reduceIte, zA, zB, zC, zD, zE, zF, reduceCtorEq, zG, zH, zI, zJ, zK, zL, zM, zN, zO, zP]
      refine W_calld hS rfl rfl rfl rfl ?_
      cases hp2 : parseO s with
      | none => simp only [Option.isSome_none, Option.getD_none, zeroOp, go_sem, ↓reduceIte, zA, zB, zC, zD, zE, zF, reduceCtorEq, zG, zH, zI, zJ, zK, zL, zM, zN, zO, zP]
      | some y =>
        obtain ⟨k1, k2⟩ := parseO_back hp2
        simp only [Option.isSome_some, Option.getD_some, go_sem, ↓reduceIte, zA, zB, zC, zD, zE, zF, reduceCtorEq, zG, zH, zI, zJ, zK, zL, zM, zN, zO, zP]
        have hy := h.right y
        rw [k1] at hy
        refine W_calld (hy) rfl rfl rfl rfl ?_; simp only [go_sem, ↓reduceIte, zA, zB, zC, zD, zE, zF, reduceCtorEq, zG, zH, zI, zJ, zK, zL, zM, zN, zO, zP]
        have hy2 := h.text y
        rw [k2] at hy2
        refine W_calld (hy2) rfl rfl rfl rfl ?_; simp only [go_sem, ↓reduceIte, zA, zB, zC, zD, zE, zF, reduceCtorEq, zG, zH, zI, zJ, zK, zL, zM, zN, zO, zP]
    | some x =>
      obtain ⟨g1, g2⟩ := getO_back hb hg
      simp only [Option.isSome_some, Option.getD_some, go_sem, ↓reduceIte, zA, zB, zC, zD, zE, zF, reduceCtorEq, zG, zH, zI, zJ, zK, zL, zM, zN, zO, zP]
      refine W_calld hS rfl rfl rfl rfl ?_
      have hx := h.right x
      rw [g1] at hx
      have hx2 := h.put x
      rw [g2] at hx2
      cases hp2 : parseO s with
      | none =>
        simp only [Option.isSome_none, Option.getD_none, zeroOp, go_sem, ↓reduceIte, zA, zB, zC, zD, zE, zF, reduceCtorEq, zG, zH, zI, zJ, zK, zL, zM, zN, zO, zP]
        refine W_calld (hx) rfl rfl rfl rfl ?_; simp only [go_sem, ↓reduceIte, zA, zB, zC, zD, zE, zF, reduceCtorEq, zG, zH, zI, zJ, zK, zL, zM, zN, zO, zP]
        refine W_calld (hx2) rfl rfl rfl rfl ?_; simp only [go_sem, ↓reduceIte, zA, zB, zC, zD, zE, zF, reduceCtorEq, zG, zH, zI, zJ, zK, zL, zM, zN, zO, zP]
        refine W_calld (bytes_tri b b (by omega)) rfl rfl rfl rfl ?_; simp only [go_sem, ↓reduceIte, zA, zB, zC, zD, zE, zF, reduceCtorEq, zG, zH, zI, zJ, zK, zL, zM, zN, zO, zP]
      | some y =>
        obtain ⟨k1, k2⟩ := parseO_back hp2
        simp only [Option.isSome_some, Option.getD_some, go_sem, ↓reduceIte, zA, zB, zC, zD, zE, zF, reduceCtorEq, zG, zH, zI, zJ, zK, zL, zM, zN, zO, zP]
        refine W_calld (hx) rfl rfl rfl rfl ?_; simp only [go_sem, ↓reduceIte, zA, zB, zC, zD, zE, zF, reduceCtorEq, zG, zH, zI, zJ, zK, zL, zM, zN, zO, zP]
        refine W_calld (hx2) rfl rfl rfl rfl ?_; simp only [go_sem, ↓reduceIte, zA, zB, zC, zD, zE, zF, reduceCtorEq, zG, zH, zI, zJ, zK, zL, zM, zN, zO, zP]
        refine W_calld (bytes_tri b b (by omega)) rfl rfl rfl rfl ?_; simp only [go_sem, ↓reduceIte, zA, zB, zC, zD, zE, zF, reduceCtorEq, zG, zH, zI, zJ, zK, zL, zM, zN, zO, zP]
        have hy := h.right y
        rw [k1] at hy
        refine W_calld (hy) rfl rfl rfl rfl ?_; simp only [go_sem, ↓reduceIte, zA, zB, zC, zD, zE, zF, reduceCtorEq, zG, zH, zI, zJ, zK, zL, zM, zN, zO, zP]
        have hy2 := h.text y
        rw [k2] at hy2
        refine W_calld (hy2) rfl rfl rfl rfl ?_; simp only [go_sem, ↓reduceIte, zA, zB, zC, zD, zE, zF, reduceCtorEq, zG, zH, zI, zJ, zK, zL, zM, zN, zO, zP]
end Dv
