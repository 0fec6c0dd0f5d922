/- The image's statements: what is put is read again; a state's bytes are few. -/
import Derived.Test.YtbhdfmgphcelhaaI15
set_option linter.unusedVariables false
set_option linter.unusedSimpArgs false
namespace Dv
open Go Go.Proofs
open Nat renaming reduceEqDiff → zA, reduceAdd → zB, reduceSub → zC, reduceMul → zD, reduceLT → zE, reduceLeDiff → zF
open Int renaming reduceLE → zG, reduceLT → zH, reduceToNat → zI, reduceBEq → zJ, reduceBNe → zK, reduceEq → zL, reduceAdd → zM, reduceSub → zN, reduceMul → zO, reduceNeg → zP
attribute [local go_sem] argEnv W_nil W_seq W_skip W_ret W_exit W_scope W_block W_blk W_reg W_regD W_cond WC_t WC_f WC_any Wx_c Wx_ops Wx_lp Wx_blk W_ops_nil W_opsD_q W_guard W_guardD WG_tt WG_ff WG_tf WG_ft WG_u WGD_tt WGD_ff WGD_tf WGD_ft WGD_u WE_some WED_some W_mv W_pick W_new W_box W_build W_bsl W_ld1 W_ldn W_st W_nck W_bin W_eqb W_not W_cvt W_fad W_fld1 W_fldn W_ixa W_ixr W_ix1 W_ixs W_len W_lens W_mkf W_ext W_app W_min W_isnp W_isns W_eqs W_neg W_ixn W_sli W_sls WD_mv WD_pick WD_new WD_box WD_build WD_bsl WD_ld1 WD_ldn WD_st WD_nck WD_bin WD_eqb WD_not WD_cvt WD_fad WD_fld1 WD_fldn WD_ixa WD_ixr WD_ix1 WD_ixs WD_len WD_lens WD_mkf WD_ext WD_app WD_min WD_isnp WD_isns WD_eqs WD_neg WD_ixn WD_sli WD_sls effF Opd.ev getE putE binV LV.int LV.bool LV.undef Go.undef LV.cells LV.toD LV.toDs splice fillL rowsOf srcRows updL objL Eff.owned nwp St.get St.obj St.put Value.oneCell' Ends adopt Ad.ap isNil St.keep St.okKeep okObj idl idlL idlO RVs.of RV.of oneOr Ends0 EndsO_iff frzs rn rnL rnO piOf eqCells eqV boundV Option.map_some Option.map_none List.append_nil List.nil_append List.cons_append List.map_nil List.map_cons List.length_nil List.length_cons List.set_cons_zero List.set_cons_succ List.take_succ_cons List.take_zero List.take_nil List.drop_succ_cons List.drop_zero List.drop_nil List.getElem?_cons_zero List.getElem?_cons_succ List.getElem?_nil List.isEmpty_nil List.isEmpty_cons List.all_cons List.all_nil List.isEmpty_nil cond_true cond_false Bool.true_and Bool.false_and Bool.and_true Bool.and_false Bool.not_true Bool.not_false Bool.or_true Bool.true_or Bool.or_false Bool.false_or true_and and_true true_or or_true Option.some.injEq LV.d.injEq DV.val.injEq Value.bool.injEq Value.int.injEq decide_true decide_false and_self Nat.zero_add Nat.add_zero if_true if_false Int.toNat_zero beq_self_eq_true Nat.zero_lt_succ Int.toNat_natCast Int.natCast_nonneg List.length_map i64 bl List.zip_cons_cons List.zip_nil_left List.zip_nil_right nwp confV stateV nodeV jobV nodesV jobsV opV msgV nodeR jobR opR msgR zeroOp zeroMsg msgsV
variable {G : Nat → Option (List DV)}

/-- dunnagelaw10.ImageBack -/
def ir5 : Nat × C × List RV := (65,
(.seq (.reg [⟨(some 3), .box 32 (.t 0), none, []⟩,
 ⟨(some 4), .box 25 (.t 1), none, []⟩,
 ⟨(some 6), .mv (.c (.val (.bool false))), none, []⟩])
 (.seq (.seq (.reg [⟨(some 11), .call (.f 7) [], none, []⟩,
 ⟨(some 12), .not (.t 11), none, []⟩])
 (.cond (.t 12) (.seq (.reg [⟨(some 6), .mv (.c (.val (.bool false))), none, []⟩])
 .ret)
 .skip))
 (.seq (.seq (.reg [⟨(some 13), .fad 0 (.t 4), none, []⟩,
 ⟨(some 14), .ld1 (.t 13), none, []⟩,
 ⟨(some 15), .len (.t 14), none, []⟩,
 ⟨(some 16), .bin .gtr (.t 15) (.c (.val (.int .i64 50))), none, []⟩,
 ⟨(some 17), .mv (.t 16), none, []⟩,
 ⟨(some 18), .fad 1 (.t 4), (some (17, false)), []⟩,
 ⟨(some 19), .ld1 (.t 18), (some (17, false)), []⟩,
 ⟨(some 20), .len (.t 19), (some (17, false)), []⟩,
 ⟨(some 21), .bin .gtr (.t 20) (.c (.val (.int .i64 100))), (some (17, false)), []⟩,
 ⟨(some 22), .pick (.t 17) (.c (.val (.bool true))) (.t 21), none, []⟩,
 ⟨(some 23), .mv (.t 22), none, []⟩,
 ⟨(some 24), .mv (.t 2), (some (23, false)), []⟩,
 ⟨(some 25), .len (.t 24), (some (23, false)), []⟩,
 ⟨(some 26), .bin .gtr (.t 25) (.c (.val (.int .i64 2000))), (some (23, false)), []⟩,
 ⟨(some 27), .pick (.t 23) (.c (.val (.bool true))) (.t 26), none, []⟩])
 (.cond (.t 27) (.seq (.reg [⟨(some 6), .mv (.c (.val (.bool true))), none, []⟩])
 .ret)
 .skip))
 (.seq (.seq (.reg [⟨(some 28), .ldn 9 (.t 3), none, []⟩,
 ⟨(some 29), .ldn 6 (.t 4), none, []⟩,
 ⟨(some 30), .call (.f 14) [(.t 28), (.t 29)], none, []⟩])
 (.cond (.t 30) (.seq (.regD [⟨(some 32), .ldn 9 (.t 3), none, []⟩,
 ⟨(some 33), .ldn 6 (.t 4), none, []⟩,
 ⟨(some 34), .call (.f 9) [(.t 33)], none, [1]⟩,
 ⟨(some 35), .call (.f 11) [(.t 32), (.t 34)], none, [0, 2, 1]⟩,
 ⟨(some 31), .mv (.t 35), none, [3, 0, 2, 1]⟩,
 ⟨(some 36), .ext (.t 31) 0, none, [4, 3, 0, 2, 1]⟩,
 ⟨(some 37), .ext (.t 31) 1, none, [4, 3, 0, 2, 1]⟩,
 ⟨(some 7), .new 25 [(.val (.slice none 0 0)), (.val (.slice none 0 0)), (.val (.int .i64 0)), (.val (.int .i64 0)), (.val (.int .i64 0)), (.val (.int .i64 0))], none, []⟩,
 ⟨none, .st 6 (.t 7) (.t 36), none, [7, 5, 4, 3, 0, 2, 1]⟩,
 ⟨(some 8), .mv (.t 37), none, [6, 4, 3, 0, 2, 1, 8, 7, 5]⟩])
 (.seq (.reg [⟨(some 38), .mv (.t 8), none, []⟩,
 ⟨(some 39), .not (.t 38), none, []⟩,
 ⟨(some 40), .mv (.t 39), none, []⟩,
 ⟨(some 41), .ldn 6 (.t 4), (some (40, false)), []⟩,
 ⟨(some 42), .ldn 6 (.t 7), (some (40, false)), []⟩,
 ⟨(some 43), .call (.f 13) [(.t 41), (.t 42)], (some (40, false)), []⟩,
 ⟨(some 44), .not (.t 43), (some (40, false)), []⟩,
 ⟨(some 45), .pick (.t 40) (.c (.val (.bool true))) (.t 44), none, []⟩])
 (.cond (.t 45) (.seq (.reg [⟨(some 6), .mv (.c (.val (.bool false))), none, []⟩])
 .ret)
 .skip)))
 .skip))
 (.seq (.reg [⟨(some 47), .ldn 9 (.t 3), none, []⟩,
 ⟨(some 48), .mv (.t 2), none, []⟩,
 ⟨(some 49), .call (.f 11) [(.t 47), (.t 48)], none, []⟩,
 ⟨(some 46), .mv (.t 49), none, []⟩,
 ⟨(some 50), .ext (.t 46) 0, none, []⟩,
 ⟨(some 51), .ext (.t 46) 1, none, []⟩,
 ⟨(some 9), .new 25 [(.val (.slice none 0 0)), (.val (.slice none 0 0)), (.val (.int .i64 0)), (.val (.int .i64 0)), (.val (.int .i64 0)), (.val (.int .i64 0))], none, []⟩,
 ⟨none, .st 6 (.t 9) (.t 50), none, []⟩,
 ⟨(some 10), .mv (.t 51), none, []⟩])
 (.seq (.reg [⟨(some 52), .mv (.t 10), none, []⟩,
 ⟨(some 53), .not (.t 52), none, []⟩,
 ⟨(some 54), .mv (.t 53), none, []⟩,
 ⟨(some 55), .ldn 9 (.t 3), (some (54, false)), []⟩,
 ⟨(some 56), .ldn 6 (.t 9), (some (54, false)), []⟩,
 ⟨(some 57), .call (.f 14) [(.t 55), (.t 56)], (some (54, false)), []⟩,
 ⟨(some 58), .mv (.t 57), (some (54, false)), []⟩,
 ⟨(some 59), .ldn 6 (.t 9), (some (58, true)), []⟩,
 ⟨(some 60), .call (.f 9) [(.t 59)], (some (58, true)), []⟩,
 ⟨(some 61), .mv (.t 2), (some (58, true)), []⟩,
 ⟨(some 62), .call (.f 8) [(.t 60), (.t 61)], (some (58, true)), []⟩,
 ⟨(some 63), .pick (.t 58) (.t 62) (.c (.val (.bool false))), (some (54, false)), []⟩,
 ⟨(some 64), .pick (.t 54) (.c (.val (.bool true))) (.t 63), none, []⟩,
 ⟨(some 6), .mv (.t 64), none, []⟩])
 .ret)))))),
[(.t 6)])
theorem irOk5 : convFn Try.prog Try.f5 = some ir5 := by kernel_rfl
/-- dunnagelaw10.ImageFew -/
def ir6 : Nat × C × List RV := (52,
(.seq (.reg [⟨(some 2), .box 32 (.t 0), none, []⟩,
 ⟨(some 3), .box 25 (.t 1), none, []⟩,
 ⟨(some 4), .mv (.c (.val (.bool false))), none, []⟩])
 (.seq (.seq (.reg [⟨(some 9), .call (.f 7) [], none, []⟩,
 ⟨(some 10), .not (.t 9), none, []⟩])
 (.cond (.t 10) (.seq (.reg [⟨(some 4), .mv (.c (.val (.bool false))), none, []⟩])
 .ret)
 .skip))
 (.seq (.seq (.reg [⟨(some 11), .fad 0 (.t 3), none, []⟩,
 ⟨(some 12), .ld1 (.t 11), none, []⟩,
 ⟨(some 13), .len (.t 12), none, []⟩,
 ⟨(some 14), .bin .gtr (.t 13) (.c (.val (.int .i64 50))), none, []⟩,
 ⟨(some 15), .mv (.t 14), none, []⟩,
 ⟨(some 16), .fad 1 (.t 3), (some (15, false)), []⟩,
 ⟨(some 17), .ld1 (.t 16), (some (15, false)), []⟩,
 ⟨(some 18), .len (.t 17), (some (15, false)), []⟩,
 ⟨(some 19), .bin .gtr (.t 18) (.c (.val (.int .i64 100))), (some (15, false)), []⟩,
 ⟨(some 20), .pick (.t 15) (.c (.val (.bool true))) (.t 19), none, []⟩,
 ⟨(some 21), .mv (.t 20), none, []⟩,
 ⟨(some 22), .ldn 9 (.t 2), (some (21, false)), []⟩,
 ⟨(some 23), .ldn 6 (.t 3), (some (21, false)), []⟩,
 ⟨(some 24), .call (.f 14) [(.t 22), (.t 23)], (some (21, false)), []⟩,
 ⟨(some 25), .not (.t 24), (some (21, false)), []⟩,
 ⟨(some 26), .pick (.t 21) (.c (.val (.bool true))) (.t 25), none, []⟩])
 (.cond (.t 26) (.seq (.reg [⟨(some 4), .mv (.c (.val (.bool true))), none, []⟩])
 .ret)
 .skip))
 (.seq (.reg [⟨(some 27), .ldn 6 (.t 3), none, []⟩,
 ⟨(some 28), .call (.f 9) [(.t 27)], none, []⟩,
 ⟨(some 5), .mv (.t 28), none, []⟩])
 (.seq (.seq (.reg [⟨(some 29), .mv (.t 5), none, []⟩,
 ⟨(some 30), .len (.t 29), none, []⟩,
 ⟨(some 31), .bin .lss (.t 30) (.c (.val (.int .i64 10))), none, []⟩,
 ⟨(some 32), .mv (.t 31), none, []⟩,
 ⟨(some 33), .mv (.t 5), (some (32, false)), []⟩,
 ⟨(some 34), .len (.t 33), (some (32, false)), []⟩,
 ⟨(some 35), .bin .gtr (.t 34) (.c (.val (.int .i64 900))), (some (32, false)), []⟩,
 ⟨(some 36), .pick (.t 32) (.c (.val (.bool true))) (.t 35), none, []⟩])
 (.cond (.t 36) (.seq (.reg [⟨(some 4), .mv (.c (.val (.bool false))), none, []⟩])
 .ret)
 .skip))
 (.seq (.seq (.reg [⟨(some 6), .mv (.c (.val (.int .i64 0))), none, []⟩])
 (.block 0 (.loop (.seq (.seq (.reg [⟨(some 37), .mv (.t 6), none, []⟩,
 ⟨(some 38), .mv (.t 5), none, []⟩,
 ⟨(some 39), .len (.t 38), none, []⟩,
 ⟨(some 40), .bin .lss (.t 37) (.t 39), none, []⟩])
 (.cond (.t 40) .skip
 (.exit 0)))
 (.seq (.block 1 (.seq (.regD [⟨(some 44), .ldn 9 (.t 2), none, []⟩,
 ⟨(some 45), .mv (.t 5), none, []⟩,
 ⟨(some 46), .mv (.t 6), none, []⟩,
 ⟨(some 47), .sli 1 (.t 45) none (some (.t 46)) none, none, [1, 2]⟩,
 ⟨(some 48), .call (.f 11) [(.t 44), (.t 47)], none, [0, 3, 1, 2]⟩,
 ⟨(some 43), .mv (.t 48), none, [4, 0, 3, 1, 2]⟩,
 ⟨(some 49), .ext (.t 43) 0, none, [5, 4, 0, 3, 1, 2]⟩,
 ⟨(some 50), .ext (.t 43) 1, none, [5, 4, 0, 3, 1, 2]⟩,
 ⟨(some 7), .new 25 [(.val (.slice none 0 0)), (.val (.slice none 0 0)), (.val (.int .i64 0)), (.val (.int .i64 0)), (.val (.int .i64 0)), (.val (.int .i64 0))], none, []⟩,
 ⟨none, .st 6 (.t 7) (.t 49), none, [8, 6, 5, 4, 0, 3, 1, 2]⟩,
 ⟨(some 8), .mv (.t 50), none, [7, 5, 4, 0, 3, 1, 2, 9, 8, 6]⟩])
 (.seq (.reg [⟨(some 51), .mv (.t 8), none, []⟩])
 (.cond (.t 51) (.seq (.reg [⟨(some 4), .mv (.c (.val (.bool false))), none, []⟩])
 .ret)
 .skip))))
 (.reg [⟨(some 41), .mv (.t 6), none, []⟩,
 ⟨(some 42), .bin .add (.t 41) (.c (.val (.int .i64 1))), none, []⟩,
 ⟨(some 6), .mv (.t 42), none, []⟩]))))))
 (.seq (.reg [⟨(some 4), .mv (.c (.val (.bool true))), none, []⟩])
 .ret))))))),
[(.t 4)])
theorem irOk6 : convFn Try.prog Try.f6 = some ir6 := by kernel_rfl

attribute [local go_sem] bytesV getOf

set_option maxHeartbeats 2000000 in
theorem back_tri (c : ConfD) (s : StateD) (b : List Int) (hb : ∀ x ∈ b, 0 ≤ x ∧ x ≤ 255) : Tri Try.prog G 5 [confV c, stateV s, bytesV b] [] (.bool true) [] := by
  have hlb : (byteR b).length = b.length := by simp [byteR]
  refine tri_W0 Try.func5 (by decide) irOk5 (Nat.le_of_ble_eq_true rfl) rfl ?_
  simp only [ir5, go_sem, ↓reduceIte, zA, zB, zC, zD, zE, zF, reduceCtorEq, zG, zH, zI, zJ, zK, zL, zM, zN, zO, zP]
  refine W_calld (alive_tri) rfl rfl rfl rfl ?_; simp only [go_sem, ↓reduceIte, zA, zB, zC, zD, zE, zF, reduceCtorEq, zG, zH, zI, zJ, zK, zL, zM, zN, zO, zP]
  by_cases h1 : s.nodes.length ≤ 50
  case neg => simp only [decide_eq_true (show ((s.nodes.length : Nat) : Int) > 50 by omega), go_sem, ↓reduceIte, zA, zB, zC, zD, zE, zF, reduceCtorEq, zG, zH, zI, zJ, zK, zL, zM, zN, zO, zP]
  by_cases h2 : s.jobs.length ≤ 100
  case neg => simp only [decide_eq_false (show ¬ ((s.nodes.length : Nat) : Int) > 50 by omega), decide_eq_true (show ((s.jobs.length : Nat) : Int) > 100 by omega), go_sem, ↓reduceIte, zA, zB, zC, zD, zE, zF, reduceCtorEq, zG, zH, zI, zJ, zK, zL, zM, zN, zO, zP]
  by_cases h3 : b.length ≤ 2000
  case neg => simp only [decide_eq_false (show ¬ ((s.nodes.length : Nat) : Int) > 50 by omega), decide_eq_false (show ¬ ((s.jobs.length : Nat) : Int) > 100 by omega), hlb, decide_eq_true (show ((b.length : Nat) : Int) > 2000 by omega), go_sem, ↓reduceIte, zA, zB, zC, zD, zE, zF, reduceCtorEq, zG, zH, zI, zJ, zK, zL, zM, zN, zO, zP]
  simp only [decide_eq_false (show ¬ ((s.nodes.length : Nat) : Int) > 50 by omega), decide_eq_false (show ¬ ((s.jobs.length : Nat) : Int) > 100 by omega), hlb, decide_eq_false (show ¬ ((b.length : Nat) : Int) > 2000 by omega), go_sem, ↓reduceIte, zA, zB, zC, zD, zE, zF, reduceCtorEq, zG, zH, zI, zJ, zK, zL, zM, zN, zO, zP]
  refine W_calld (right_tri c s) rfl rfl rfl rfl ?_; simp only [go_sem, ↓reduceIte, zA, zB, zC, zD, zE, zF, reduceCtorEq, zG, zH, zI, zJ, zK, zL, zM, zN, zO, zP]
  cases hr : rightB c s with
  | false =>
    simp only [go_sem, ↓reduceIte, zA, zB, zC, zD, zE, zF, reduceCtorEq, zG, zH, zI, zJ, zK, zL, zM, zN, zO, zP]
    have hT2 := get_tri (G := G) c b hb (by omega)
    cases hI : getI c b with
    | none =>
      rw [hI] at hT2
      refine W_calld (hT2) rfl rfl rfl rfl ?_; simp only [go_sem, ↓reduceIte, zA, zB, zC, zD, zE, zF, reduceCtorEq, zG, zH, zI, zJ, zK, zL, zM, zN, zO, zP]
      simp only [Option.isSome_none, go_sem, ↓reduceIte, zA, zB, zC, zD, zE, zF, reduceCtorEq, zG, zH, zI, zJ, zK, zL, zM, zN, zO, zP]
    | some t =>
      obtain ⟨k1, k2, k3, k4, _⟩ := getI_back hb hI
      rw [hI] at hT2
      refine W_calld (hT2) rfl rfl rfl rfl ?_; simp only [go_sem, ↓reduceIte, zA, zB, zC, zD, zE, zF, reduceCtorEq, zG, zH, zI, zJ, zK, zL, zM, zN, zO, zP]
      simp only [Option.isSome_some, Option.getD_some, go_sem, ↓reduceIte, zA, zB, zC, zD, zE, zF, reduceCtorEq, zG, zH, zI, zJ, zK, zL, zM, zN, zO, zP]
      refine W_calld (right_tri c t) rfl rfl rfl rfl ?_; simp only [go_sem, ↓reduceIte, zA, zB, zC, zD, zE, zF, reduceCtorEq, zG, zH, zI, zJ, zK, zL, zM, zN, zO, zP]
      simp only [k1, go_sem, ↓reduceIte, zA, zB, zC, zD, zE, zF, reduceCtorEq, zG, zH, zI, zJ, zK, zL, zM, zN, zO, zP]
      have hP := put_tri (G := G) t (by omega) (by omega)
      rw [k2] at hP
      refine W_calld (hP) rfl rfl rfl rfl ?_; simp only [go_sem, ↓reduceIte, zA, zB, zC, zD, zE, zF, reduceCtorEq, zG, zH, zI, zJ, zK, zL, zM, zN, zO, zP]
      refine W_calld (bytes_tri b b (by omega)) rfl rfl rfl rfl ?_; simp only [go_sem, ↓reduceIte, zA, zB, zC, zD, zE, zF, reduceCtorEq, zG, zH, zI, zJ, zK, zL, zM, zN, zO, zP]
  | true =>
    obtain ⟨⟨hn, hj⟩, ha, _, hp9⟩ := right_bytes hr
    have hT := get_tri (G := G) c (putI s) (putI_rng s) (by omega)
    rw [getI_of hn hj ha hr] at hT
    simp only [go_sem, ↓reduceIte, zA, zB, zC, zD, zE, zF, reduceCtorEq, zG, zH, zI, zJ, zK, zL, zM, zN, zO, zP]
    refine WD_calld (put_tri s (by omega) (by omega)) rfl rfl rfl rfl ?_; simp only [go_sem, ↓reduceIte, zA, zB, zC, zD, zE, zF, reduceCtorEq, zG, zH, zI, zJ, zK, zL, zM, zN, zO, zP]
    refine WD_calld (hT) rfl rfl rfl rfl ?_; simp only [go_sem, ↓reduceIte, zA, zB, zC, zD, zE, zF, reduceCtorEq, zG, zH, zI, zJ, zK, zL, zM, zN, zO, zP]
    simp only [Option.isSome_some, Option.getD_some, go_sem, ↓reduceIte, zA, zB, zC, zD, zE, zF, reduceCtorEq, zG, zH, zI, zJ, zK, zL, zM, zN, zO, zP]
    refine W_opsD_end (by decide) ?_
    simp only [go_sem, ↓reduceIte, zA, zB, zC, zD, zE, zF, reduceCtorEq, zG, zH, zI, zJ, zK, zL, zM, zN, zO, zP]
    refine W_calld (same9_tri s s (by omega) (by omega)) rfl rfl rfl rfl ?_; simp only [go_sem, ↓reduceIte, zA, zB, zC, zD, zE, zF, reduceCtorEq, zG, zH, zI, zJ, zK, zL, zM, zN, zO, zP]
    have hT2 := get_tri (G := G) c b hb (by omega)
    cases hI : getI c b with
    | none =>
      rw [hI] at hT2
      refine W_calld (hT2) rfl rfl rfl rfl ?_; simp only [go_sem, ↓reduceIte, zA, zB, zC, zD, zE, zF, reduceCtorEq, zG, zH, zI, zJ, zK, zL, zM, zN, zO, zP]
      simp only [Option.isSome_none, go_sem, ↓reduceIte, zA, zB, zC, zD, zE, zF, reduceCtorEq, zG, zH, zI, zJ, zK, zL, zM, zN, zO, zP]
    | some t =>
      obtain ⟨k1, k2, k3, k4, _⟩ := getI_back hb hI
      rw [hI] at hT2
      refine W_calld (hT2) rfl rfl rfl rfl ?_; simp only [go_sem, ↓reduceIte, zA, zB, zC, zD, zE, zF, reduceCtorEq, zG, zH, zI, zJ, zK, zL, zM, zN, zO, zP]
      simp only [Option.isSome_some, Option.getD_some, go_sem, ↓reduceIte, zA, zB, zC, zD, zE, zF, reduceCtorEq, zG, zH, zI, zJ, zK, zL, zM, zN, zO, zP]
      refine W_calld (right_tri c t) rfl rfl rfl rfl ?_; simp only [go_sem, ↓reduceIte, zA, zB, zC, zD, zE, zF, reduceCtorEq, zG, zH, zI, zJ, zK, zL, zM, zN, zO, zP]
      simp only [k1, go_sem, ↓reduceIte, zA, zB, zC, zD, zE, zF, reduceCtorEq, zG, zH, zI, zJ, zK, zL, zM, zN, zO, zP]
      have hP := put_tri (G := G) t (by omega) (by omega)
      rw [k2] at hP
      refine W_calld (hP) rfl rfl rfl rfl ?_; simp only [go_sem, ↓reduceIte, zA, zB, zC, zD, zE, zF, reduceCtorEq, zG, zH, zI, zJ, zK, zL, zM, zN, zO, zP]
      refine W_calld (bytes_tri b b (by omega)) rfl rfl rfl rfl ?_; simp only [go_sem, ↓reduceIte, zA, zB, zC, zD, zE, zF, reduceCtorEq, zG, zH, zI, zJ, zK, zL, zM, zN, zO, zP]

def fewS (c : ConfD) (s : StateD) (n : Nat) : St := ⟨[(2, .ptr 0 0), (5, bytesV (putI s)), (6, .int n)], [some (cfBox c), some (.box 25 [nodesV s.nodes, jobsV s.jobs, .int s.goal, .int s.prior, .int s.mode, .int s.term])]⟩
attribute [local go_sem] cfBox
set_option maxHeartbeats 2000000 in
theorem few_tri (c : ConfD) (s : StateD) : Tri Try.prog G 6 [confV c, stateV s] [] (.bool true) [] := by
  refine tri_W0 Try.func6 (by decide) irOk6 (Nat.le_of_ble_eq_true rfl) rfl ?_
  simp only [ir6, go_sem, ↓reduceIte, zA, zB, zC, zD, zE, zF, reduceCtorEq, zG, zH, zI, zJ, zK, zL, zM, zN, zO, zP]
  refine W_calld (alive_tri) rfl rfl rfl rfl ?_; simp only [go_sem, ↓reduceIte, zA, zB, zC, zD, zE, zF, reduceCtorEq, zG, zH, zI, zJ, zK, zL, zM, zN, zO, zP]
  by_cases h1 : s.nodes.length ≤ 50
  case neg => simp only [decide_eq_true (show ((s.nodes.length : Nat) : Int) > 50 by omega), go_sem, ↓reduceIte, zA, zB, zC, zD, zE, zF, reduceCtorEq, zG, zH, zI, zJ, zK, zL, zM, zN, zO, zP]
  by_cases h2 : s.jobs.length ≤ 100
  case neg => simp only [decide_eq_false (show ¬ ((s.nodes.length : Nat) : Int) > 50 by omega), decide_eq_true (show ((s.jobs.length : Nat) : Int) > 100 by omega), go_sem, ↓reduceIte, zA, zB, zC, zD, zE, zF, reduceCtorEq, zG, zH, zI, zJ, zK, zL, zM, zN, zO, zP]
  simp only [decide_eq_false (show ¬ ((s.nodes.length : Nat) : Int) > 50 by omega), decide_eq_false (show ¬ ((s.jobs.length : Nat) : Int) > 100 by omega), go_sem, ↓reduceIte, zA, zB, zC, zD, zE, zF, reduceCtorEq, zG, zH, zI, zJ, zK, zL, zM, zN, zO, zP]
  refine W_calld (right_tri c s) rfl rfl rfl rfl ?_; simp only [go_sem, ↓reduceIte, zA, zB, zC, zD, zE, zF, reduceCtorEq, zG, zH, zI, zJ, zK, zL, zM, zN, zO, zP]
  cases hr : rightB c s with
  | false => simp only [go_sem, ↓reduceIte, zA, zB, zC, zD, zE, zF, reduceCtorEq, zG, zH, zI, zJ, zK, zL, zM, zN, zO, zP]
  | true =>
  obtain ⟨⟨hn, hj⟩, ha, hp10, hp9⟩ := right_bytes hr
  have hlp : (byteR (putI s)).length = (putI s).length := by simp [byteR]
  simp only [go_sem, ↓reduceIte, zA, zB, zC, zD, zE, zF, reduceCtorEq, zG, zH, zI, zJ, zK, zL, zM, zN, zO, zP]
  refine W_calld (put_tri s (by omega) (by omega)) rfl rfl rfl rfl ?_; simp only [go_sem, ↓reduceIte, zA, zB, zC, zD, zE, zF, reduceCtorEq, zG, zH, zI, zJ, zK, zL, zM, zN, zO, zP]
  simp only [hlp, decide_eq_false (show ¬ (((putI s).length : Nat) : Int) < 10 by omega), decide_eq_false (show ¬ (((putI s).length : Nat) : Int) > 900 by omega), go_sem, ↓reduceIte, zA, zB, zC, zD, zE, zF, reduceCtorEq, zG, zH, zI, zJ, zK, zL, zM, zN, zO, zP]
  refine W_loopI [2, 5, 6] [] (fun n : Nat => n ≤ (putI s).length) (fun n => (putI s).length - n) (fewS c s) 0 ?_ (Nat.zero_le _) ?_
  · simp only [fewS, Int.natCast_zero, go_sem, ↓reduceIte, zA, zB, zC, zD, zE, zF, reduceCtorEq, zG, zH, zI, zJ, zK, zL, zM, zN, zO, zP]
  intro n hk
  simp only [fewS, hlp, go_sem, ↓reduceIte, zA, zB, zC, zD, zE, zF, reduceCtorEq, zG, zH, zI, zJ, zK, zL, zM, zN, zO, zP]
  cases hlt : decide ((n : Int) < ((putI s).length : Int)) with
  | false => simp only [go_sem, ↓reduceIte, zA, zB, zC, zD, zE, zF, reduceCtorEq, zG, zH, zI, zJ, zK, zL, zM, zN, zO, zP]
  | true =>
  have hk2 : n < (putI s).length := by have := of_decide_eq_true hlt; omega
  have hT := get_tri (G := G) c ((putI s).take n) (fun x hx => putI_rng s x (List.mem_of_mem_take hx)) (by rw [List.length_take]; omega)
  rw [getI_head c s hn hj ha (putI_rng s) n hk2] at hT
  have htk : (byteR (putI s)).take n = byteR ((putI s).take n) := by simp only [byteR, List.map_take]
  have h5 : 0 ≤ n ∧ n ≤ (putI s).length ∧ (putI s).length ≤ (putI s).length := by omega
  simp only [hlp, h5, htk, Nat.sub_zero, go_sem, ↓reduceIte, zA, zB, zC, zD, zE, zF, reduceCtorEq, zG, zH, zI, zJ, zK, zL, zM, zN, zO, zP]
  refine WD_calld (hT) rfl rfl rfl rfl ?_; simp only [go_sem, ↓reduceIte, zA, zB, zC, zD, zE, zF, reduceCtorEq, zG, zH, zI, zJ, zK, zL, zM, zN, zO, zP]
  simp only [Option.isSome_none, Option.getD_none, go_sem, ↓reduceIte, zA, zB, zC, zD, zE, zF, reduceCtorEq, zG, zH, zI, zJ, zK, zL, zM, zN, zO, zP]
  refine W_opsD_end (by decide) ?_
  simp only [go_sem, ↓reduceIte, zA, zB, zC, zD, zE, zF, reduceCtorEq, zG, zH, zI, zJ, zK, zL, zM, zN, zO, zP]
  refine W_lpI (n + 1) ?_ ?_ (by omega) (by omega)
  · simp only [go_sem, ↓reduceIte, zA, zB, zC, zD, zE, zF, reduceCtorEq, zG, zH, zI, zJ, zK, zL, zM, zN, zO, zP]
  · simp only [fewS, wrap_succ (show n < 9223372036854775807 by omega), go_sem, ↓reduceIte, zA, zB, zC, zD, zE, zF, reduceCtorEq, zG, zH, zI, zJ, zK, zL, zM, zN, zO, zP]
end Dv
