/- Layer 17's laws: WaveWidth. -/
import Derived.Test.YtjmceebhnjiikaaDoorD8a
import Derived.Test.YtjmceebhnjiikaaDoorD14
import Derived.Test.YtjmceebhnjiikaaDoorL6
set_option linter.unusedVariables false
set_option linter.unusedSimpArgs false
namespace Dv
open Go Go.Proofs
open Nat renaming reduceEqDiff → zA, reduceAdd → zB, reduceSub → zC, reduceMul → zD, reduceLT → zE, reduceLeDiff → zF
open Int renaming reduceLE → zG, reduceLT → zH, reduceToNat → zI, reduceBEq → zJ, reduceBNe → zK, reduceEq → zL, reduceAdd → zM, reduceSub → zN, reduceMul → zO, reduceNeg → zP
attribute [local go_sem] argEnv W_nil W_seq W_skip W_ret W_exit W_scope W_block W_blk W_reg W_regD W_cond WC_t WC_f WC_any Wx_c Wx_ops Wx_lp Wx_blk W_ops_nil W_opsD_q W_guard W_guardD WG_tt WG_ff WG_tf WG_ft WG_u WGD_tt WGD_ff WGD_tf WGD_ft WGD_u WE_some WED_some W_mv W_pick W_new W_box W_build W_bsl W_ld1 W_ldn W_st W_nck W_bin W_eqb W_not W_cvt W_fad W_fld1 W_fldn W_ixa W_ixr W_ix1 W_ixs W_len W_lens W_mkf W_ext W_app W_min W_isnp W_isns W_eqs W_neg W_ixn W_sli W_sls WD_mv WD_pick WD_new WD_box WD_build WD_bsl WD_ld1 WD_ldn WD_st WD_nck WD_bin WD_eqb WD_not WD_cvt WD_fad WD_fld1 WD_fldn WD_ixa WD_ixr WD_ix1 WD_ixs WD_len WD_lens WD_mkf WD_ext WD_app WD_min WD_isnp WD_isns WD_eqs WD_neg WD_ixn WD_sli WD_sls effF Opd.ev getE putE binV LV.int LV.bool LV.undef Go.undef LV.cells LV.toD LV.toDs splice fillL rowsOf srcRows updL objL Eff.owned nwp St.get St.obj St.put Value.oneCell' Ends adopt Ad.ap isNil St.keep St.okKeep okObj idl idlL idlO RVs.of RV.of oneOr Ends0 EndsO_iff frzs rn rnL rnO piOf eqCells eqV boundV Option.map_some Option.map_none List.append_nil List.nil_append List.cons_append List.map_nil List.map_cons List.length_nil List.length_cons List.set_cons_zero List.set_cons_succ List.take_succ_cons List.take_zero List.take_nil List.drop_succ_cons List.drop_zero List.drop_nil List.getElem?_cons_zero List.getElem?_cons_succ List.getElem?_nil List.isEmpty_nil List.isEmpty_cons List.all_cons List.all_nil List.isEmpty_nil cond_true cond_false Bool.true_and Bool.false_and Bool.and_true Bool.and_false Bool.not_true Bool.not_false Bool.or_true Bool.true_or Bool.or_false Bool.false_or true_and and_true true_or or_true Option.some.injEq LV.d.injEq DV.val.injEq Value.bool.injEq Value.int.injEq decide_true decide_false and_self Nat.zero_add Nat.add_zero if_true if_false Int.toNat_zero beq_self_eq_true Nat.zero_lt_succ Int.toNat_natCast Int.natCast_nonneg List.length_map i64 bl List.zip_cons_cons List.zip_nil_left List.zip_nil_right nwp confV stateV nodeV jobV nodesV jobsV opV msgV nodeR jobR opR msgR zeroOp zeroMsg
variable {G : Nat → Option (List DV)}

/-- dunnagelaw17.WaveWidth -/
def ir12 : Nat × C × List RV := (64,
(.seq (.reg [⟨(some 3), .box 23 (.t 0), none, []⟩,
 ⟨(some 4), .box 27 (.t 1), none, []⟩,
 ⟨(some 6), .mv (.c (.val (.bool false))), none, []⟩])
 (.seq (.seq (.reg [⟨(some 14), .call (.f 33) [], none, []⟩,
 ⟨(some 15), .not (.t 14), none, []⟩])
 (.cond (.t 15) (.seq (.reg [⟨(some 6), .mv (.c (.val (.bool false))), none, []⟩])
 .ret)
 .skip))
 (.seq (.seq (.reg [⟨(some 16), .ldn 9 (.t 3), none, []⟩,
 ⟨(some 17), .ldn 6 (.t 4), none, []⟩,
 ⟨(some 18), .call (.f 21) [(.t 16), (.t 17)], none, []⟩,
 ⟨(some 19), .not (.t 18), none, []⟩,
 ⟨(some 20), .mv (.t 19), none, []⟩,
 ⟨(some 21), .mv (.t 2), (some (20, false)), []⟩,
 ⟨(some 22), .call (.f 34) [(.t 21)], (some (20, false)), []⟩,
 ⟨(some 23), .not (.t 22), (some (20, false)), []⟩,
 ⟨(some 24), .pick (.t 20) (.c (.val (.bool true))) (.t 23), none, []⟩])
 (.cond (.t 24) (.seq (.reg [⟨(some 6), .mv (.c (.val (.bool true))), none, []⟩])
 .ret)
 .skip))
 (.seq (.reg [⟨(some 25), .ldn 6 (.t 4), none, []⟩,
 ⟨(some 26), .call (.f 36) [(.t 25)], none, []⟩,
 ⟨(some 7), .mv (.t 26), none, []⟩])
 (.seq (.seq (.reg [⟨(some 8), .mv (.c (.val (.int .i64 0))), none, []⟩])
 (.block 0 (.loop (.seq (.seq (.reg [⟨(some 27), .mv (.t 8), none, []⟩,
 ⟨(some 28), .bin .lss (.t 27) (.c (.val (.int .i64 20))), none, []⟩])
 (.cond (.t 28) .skip
 (.exit 0)))
 (.seq (.block 1 (.seq (.reg [⟨(some 32), .ldn 9 (.t 3), none, []⟩,
 ⟨(some 33), .ldn 6 (.t 4), none, []⟩,
 ⟨(some 34), .mv (.t 2), none, []⟩,
 ⟨(some 35), .call (.f 35) [(.t 32), (.t 33), (.t 34)], none, []⟩,
 ⟨(some 31), .mv (.t 35), none, []⟩,
 ⟨(some 36), .ext (.t 31) 0, none, []⟩,
 ⟨(some 37), .ext (.t 31) 1, none, []⟩,
 ⟨(some 9), .new 35 [(.val (.int .i64 0)), (.val (.int .i64 0)), (.val (.int .i64 0)), (.val (.int .i64 0)), (.val (.int .i64 0)), (.val (.int .i64 0)), (.val (.int .i64 0))], none, []⟩,
 ⟨none, .st 7 (.t 9) (.t 36), none, []⟩,
 ⟨(some 10), .mv (.t 37), none, []⟩])
 (.seq (.seq (.reg [⟨(some 38), .mv (.t 10), none, []⟩,
 ⟨(some 39), .not (.t 38), none, []⟩])
 (.cond (.t 39) (.seq (.reg [⟨(some 6), .mv (.c (.val (.bool true))), none, []⟩])
 .ret)
 .skip))
 (.seq (.reg [⟨(some 41), .ldn 9 (.t 3), none, []⟩,
 ⟨(some 42), .ldn 6 (.t 4), none, []⟩,
 ⟨(some 43), .ldn 7 (.t 9), none, []⟩,
 ⟨(some 44), .call (.f 23) [(.t 41), (.t 42), (.t 43)], none, []⟩,
 ⟨(some 40), .mv (.t 44), none, []⟩,
 ⟨(some 45), .ext (.t 40) 0, none, []⟩,
 ⟨(some 46), .ext (.t 40) 1, none, []⟩,
 ⟨(some 11), .new 27 [(.val (.slice none 0 0)), (.val (.slice none 0 0)), (.val (.int .i64 0)), (.val (.int .i64 0)), (.val (.int .i64 0)), (.val (.int .i64 0))], none, []⟩,
 ⟨none, .st 6 (.t 11) (.t 45), none, []⟩,
 ⟨(some 12), .mv (.t 46), none, []⟩])
 (.seq (.reg [⟨(some 47), .ldn 6 (.t 11), none, []⟩,
 ⟨(some 48), .call (.f 36) [(.t 47)], none, []⟩,
 ⟨(some 13), .mv (.t 48), none, []⟩])
 (.seq (.seq (.reg [⟨(some 49), .mv (.t 12), none, []⟩,
 ⟨(some 50), .bin .neq (.t 49) (.c (.val (.int .i64 0))), none, []⟩,
 ⟨(some 51), .mv (.t 50), none, []⟩,
 ⟨(some 52), .mv (.t 13), (some (51, false)), []⟩,
 ⟨(some 53), .mv (.t 7), (some (51, false)), []⟩,
 ⟨(some 54), .bin .gtr (.t 52) (.t 53), (some (51, false)), []⟩,
 ⟨(some 55), .mv (.t 54), (some (51, false)), []⟩,
 ⟨(some 56), .mv (.t 13), (some (55, true)), []⟩,
 ⟨(some 57), .fad 3 (.t 3), (some (55, true)), []⟩,
 ⟨(some 58), .ld1 (.t 57), (some (55, true)), []⟩,
 ⟨(some 59), .bin .gtr (.t 56) (.t 58), (some (55, true)), []⟩,
 ⟨(some 60), .pick (.t 55) (.t 59) (.c (.val (.bool false))), (some (51, false)), []⟩,
 ⟨(some 61), .pick (.t 51) (.c (.val (.bool true))) (.t 60), none, []⟩])
 (.cond (.t 61) (.seq (.reg [⟨(some 6), .mv (.c (.val (.bool false))), none, []⟩])
 .ret)
 .skip))
 (.seq (.reg [⟨(some 62), .ldn 6 (.t 11), none, []⟩,
 ⟨none, .st 6 (.t 4) (.t 62), none, []⟩])
 (.reg [⟨(some 63), .mv (.t 13), none, []⟩,
 ⟨(some 7), .mv (.t 63), none, []⟩]))))))))
 (.reg [⟨(some 29), .mv (.t 8), none, []⟩,
 ⟨(some 30), .bin .add (.t 29) (.c (.val (.int .i64 1))), none, []⟩,
 ⟨(some 8), .mv (.t 30), none, []⟩]))))))
 (.seq (.reg [⟨(some 6), .mv (.c (.val (.bool true))), none, []⟩])
 .ret)))))),
[(.t 6)])
theorem irOk12 : convFn Tryd.prog Tryd.f12 = some ir12 := by kernel_rfl


def widthS (c : ConfD) (now : Int) (iu : Nat × StateD) : St := ⟨[(2, .int now), (3, .ptr 0 0), (4, .ptr 1 0), (7, .int (waveL iu.2.nodes)), (8, .int iu.1)],
  [some (.box 23 [.int c.nodes, .int c.queues, .int c.quota, .int c.wave, .int c.lease, .int c.retry, .int c.deadline, .int c.room, .int c.disk]),
   some (.box 27 [nodesV iu.2.nodes, jobsV iu.2.jobs, .int iu.2.goal, .int iu.2.prior, .int iu.2.mode, .int iu.2.term])]⟩
theorem waveWidth_tri (c : ConfD) (s : StateD) (now : Int) : Tri Tryd.prog bookG 12 [confV c, stateV s, .int now] [] (.bool true) [] := by
  refine tri_W0 Tryd.func12 (by decide) irOk12 (Nat.le_of_ble_eq_true rfl) rfl ?_
  simp only [ir12, go_sem, ↓reduceIte, zA, zB, zC, zD, zE, zF, reduceCtorEq, zG, zH, zI, zJ, zK, zL, zM, zN, zO, zP]
  refine W_calld (alive_tri) rfl rfl rfl rfl ?_; simp only [go_sem, ↓reduceIte, zA, zB, zC, zD, zE, zF, reduceCtorEq, zG, zH, zI, zJ, zK, zL, zM, zN, zO, zP]
  refine W_calld (right_tri c s) rfl rfl rfl rfl ?_; simp only [go_sem, ↓reduceIte, zA, zB, zC, zD, zE, zF, reduceCtorEq, zG, zH, zI, zJ, zK, zL, zM, zN, zO, zP]
  cases hr : rightB c s with
  | false => simp only [go_sem, ↓reduceIte, zA, zB, zC, zD, zE, zF, reduceCtorEq, zG, zH, zI, zJ, zK, zL, zM, zN, zO, zP]
  | true =>
  simp only [go_sem, ↓reduceIte, zA, zB, zC, zD, zE, zF, reduceCtorEq, zG, zH, zI, zJ, zK, zL, zM, zN, zO, zP]
  refine W_calld (time_tri now) rfl rfl rfl rfl ?_; simp only [go_sem, ↓reduceIte, zA, zB, zC, zD, zE, zF, reduceCtorEq, zG, zH, zI, zJ, zK, zL, zM, zN, zO, zP]
  cases ht : withinB now 0 1000000 with
  | false => simp only [go_sem, ↓reduceIte, zA, zB, zC, zD, zE, zF, reduceCtorEq, zG, zH, zI, zJ, zK, zL, zM, zN, zO, zP]
  | true =>
  have hp := (right_iff c s).1 hr
  have hnow : 0 ≤ now ∧ now ≤ 1000000 := of_decide_eq_true ht
  have hdl := (right_ok hr).conf
  have hd : -1000000000 ≤ now + c.deadline ∧ now + c.deadline ≤ 1000000000 := by omega
  have hpl := hp.len
  simp only [go_sem, ↓reduceIte, zA, zB, zC, zD, zE, zF, reduceCtorEq, zG, zH, zI, zJ, zK, zL, zM, zN, zO, zP]
  refine W_calld (wave_tri s (by omega)) rfl rfl rfl rfl ?_; simp only [go_sem, ↓reduceIte, zA, zB, zC, zD, zE, zF, reduceCtorEq, zG, zH, zI, zJ, zK, zL, zM, zN, zO, zP]
  refine W_loopI [2, 3, 4, 7, 8] [] (fun iu : Nat × StateD => iu.1 ≤ 20 ∧ RightP c iu.2) (fun iu => 20 - iu.1) (widthS c now) (0, s) ?_ ⟨by omega, hp⟩ ?_
  · simp only [widthS, go_sem, ↓reduceIte, zA, zB, zC, zD, zE, zF, reduceCtorEq, zG, zH, zI, zJ, zK, zL, zM, zN, zO, zP, Int.natCast_zero]
  rintro ⟨i, u⟩ ⟨hi, hu⟩
  dsimp only at hi hu
  simp only [widthS, go_sem, ↓reduceIte, zA, zB, zC, zD, zE, zF, reduceCtorEq, zG, zH, zI, zJ, zK, zL, zM, zN, zO, zP]
  refine WC_split (fun h => ?_) (fun h => ?_) <;> simp only [h, go_sem, ↓reduceIte, zA, zB, zC, zD, zE, zF, reduceCtorEq, zG, zH, zI, zJ, zK, zL, zM, zN, zO, zP] <;> (try simp only [beq_iff_eq, beq_eq_false_iff_ne, bne_iff_ne, ne_eq, decide_eq_true_eq, decide_eq_false_iff_not, Bool.not_true, Bool.not_false, Bool.not_eq_true, Bool.not_eq_false, bne_eq_false_iff_eq, Decidable.not_not] at h)
  · have hur := (right_iff c u).2 hu
    have hnj := (right_ok hur).nj
    refine W_calld (next_tri c u now hnj hd) rfl rfl rfl rfl ?_; simp only [go_sem, ↓reduceIte, zA, zB, zC, zD, zE, zF, reduceCtorEq, zG, zH, zI, zJ, zK, zL, zM, zN, zO, zP]
    simp only [optV, go_sem, ↓reduceIte, zA, zB, zC, zD, zE, zF, reduceCtorEq, zG, zH, zI, zJ, zK, zL, zM, zN, zO, zP]
    cases hq : nextW c u now with
    | none => simp only [Option.getD_none, Option.isSome_none, go_sem, ↓reduceIte, zA, zB, zC, zD, zE, zF, reduceCtorEq, zG, zH, zI, zJ, zK, zL, zM, zN, zO, zP]
    | some o =>
      obtain ⟨hm, hN⟩ := next_is (by omega) hnow.1 hq
      obtain ⟨hok, hwv⟩ := next_ok hu hN
      have hq2 := apply_right hu o
      have hql := hq2.len
      simp only [Option.getD_some, Option.isSome_some, go_sem, ↓reduceIte, zA, zB, zC, zD, zE, zF, reduceCtorEq, zG, zH, zI, zJ, zK, zL, zM, zN, zO, zP]
      refine W_calld (apply_tri c u o) rfl rfl rfl rfl ?_; simp only [go_sem, ↓reduceIte, zA, zB, zC, zD, zE, zF, reduceCtorEq, zG, zH, zI, zJ, zK, zL, zM, zN, zO, zP]
      generalize applyD c u o = p at *
      refine W_calld (wave_tri p.1 (by omega)) rfl rfl rfl rfl ?_; simp only [go_sem, ↓reduceIte, zA, zB, zC, zD, zE, zF, reduceCtorEq, zG, zH, zI, zJ, zK, zL, zM, zN, zO, zP]
      have g1 : (p.2 != 0) = false := by simpa using hok
      simp only [g1, go_sem, ↓reduceIte, zA, zB, zC, zD, zE, zF, reduceCtorEq, zG, zH, zI, zJ, zK, zL, zM, zN, zO, zP]
      refine WG_split (fun hw => ?_) (fun hw => ?_) <;> simp only [hw, go_sem, ↓reduceIte, zA, zB, zC, zD, zE, zF, reduceCtorEq, zG, zH, zI, zJ, zK, zL, zM, zN, zO, zP] <;> (try simp only [beq_iff_eq, beq_eq_false_iff_ne, bne_iff_ne, ne_eq, decide_eq_true_eq, decide_eq_false_iff_not, Bool.not_true, Bool.not_false, Bool.not_eq_true, Bool.not_eq_false, bne_eq_false_iff_eq, Decidable.not_not] at hw)
      · have g2 : decide (waveL p.1.nodes > c.wave) = false := by simp; omega
        simp only [g2, go_sem, ↓reduceIte, zA, zB, zC, zD, zE, zF, reduceCtorEq, zG, zH, zI, zJ, zK, zL, zM, zN, zO, zP]
        refine W_lpI (i + 1, p.1) ?_ ?_ ⟨by dsimp only; omega, hq2⟩ (by dsimp only; omega)
        · simp only [go_sem, ↓reduceIte, zA, zB, zC, zD, zE, zF, reduceCtorEq, zG, zH, zI, zJ, zK, zL, zM, zN, zO, zP]
        · simp only [widthS, go_sem, ↓reduceIte, zA, zB, zC, zD, zE, zF, reduceCtorEq, zG, zH, zI, zJ, zK, zL, zM, zN, zO, zP, wrap_succ (show i < 9223372036854775807 by omega)]
      · refine W_lpI (i + 1, p.1) ?_ ?_ ⟨by dsimp only; omega, hq2⟩ (by dsimp only; omega)
        · simp only [go_sem, ↓reduceIte, zA, zB, zC, zD, zE, zF, reduceCtorEq, zG, zH, zI, zJ, zK, zL, zM, zN, zO, zP]
        · simp only [widthS, go_sem, ↓reduceIte, zA, zB, zC, zD, zE, zF, reduceCtorEq, zG, zH, zI, zJ, zK, zL, zM, zN, zO, zP, wrap_succ (show i < 9223372036854775807 by omega)]
end Dv
