/- The image's statement: two states' bytes. -/
import Derived.Test.YtbhdfmgphcelhaaDoorI15
import Derived.Test.YtbhdfmgphcelhaaDoorL2
import Derived.Test.YtbhdfmgphcelhaaDoorL3
import Derived.Test.YtbhdfmgphcelhaaDoorDA
set_option linter.unusedVariables false
set_option linter.unusedSimpArgs false
namespace Dv
open Go Go.Proofs
open Nat renaming reduceEqDiff → zA, reduceAdd → zB, reduceSub → zC, reduceMul → zD, reduceLT → zE, reduceLeDiff → zF
open Int renaming reduceLE → zG, reduceLT → zH, reduceToNat → zI, reduceBEq → zJ, reduceBNe → zK, reduceEq → zL, reduceAdd → zM, reduceSub → zN, reduceMul → zO, reduceNeg → zP
attribute [local go_sem] argEnv W_nil W_seq W_skip W_ret W_exit W_scope W_block W_blk W_reg W_regD W_cond WC_t WC_f WC_any Wx_c Wx_ops Wx_lp Wx_blk W_ops_nil W_opsD_q W_guard W_guardD WG_tt WG_ff WG_tf WG_ft WG_u WGD_tt WGD_ff WGD_tf WGD_ft WGD_u WE_some WED_some W_mv W_pick W_new W_box W_build W_bsl W_ld1 W_ldn W_st W_nck W_bin W_eqb W_not W_cvt W_fad W_fld1 W_fldn W_ixa W_ixr W_ix1 W_ixs W_len W_lens W_mkf W_ext W_app W_min W_isnp W_isns W_eqs W_neg W_ixn W_sli W_sls WD_mv WD_pick WD_new WD_box WD_build WD_bsl WD_ld1 WD_ldn WD_st WD_nck WD_bin WD_eqb WD_not WD_cvt WD_fad WD_fld1 WD_fldn WD_ixa WD_ixr WD_ix1 WD_ixs WD_len WD_lens WD_mkf WD_ext WD_app WD_min WD_isnp WD_isns WD_eqs WD_neg WD_ixn WD_sli WD_sls effF Opd.ev getE putE binV LV.int LV.bool LV.undef Go.undef LV.cells LV.toD LV.toDs splice fillL rowsOf srcRows updL objL Eff.owned nwp St.get St.obj St.put Value.oneCell' Ends adopt Ad.ap isNil St.keep St.okKeep okObj idl idlL idlO RVs.of RV.of oneOr Ends0 EndsO_iff frzs rn rnL rnO piOf eqCells eqV boundV Option.map_some Option.map_none List.append_nil List.nil_append List.cons_append List.map_nil List.map_cons List.length_nil List.length_cons List.set_cons_zero List.set_cons_succ List.take_succ_cons List.take_zero List.take_nil List.drop_succ_cons List.drop_zero List.drop_nil List.getElem?_cons_zero List.getElem?_cons_succ List.getElem?_nil List.isEmpty_nil List.isEmpty_cons List.all_cons List.all_nil List.isEmpty_nil cond_true cond_false Bool.true_and Bool.false_and Bool.and_true Bool.and_false Bool.not_true Bool.not_false Bool.or_true Bool.true_or Bool.or_false Bool.false_or true_and and_true true_or or_true Option.some.injEq LV.d.injEq DV.val.injEq Value.bool.injEq Value.int.injEq decide_true decide_false and_self Nat.zero_add Nat.add_zero if_true if_false Int.toNat_zero beq_self_eq_true Nat.zero_lt_succ Int.toNat_natCast Int.natCast_nonneg List.length_map i64 bl List.zip_cons_cons List.zip_nil_left List.zip_nil_right nwp confV stateV nodeV jobV nodesV jobsV opV msgV nodeR jobR opR msgR zeroOp zeroMsg msgsV
variable {G : Nat → Option (List DV)}

/-- dunnagelaw10.ImageTwo -/
def ir3 : Nat × C × List RV := (58,
(.seq (.reg [⟨(some 3), .box 23 (.t 0), none, []⟩,
 ⟨(some 4), .box 27 (.t 1), none, []⟩,
 ⟨(some 6), .mv (.c (.val (.bool false))), none, []⟩])
 (.seq (.seq (.reg [⟨(some 9), .call (.f 4) [], none, []⟩,
 ⟨(some 10), .not (.t 9), none, []⟩])
 (.cond (.t 10) (.seq (.reg [⟨(some 6), .mv (.c (.val (.bool false))), none, []⟩])
 .ret)
 .skip))
 (.seq (.seq (.reg [⟨(some 11), .fad 0 (.t 4), none, []⟩,
 ⟨(some 12), .ld1 (.t 11), none, []⟩,
 ⟨(some 13), .len (.t 12), none, []⟩,
 ⟨(some 14), .bin .gtr (.t 13) (.c (.val (.int .i64 50))), none, []⟩,
 ⟨(some 15), .mv (.t 14), none, []⟩,
 ⟨(some 16), .fad 1 (.t 4), (some (15, false)), []⟩,
 ⟨(some 17), .ld1 (.t 16), (some (15, false)), []⟩,
 ⟨(some 18), .len (.t 17), (some (15, false)), []⟩,
 ⟨(some 19), .bin .gtr (.t 18) (.c (.val (.int .i64 100))), (some (15, false)), []⟩,
 ⟨(some 20), .pick (.t 15) (.c (.val (.bool true))) (.t 19), none, []⟩,
 ⟨(some 21), .mv (.t 20), none, []⟩,
 ⟨(some 22), .mv (.t 2), (some (21, false)), []⟩,
 ⟨(some 23), .len (.t 22), (some (21, false)), []⟩,
 ⟨(some 24), .bin .gtr (.t 23) (.c (.val (.int .i64 50))), (some (21, false)), []⟩,
 ⟨(some 25), .pick (.t 21) (.c (.val (.bool true))) (.t 24), none, []⟩,
 ⟨(some 26), .mv (.t 25), none, []⟩,
 ⟨(some 27), .ldn 9 (.t 3), (some (26, false)), []⟩,
 ⟨(some 28), .ldn 6 (.t 4), (some (26, false)), []⟩,
 ⟨(some 29), .call (.f 5) [(.t 27), (.t 28)], (some (26, false)), []⟩,
 ⟨(some 30), .not (.t 29), (some (26, false)), []⟩,
 ⟨(some 31), .pick (.t 26) (.c (.val (.bool true))) (.t 30), none, []⟩])
 (.cond (.t 31) (.seq (.reg [⟨(some 6), .mv (.c (.val (.bool true))), none, []⟩])
 .ret)
 .skip))
 (.seq (.reg [⟨(some 32), .ldn 6 (.t 4), none, []⟩,
 ⟨(some 7), .new 27 [(.val (.slice none 0 0)), (.val (.slice none 0 0)), (.val (.int .i64 0)), (.val (.int .i64 0)), (.val (.int .i64 0)), (.val (.int .i64 0))], none, []⟩,
 ⟨none, .st 6 (.t 7) (.t 32), none, []⟩])
 (.seq (.seq (.reg [⟨(some 8), .mv (.c (.val (.int .i64 0))), none, []⟩])
 (.block 0 (.loop (.seq (.seq (.reg [⟨(some 33), .mv (.t 8), none, []⟩,
 ⟨(some 34), .mv (.t 2), none, []⟩,
 ⟨(some 35), .len (.t 34), none, []⟩,
 ⟨(some 36), .bin .lss (.t 33) (.t 35), none, []⟩])
 (.cond (.t 36) .skip
 (.exit 0)))
 (.seq (.block 1 (.regD [⟨(some 40), .ldn 9 (.t 3), none, []⟩,
 ⟨(some 41), .ldn 6 (.t 7), none, []⟩,
 ⟨(some 42), .mv (.t 2), none, []⟩,
 ⟨(some 43), .mv (.t 8), none, []⟩,
 ⟨(some 44), .ixa 7 (.t 42) (.t 43), none, [2, 3]⟩,
 ⟨(some 45), .ldn 7 (.t 44), none, [4, 2, 3]⟩,
 ⟨(some 46), .call (.f 6) [(.t 40), (.t 41), (.t 45)], none, [0, 1, 5, 4, 2, 3]⟩,
 ⟨(some 39), .mv (.t 46), none, [6, 0, 1, 5, 4, 2, 3]⟩,
 ⟨(some 47), .ext (.t 39) 0, none, [7, 6, 0, 1, 5, 4, 2, 3]⟩,
 ⟨(some 48), .ext (.t 39) 1, none, [7, 6, 0, 1, 5, 4, 2, 3]⟩,
 ⟨none, .st 6 (.t 7) (.t 47), none, [8, 7, 6, 0, 1, 5, 4, 2, 3]⟩]))
 (.reg [⟨(some 37), .mv (.t 8), none, []⟩,
 ⟨(some 38), .bin .add (.t 37) (.c (.val (.int .i64 1))), none, []⟩,
 ⟨(some 8), .mv (.t 38), none, []⟩]))))))
 (.seq (.regD [⟨(some 49), .ldn 6 (.t 4), none, []⟩,
 ⟨(some 50), .call (.f 8) [(.t 49)], none, [0]⟩,
 ⟨(some 51), .ldn 6 (.t 7), none, []⟩,
 ⟨(some 52), .call (.f 8) [(.t 51)], none, [2, 1, 0]⟩,
 ⟨(some 53), .call (.f 7) [(.t 50), (.t 52)], none, [1, 0, 3, 2]⟩,
 ⟨(some 54), .ldn 6 (.t 4), none, []⟩,
 ⟨(some 55), .ldn 6 (.t 7), none, []⟩,
 ⟨(some 56), .call (.f 9) [(.t 54), (.t 55)], none, [5, 6, 4, 1, 0, 3, 2]⟩,
 ⟨(some 57), .eqb false (.t 53) (.t 56), none, [4, 1, 0, 3, 2, 7, 5, 6]⟩,
 ⟨(some 6), .mv (.t 57), none, [8, 4, 1, 0, 3, 2, 7, 5, 6]⟩])
 .ret)))))),
[(.t 6)])
theorem irOk3 : convFn Tryd.prog Tryd.f3 = some ir3 := by kernel_rfl

attribute [local go_sem] bytesV

theorem put_same {c : ConfD} {s t : StateD} (hs : rightB c s = true) (ht : rightB c t = true) : decide (putI s = putI t) = decide (s = t) := by
  rw [Bool.eq_iff_iff]
  simp only [decide_eq_true_eq]
  refine ⟨fun h => ?_, fun h => by rw [h]⟩
  obtain ⟨⟨n1, j1⟩, a1, _⟩ := right_bytes hs
  obtain ⟨⟨n2, j2⟩, a2, _⟩ := right_bytes ht
  have h1 := getI_of n1 j1 a1 hs
  have h2 := getI_of n2 j2 a2 ht
  rw [h, h2] at h1
  exact (Option.some.inj h1).symm
def opsL10 (l : List OpD) : LV := .d (.lst 7 (l.map opR))
def twoS (c : ConfD) (s : StateD) (l : List OpD) (iu : Nat × StateD) : St := ⟨[(2, opsL10 l), (3, .ptr 0 0), (4, .ptr 1 0), (7, .ptr 2 0), (8, .int iu.1)], [some (.box 23 [.int c.nodes, .int c.queues, .int c.quota, .int c.wave, .int c.lease, .int c.retry, .int c.deadline, .int c.room, .int c.disk]), some (.box 27 [nodesV s.nodes, jobsV s.jobs, .int s.goal, .int s.prior, .int s.mode, .int s.term]), some (.box 27 [nodesV iu.2.nodes, jobsV iu.2.jobs, .int iu.2.goal, .int iu.2.prior, .int iu.2.mode, .int iu.2.term])]⟩
set_option maxHeartbeats 2000000 in
theorem two_tri (c : ConfD) (s : StateD) (l : List OpD) : Tri Tryd.prog bookG 3 [confV c, stateV s, opsL10 l] [] (.bool true) [] := by
  refine tri_W0 Tryd.func3 (by decide) irOk3 (Nat.le_of_ble_eq_true rfl) rfl ?_
  simp only [ir3, opsL10, go_sem, ↓reduceIte, zA, zB, zC, zD, zE, zF, reduceCtorEq, zG, zH, zI, zJ, zK, zL, zM, zN, zO, zP]
  refine W_calld (alive_tri) rfl rfl rfl rfl ?_; simp only [go_sem, ↓reduceIte, zA, zB, zC, zD, zE, zF, reduceCtorEq, zG, zH, zI, zJ, zK, zL, zM, zN, zO, zP]
  by_cases h1 : s.nodes.length ≤ 50
  case neg => simp only [decide_eq_true (show ((s.nodes.length : Nat) : Int) > 50 by omega), go_sem, ↓reduceIte, zA, zB, zC, zD, zE, zF, reduceCtorEq, zG, zH, zI, zJ, zK, zL, zM, zN, zO, zP]
  by_cases h2 : s.jobs.length ≤ 100
  case neg => simp only [decide_eq_false (show ¬ ((s.nodes.length : Nat) : Int) > 50 by omega), decide_eq_true (show ((s.jobs.length : Nat) : Int) > 100 by omega), go_sem, ↓reduceIte, zA, zB, zC, zD, zE, zF, reduceCtorEq, zG, zH, zI, zJ, zK, zL, zM, zN, zO, zP]
  by_cases h3 : l.length ≤ 50
  case neg => simp only [decide_eq_false (show ¬ ((s.nodes.length : Nat) : Int) > 50 by omega), decide_eq_false (show ¬ ((s.jobs.length : Nat) : Int) > 100 by omega), decide_eq_true (show ((l.length : Nat) : Int) > 50 by omega), go_sem, ↓reduceIte, zA, zB, zC, zD, zE, zF, reduceCtorEq, zG, zH, zI, zJ, zK, zL, zM, zN, zO, zP]
  simp only [decide_eq_false (show ¬ ((s.nodes.length : Nat) : Int) > 50 by omega), decide_eq_false (show ¬ ((s.jobs.length : Nat) : Int) > 100 by omega), decide_eq_false (show ¬ ((l.length : Nat) : Int) > 50 by omega), go_sem, ↓reduceIte, zA, zB, zC, zD, zE, zF, reduceCtorEq, zG, zH, zI, zJ, zK, zL, zM, zN, zO, zP]
  refine W_calld (right_tri c s) rfl rfl rfl rfl ?_; simp only [go_sem, ↓reduceIte, zA, zB, zC, zD, zE, zF, reduceCtorEq, zG, zH, zI, zJ, zK, zL, zM, zN, zO, zP]
  cases hr : rightB c s with
  | false => simp only [go_sem, ↓reduceIte, zA, zB, zC, zD, zE, zF, reduceCtorEq, zG, zH, zI, zJ, zK, zL, zM, zN, zO, zP]
  | true =>
  have hp := (right_iff c s).1 hr
  simp only [go_sem, ↓reduceIte, zA, zB, zC, zD, zE, zF, reduceCtorEq, zG, zH, zI, zJ, zK, zL, zM, zN, zO, zP]
  refine W_loopI [2, 3, 4, 7, 8] [] (fun iu : Nat × StateD => iu.1 ≤ l.length ∧ RightP c iu.2) (fun iu => l.length - iu.1) (twoS c s l) (0, s) ?_ ⟨Nat.zero_le _, hp⟩ ?_
  · simp only [twoS, opsL10, Int.natCast_zero, go_sem, ↓reduceIte, zA, zB, zC, zD, zE, zF, reduceCtorEq, zG, zH, zI, zJ, zK, zL, zM, zN, zO, zP]
  rintro ⟨i, u⟩ ⟨hi, hu⟩
  dsimp only at hi hu
  simp only [twoS, opsL10, go_sem, ↓reduceIte, zA, zB, zC, zD, zE, zF, reduceCtorEq, zG, zH, zI, zJ, zK, zL, zM, zN, zO, zP]
  cases hlt : decide ((i : Int) < (l.length : Int)) with
  | true =>
    have h := lt_of_dec hlt
    have hgo := get_mapD (f := opR) zeroOp h
    generalize l.getD i zeroOp = o at *
    have hq := apply_right hu o
    simp only [hgo, go_sem, ↓reduceIte, zA, zB, zC, zD, zE, zF, reduceCtorEq, zG, zH, zI, zJ, zK, zL, zM, zN, zO, zP]
    refine WD_calld (apply_tri c u o) rfl rfl rfl rfl ?_; simp only [go_sem, ↓reduceIte, zA, zB, zC, zD, zE, zF, reduceCtorEq, zG, zH, zI, zJ, zK, zL, zM, zN, zO, zP]
    generalize applyD c u o = p at *
    refine W_opsD_end (by decide) ?_
    simp only [go_sem, ↓reduceIte, zA, zB, zC, zD, zE, zF, reduceCtorEq, zG, zH, zI, zJ, zK, zL, zM, zN, zO, zP]
    refine W_lpI (i + 1, p.1) ?_ ?_ ⟨by dsimp only; omega, hq⟩ (by dsimp only; omega)
    · simp only [go_sem, ↓reduceIte, zA, zB, zC, zD, zE, zF, reduceCtorEq, zG, zH, zI, zJ, zK, zL, zM, zN, zO, zP]
    · simp only [twoS, opsL10, wrap_succ (show i < 9223372036854775807 by omega), go_sem, ↓reduceIte, zA, zB, zC, zD, zE, zF, reduceCtorEq, zG, zH, zI, zJ, zK, zL, zM, zN, zO, zP]
  | false =>
  have hur := (right_iff c u).2 hu
  have hul := hu.len
  have huj := hu.jobs
  have hsame := put_same hr hur
  simp only [go_sem, ↓reduceIte, zA, zB, zC, zD, zE, zF, reduceCtorEq, zG, zH, zI, zJ, zK, zL, zM, zN, zO, zP]
  refine WD_calld (put_tri s (by omega) (by omega)) rfl rfl rfl rfl ?_; simp only [go_sem, ↓reduceIte, zA, zB, zC, zD, zE, zF, reduceCtorEq, zG, zH, zI, zJ, zK, zL, zM, zN, zO, zP]
  refine WD_calld (put_tri u (by omega) (by omega)) rfl rfl rfl rfl ?_; simp only [go_sem, ↓reduceIte, zA, zB, zC, zD, zE, zF, reduceCtorEq, zG, zH, zI, zJ, zK, zL, zM, zN, zO, zP]
  have hpl := (right_bytes hr).2.2.2
  refine WD_calld (bytes_tri (putI s) (putI u) (by omega)) rfl rfl rfl rfl ?_; simp only [go_sem, ↓reduceIte, zA, zB, zC, zD, zE, zF, reduceCtorEq, zG, zH, zI, zJ, zK, zL, zM, zN, zO, zP]
  refine WD_calld (same9_tri s u (by omega) (by omega)) rfl rfl rfl rfl ?_; simp only [go_sem, ↓reduceIte, zA, zB, zC, zD, zE, zF, reduceCtorEq, zG, zH, zI, zJ, zK, zL, zM, zN, zO, zP]
  rw [hsame]; exact beq_self_eq_true _
end Dv
