/- Layer 9's laws: BookStays. -/
import Derived.Test.YtjmceebhnjiikaaDoorD20
import Derived.Test.YtjmceebhnjiikaaDoorL4
set_option linter.unusedVariables false
set_option linter.unusedSimpArgs false
namespace Dv
open Go Go.Proofs
open Nat renaming reduceEqDiff → zA, reduceAdd → zB, reduceSub → zC, reduceMul → zD, reduceLT → zE, reduceLeDiff → zF
open Int renaming reduceLE → zG, reduceLT → zH, reduceToNat → zI, reduceBEq → zJ, reduceBNe → zK, reduceEq → zL, reduceAdd → zM, reduceSub → zN, reduceMul → zO, reduceNeg → zP
attribute [local go_sem] argEnv W_nil W_seq W_skip W_ret W_exit W_scope W_block W_blk W_reg W_regD W_cond WC_t WC_f WC_any Wx_c Wx_ops Wx_lp Wx_blk W_ops_nil W_opsD_q W_guard W_guardD WG_tt WG_ff WG_tf WG_ft WG_u WGD_tt WGD_ff WGD_tf WGD_ft WGD_u WE_some WED_some W_mv W_pick W_new W_box W_build W_bsl W_ld1 W_ldn W_st W_nck W_bin W_eqb W_not W_cvt W_fad W_fld1 W_fldn W_ixa W_ixr W_ix1 W_ixs W_len W_lens W_mkf W_ext W_app W_min W_isnp W_isns W_eqs W_neg W_ixn W_sli W_sls WD_mv WD_pick WD_new WD_box WD_build WD_bsl WD_ld1 WD_ldn WD_st WD_nck WD_bin WD_eqb WD_not WD_cvt WD_fad WD_fld1 WD_fldn WD_ixa WD_ixr WD_ix1 WD_ixs WD_len WD_lens WD_mkf WD_ext WD_app WD_min WD_isnp WD_isns WD_eqs WD_neg WD_ixn WD_sli WD_sls effF Opd.ev getE putE binV LV.int LV.bool LV.undef Go.undef LV.cells LV.toD LV.toDs splice fillL rowsOf srcRows updL objL Eff.owned nwp St.get St.obj St.put Value.oneCell' Ends adopt Ad.ap isNil St.keep St.okKeep okObj idl idlL idlO RVs.of RV.of oneOr Ends0 EndsO_iff frzs rn rnL rnO piOf eqCells eqV boundV Option.map_some Option.map_none List.append_nil List.nil_append List.cons_append List.map_nil List.map_cons List.length_nil List.length_cons List.set_cons_zero List.set_cons_succ List.take_succ_cons List.take_zero List.take_nil List.drop_succ_cons List.drop_zero List.drop_nil List.getElem?_cons_zero List.getElem?_cons_succ List.getElem?_nil List.isEmpty_nil List.isEmpty_cons List.all_cons List.all_nil List.isEmpty_nil cond_true cond_false Bool.true_and Bool.false_and Bool.and_true Bool.and_false Bool.not_true Bool.not_false Bool.or_true Bool.true_or Bool.or_false Bool.false_or true_and and_true true_or or_true Option.some.injEq LV.d.injEq DV.val.injEq Value.bool.injEq Value.int.injEq decide_true decide_false and_self Nat.zero_add Nat.add_zero if_true if_false Int.toNat_zero beq_self_eq_true Nat.zero_lt_succ Int.toNat_natCast Int.natCast_nonneg List.length_map i64 bl List.zip_cons_cons List.zip_nil_left List.zip_nil_right nwp confV stateV nodeV jobV nodesV jobsV opV msgV nodeR jobR opR msgR zeroOp zeroMsg
variable {G : Nat → Option (List DV)}

/-- dunnagelaw09.BookStays -/
def ir6 : Nat × C × List RV := (56,
(.seq (.reg [⟨(some 3), .box 23 (.t 0), none, []⟩,
 ⟨(some 4), .box 27 (.t 1), none, []⟩,
 ⟨(some 6), .mv (.c (.val (.bool false))), none, []⟩])
 (.seq (.seq (.reg [⟨(some 10), .call (.f 14) [], none, []⟩,
 ⟨(some 11), .not (.t 10), none, []⟩])
 (.cond (.t 11) (.seq (.reg [⟨(some 6), .mv (.c (.val (.bool false))), none, []⟩])
 .ret)
 .skip))
 (.seq (.seq (.reg [⟨(some 12), .ldn 6 (.t 4), none, []⟩,
 ⟨(some 13), .call (.f 15) [(.t 12)], none, []⟩,
 ⟨(some 14), .mv (.t 13), none, []⟩,
 ⟨(some 15), .mv (.t 2), (some (14, false)), []⟩,
 ⟨(some 16), .len (.t 15), (some (14, false)), []⟩,
 ⟨(some 17), .bin .gtr (.t 16) (.c (.val (.int .i64 200))), (some (14, false)), []⟩,
 ⟨(some 18), .pick (.t 14) (.c (.val (.bool true))) (.t 17), none, []⟩,
 ⟨(some 19), .mv (.t 18), none, []⟩,
 ⟨(some 20), .ldn 9 (.t 3), (some (19, false)), []⟩,
 ⟨(some 21), .ldn 6 (.t 4), (some (19, false)), []⟩,
 ⟨(some 22), .call (.f 21) [(.t 20), (.t 21)], (some (19, false)), []⟩,
 ⟨(some 23), .not (.t 22), (some (19, false)), []⟩,
 ⟨(some 24), .pick (.t 19) (.c (.val (.bool true))) (.t 23), none, []⟩])
 (.cond (.t 24) (.seq (.reg [⟨(some 6), .mv (.c (.val (.bool true))), none, []⟩])
 .ret)
 .skip))
 (.seq (.seq (.reg [⟨(some 7), .mv (.c (.val (.int .i64 0))), none, []⟩])
 (.block 0 (.loop (.seq (.seq (.reg [⟨(some 25), .mv (.t 7), none, []⟩,
 ⟨(some 26), .mv (.t 2), none, []⟩,
 ⟨(some 27), .len (.t 26), none, []⟩,
 ⟨(some 28), .bin .lss (.t 25) (.t 27), none, []⟩])
 (.cond (.t 28) .skip
 (.exit 0)))
 (.seq (.block 1 (.seq (.regD [⟨(some 32), .ldn 9 (.t 3), none, []⟩,
 ⟨(some 33), .ldn 6 (.t 4), none, []⟩,
 ⟨(some 34), .mv (.t 2), none, []⟩,
 ⟨(some 35), .mv (.t 7), none, []⟩,
 ⟨(some 36), .ixa 7 (.t 34) (.t 35), none, [2, 3]⟩,
 ⟨(some 37), .ldn 7 (.t 36), none, [4, 2, 3]⟩,
 ⟨(some 38), .call (.f 23) [(.t 32), (.t 33), (.t 37)], none, [0, 1, 5, 4, 2, 3]⟩,
 ⟨(some 31), .mv (.t 38), none, [6, 0, 1, 5, 4, 2, 3]⟩,
 ⟨(some 39), .ext (.t 31) 0, none, [7, 6, 0, 1, 5, 4, 2, 3]⟩,
 ⟨(some 40), .ext (.t 31) 1, none, [7, 6, 0, 1, 5, 4, 2, 3]⟩,
 ⟨(some 8), .new 27 [(.val (.slice none 0 0)), (.val (.slice none 0 0)), (.val (.int .i64 0)), (.val (.int .i64 0)), (.val (.int .i64 0)), (.val (.int .i64 0))], none, []⟩,
 ⟨none, .st 6 (.t 8) (.t 39), none, [10, 8, 7, 6, 0, 1, 5, 4, 2, 3]⟩,
 ⟨(some 9), .mv (.t 40), none, [9, 7, 6, 0, 1, 5, 4, 2, 3, 11, 10, 8]⟩])
 (.seq (.seq (.reg [⟨(some 41), .ldn 9 (.t 3), none, []⟩,
 ⟨(some 42), .ldn 6 (.t 8), none, []⟩,
 ⟨(some 43), .call (.f 21) [(.t 41), (.t 42)], none, []⟩,
 ⟨(some 44), .not (.t 43), none, []⟩,
 ⟨(some 45), .mv (.t 44), none, []⟩,
 ⟨(some 46), .mv (.t 9), (some (45, false)), []⟩,
 ⟨(some 47), .bin .neq (.t 46) (.c (.val (.int .i64 0))), (some (45, false)), []⟩,
 ⟨(some 48), .mv (.t 47), (some (45, false)), []⟩,
 ⟨(some 49), .ldn 6 (.t 4), (some (48, true)), []⟩,
 ⟨(some 50), .ldn 6 (.t 8), (some (48, true)), []⟩,
 ⟨(some 51), .call (.f 18) [(.t 49), (.t 50)], (some (48, true)), []⟩,
 ⟨(some 52), .not (.t 51), (some (48, true)), []⟩,
 ⟨(some 53), .pick (.t 48) (.t 52) (.c (.val (.bool false))), (some (45, false)), []⟩,
 ⟨(some 54), .pick (.t 45) (.c (.val (.bool true))) (.t 53), none, []⟩])
 (.cond (.t 54) (.seq (.reg [⟨(some 6), .mv (.c (.val (.bool false))), none, []⟩])
 .ret)
 .skip))
 (.reg [⟨(some 55), .ldn 6 (.t 8), none, []⟩,
 ⟨none, .st 6 (.t 4) (.t 55), none, []⟩]))))
 (.reg [⟨(some 29), .mv (.t 7), none, []⟩,
 ⟨(some 30), .bin .add (.t 29) (.c (.val (.int .i64 1))), none, []⟩,
 ⟨(some 7), .mv (.t 30), none, []⟩]))))))
 (.seq (.reg [⟨(some 6), .mv (.c (.val (.bool true))), none, []⟩])
 .ret))))),
[(.t 6)])
theorem irOk6 : convFn Tryd.prog Tryd.f6 = some ir6 := by kernel_rfl


def opsL4 (l : List OpD) : LV := .d (.lst 7 (l.map opR))
def staysS (c : ConfD) (l : List OpD) (iu : Nat × StateD) : St := ⟨[(2, opsL4 l), (3, .ptr 0 0), (4, .ptr 1 0), (7, .int iu.1)], [some (.box 23 [.int c.nodes, .int c.queues, .int c.quota, .int c.wave, .int c.lease, .int c.retry, .int c.deadline, .int c.room, .int c.disk]), some (.box 27 [nodesV iu.2.nodes, jobsV iu.2.jobs, .int iu.2.goal, .int iu.2.prior, .int iu.2.mode, .int iu.2.term])]⟩
theorem bookStays_tri (c : ConfD) (s : StateD) (l : List OpD) : Tri Tryd.prog bookG 6 [confV c, stateV s, opsL4 l] [] (.bool true) [] := by
  refine tri_W0 Tryd.func6 (by decide) irOk6 (Nat.le_of_ble_eq_true rfl) rfl ?_
  simp only [ir6, opsL4, go_sem, ↓reduceIte, zA, zB, zC, zD, zE, zF, reduceCtorEq, zG, zH, zI, zJ, zK, zL, zM, zN, zO, zP]
  refine W_calld (alive9_tri) rfl rfl rfl rfl ?_; simp only [go_sem, ↓reduceIte, zA, zB, zC, zD, zE, zF, reduceCtorEq, zG, zH, zI, zJ, zK, zL, zM, zN, zO, zP]
  refine W_calld (great_tri s) rfl rfl rfl rfl ?_; simp only [go_sem, ↓reduceIte, zA, zB, zC, zD, zE, zF, reduceCtorEq, zG, zH, zI, zJ, zK, zL, zM, zN, zO, zP]
  cases hg : greatB s with
  | true => simp only [go_sem, ↓reduceIte, zA, zB, zC, zD, zE, zF, reduceCtorEq, zG, zH, zI, zJ, zK, zL, zM, zN, zO, zP]
  | false =>
  have hgr := great_not hg
  simp only [go_sem, ↓reduceIte, zA, zB, zC, zD, zE, zF, reduceCtorEq, zG, zH, zI, zJ, zK, zL, zM, zN, zO, zP]
  cases hl : decide ((l.length : Int) > 200) with
  | true => simp only [go_sem, ↓reduceIte, zA, zB, zC, zD, zE, zF, reduceCtorEq, zG, zH, zI, zJ, zK, zL, zM, zN, zO, zP]
  | false =>
  have hl2 : l.length ≤ 200 := by have := of_decide_eq_false hl; omega
  simp only [go_sem, ↓reduceIte, zA, zB, zC, zD, zE, zF, reduceCtorEq, zG, zH, zI, zJ, zK, zL, zM, zN, zO, zP]
  refine W_calld (right_tri c s) rfl rfl rfl rfl ?_; simp only [go_sem, ↓reduceIte, zA, zB, zC, zD, zE, zF, reduceCtorEq, zG, zH, zI, zJ, zK, zL, zM, zN, zO, zP]
  cases hr : rightB c s with
  | false => simp only [go_sem, ↓reduceIte, zA, zB, zC, zD, zE, zF, reduceCtorEq, zG, zH, zI, zJ, zK, zL, zM, zN, zO, zP]
  | true =>
  have hp := (right_iff c s).1 hr
  simp only [go_sem, ↓reduceIte, zA, zB, zC, zD, zE, zF, reduceCtorEq, zG, zH, zI, zJ, zK, zL, zM, zN, zO, zP]
  refine W_loopI [2, 3, 4, 7] [] (fun iu : Nat × StateD => iu.1 ≤ l.length ∧ RightP c iu.2) (fun iu => l.length - iu.1) (staysS c l) (0, s) ?_ ⟨Nat.zero_le _, hp⟩ ?_
  · simp only [staysS, opsL4, go_sem, ↓reduceIte, zA, zB, zC, zD, zE, zF, reduceCtorEq, zG, zH, zI, zJ, zK, zL, zM, zN, zO, zP, Int.natCast_zero]
  rintro ⟨i, u⟩ ⟨hi, hu⟩
  dsimp only at hi hu
  simp only [staysS, opsL4, go_sem, ↓reduceIte, zA, zB, zC, zD, zE, zF, reduceCtorEq, zG, zH, zI, zJ, zK, zL, zM, zN, zO, zP]
  refine WC_split (fun h => ?_) (fun h => ?_)
  · have h := lt_of_dec h
    have hgo := get_mapD (f := opR) zeroOp h
    generalize l.getD i zeroOp = o at *
    have hq := apply_right hu o
    have hqr := (right_iff c _).2 hq
    have hst := (apply_step hu o).2
    have hun := hu.len
    have huj := hu.jobs
    simp only [hgo, go_sem, ↓reduceIte, zA, zB, zC, zD, zE, zF, reduceCtorEq, zG, zH, zI, zJ, zK, zL, zM, zN, zO, zP]
    refine WD_calld (apply_tri c u o) rfl rfl rfl rfl ?_; simp only [go_sem, ↓reduceIte, zA, zB, zC, zD, zE, zF, reduceCtorEq, zG, zH, zI, zJ, zK, zL, zM, zN, zO, zP]
    refine W_opsD_end rfl ?_
    generalize applyD c u o = p at *
    simp only [go_sem, ↓reduceIte, zA, zB, zC, zD, zE, zF, reduceCtorEq, zG, zH, zI, zJ, zK, zL, zM, zN, zO, zP]
    refine W_calld (right_tri c p.1) rfl rfl rfl rfl ?_; simp only [go_sem, ↓reduceIte, zA, zB, zC, zD, zE, zF, reduceCtorEq, zG, zH, zI, zJ, zK, zL, zM, zN, zO, zP]
    simp only [hqr, go_sem, ↓reduceIte, zA, zB, zC, zD, zE, zF, reduceCtorEq, zG, zH, zI, zJ, zK, zL, zM, zN, zO, zP]
    cases he : (p.2 != 0) with
    | true =>
      have hpu : p.1 = u := hst (by simpa using he)
      simp only [he, go_sem, ↓reduceIte, zA, zB, zC, zD, zE, zF, reduceCtorEq, zG, zH, zI, zJ, zK, zL, zM, zN, zO, zP]
      refine W_calld (same9_tri u p.1 (by omega) (by omega)) rfl rfl rfl rfl ?_; simp only [go_sem, ↓reduceIte, zA, zB, zC, zD, zE, zF, reduceCtorEq, zG, zH, zI, zJ, zK, zL, zM, zN, zO, zP]
      simp only [hpu, go_sem, ↓reduceIte, zA, zB, zC, zD, zE, zF, reduceCtorEq, zG, zH, zI, zJ, zK, zL, zM, zN, zO, zP]
      refine W_lpI (i + 1, u) ?_ ?_ ⟨by dsimp only; omega, hu⟩ (by dsimp only; omega)
      · simp only [go_sem, ↓reduceIte, zA, zB, zC, zD, zE, zF, reduceCtorEq, zG, zH, zI, zJ, zK, zL, zM, zN, zO, zP]
      · simp only [staysS, opsL4, go_sem, ↓reduceIte, zA, zB, zC, zD, zE, zF, reduceCtorEq, zG, zH, zI, zJ, zK, zL, zM, zN, zO, zP, wrap_succ (show i < 9223372036854775807 by omega)]
    | false =>
      simp only [he, go_sem, ↓reduceIte, zA, zB, zC, zD, zE, zF, reduceCtorEq, zG, zH, zI, zJ, zK, zL, zM, zN, zO, zP]
      refine W_lpI (i + 1, p.1) ?_ ?_ ⟨by dsimp only; omega, hq⟩ (by dsimp only; omega)
      · simp only [go_sem, ↓reduceIte, zA, zB, zC, zD, zE, zF, reduceCtorEq, zG, zH, zI, zJ, zK, zL, zM, zN, zO, zP]
      · simp only [staysS, opsL4, go_sem, ↓reduceIte, zA, zB, zC, zD, zE, zF, reduceCtorEq, zG, zH, zI, zJ, zK, zL, zM, zN, zO, zP, wrap_succ (show i < 9223372036854775807 by omega)]
  · simp only [go_sem, ↓reduceIte, zA, zB, zC, zD, zE, zF, reduceCtorEq, zG, zH, zI, zJ, zK, zL, zM, zN, zO, zP]
end Dv
