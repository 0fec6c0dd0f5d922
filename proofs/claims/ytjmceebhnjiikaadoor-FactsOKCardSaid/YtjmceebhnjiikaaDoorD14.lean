/- The book's Apply: what it computes. -/
import Derived.Test.YtjmceebhnjiikaaDoorD13
set_option linter.unusedVariables false
set_option linter.unusedSimpArgs false
namespace Dv
open Go Go.Proofs
open Nat renaming reduceEqDiff → zA, reduceAdd → zB, reduceSub → zC, reduceMul → zD, reduceLT → zE, reduceLeDiff → zF
open Int renaming reduceLE → zG, reduceLT → zH, reduceToNat → zI, reduceBEq → zJ, reduceBNe → zK, reduceEq → zL, reduceAdd → zM, reduceSub → zN, reduceMul → zO, reduceNeg → zP
attribute [local go_sem] argEnv W_nil W_seq W_skip W_ret W_exit W_scope W_block W_blk W_reg W_regD W_cond WC_t WC_f WC_any Wx_c Wx_ops Wx_lp Wx_blk W_ops_nil W_opsD_q W_guard W_guardD WG_tt WG_ff WG_tf WG_ft WG_u WGD_tt WGD_ff WGD_tf WGD_ft WGD_u WE_some WED_some W_mv W_pick W_new W_box W_build W_bsl W_ld1 W_ldn W_st W_nck W_bin W_eqb W_not W_cvt W_fad W_fld1 W_fldn W_ixa W_ixr W_ix1 W_ixs W_len W_lens W_mkf W_ext W_app W_min W_isnp W_isns W_eqs W_neg W_ixn W_sli W_sls WD_mv WD_pick WD_new WD_box WD_build WD_bsl WD_ld1 WD_ldn WD_st WD_nck WD_bin WD_eqb WD_not WD_cvt WD_fad WD_fld1 WD_fldn WD_ixa WD_ixr WD_ix1 WD_ixs WD_len WD_lens WD_mkf WD_ext WD_app WD_min WD_isnp WD_isns WD_eqs WD_neg WD_ixn WD_sli WD_sls effF Opd.ev getE putE binV LV.int LV.bool LV.undef Go.undef LV.cells LV.toD LV.toDs splice fillL rowsOf srcRows updL objL Eff.owned nwp St.get St.obj St.put Value.oneCell' Ends adopt Ad.ap isNil St.keep St.okKeep okObj idl idlL idlO RVs.of RV.of oneOr Ends0 EndsO_iff frzs rn rnL rnO piOf eqCells eqV boundV Option.map_some Option.map_none List.append_nil List.nil_append List.cons_append List.map_nil List.map_cons List.length_nil List.length_cons List.set_cons_zero List.set_cons_succ List.take_succ_cons List.take_zero List.take_nil List.drop_succ_cons List.drop_zero List.drop_nil List.getElem?_cons_zero List.getElem?_cons_succ List.getElem?_nil List.isEmpty_nil List.isEmpty_cons List.all_cons List.all_nil List.isEmpty_nil cond_true cond_false Bool.true_and Bool.false_and Bool.and_true Bool.and_false Bool.not_true Bool.not_false Bool.or_true Bool.true_or Bool.or_false Bool.false_or true_and and_true true_or or_true Option.some.injEq LV.d.injEq DV.val.injEq Value.bool.injEq Value.int.injEq decide_true decide_false and_self Nat.zero_add Nat.add_zero if_true if_false Int.toNat_zero beq_self_eq_true Nat.zero_lt_succ Int.toNat_natCast Int.natCast_nonneg List.length_map i64 bl List.zip_cons_cons List.zip_nil_left List.zip_nil_right nwp confV stateV nodeV jobV nodesV jobsV opV msgV nodeR jobR opR msgR zeroOp zeroMsg msgsV
variable {G : Nat → Option (List DV)}

/-- book.Apply -/
def ir23 : Nat × C × List RV := (96,
(.seq (.reg [⟨(some 3), .box 23 (.t 0), none, []⟩,
 ⟨(some 4), .box 27 (.t 1), none, []⟩,
 ⟨(some 5), .box 35 (.t 2), none, []⟩,
 ⟨(some 6), .new 27 [(.val (.slice none 0 0)), (.val (.slice none 0 0)), (.val (.int .i64 0)), (.val (.int .i64 0)), (.val (.int .i64 0)), (.val (.int .i64 0))], none, []⟩,
 ⟨(some 7), .mv (.c (.val (.int .i64 0))), none, []⟩])
 (.seq (.seq (.reg [⟨(some 11), .ldn 9 (.t 3), none, []⟩,
 ⟨(some 12), .ldn 6 (.t 4), none, []⟩,
 ⟨(some 13), .call (.f 21) [(.t 11), (.t 12)], none, []⟩,
 ⟨(some 14), .not (.t 13), none, []⟩])
 (.cond (.t 14) (.seq (.reg [⟨(some 15), .build [(.val (.slice none 0 0)), (.val (.slice none 0 0)), (.val (.int .i64 0)), (.val (.int .i64 0)), (.val (.int .i64 0)), (.val (.int .i64 0))] [], none, []⟩,
 ⟨none, .st 6 (.t 6) (.t 15), none, []⟩,
 ⟨(some 7), .mv (.c (.val (.int .i64 1))), none, []⟩])
 .ret)
 .skip))
 (.seq (.seq (.reg [⟨(some 16), .ldn 7 (.t 5), none, []⟩,
 ⟨(some 17), .call (.f 47) [(.t 16)], none, []⟩,
 ⟨(some 18), .not (.t 17), none, []⟩])
 (.cond (.t 18) (.seq (.reg [⟨(some 19), .ldn 6 (.t 4), none, []⟩,
 ⟨(some 20), .call (.f 29) [(.t 19)], none, []⟩,
 ⟨none, .st 6 (.t 6) (.t 20), none, []⟩,
 ⟨(some 7), .mv (.c (.val (.int .i64 1))), none, []⟩])
 .ret)
 .skip))
 (.seq (.regD [⟨(some 21), .ldn 9 (.t 3), none, []⟩,
 ⟨(some 22), .ldn 6 (.t 4), none, []⟩,
 ⟨(some 23), .call (.f 29) [(.t 22)], none, [1]⟩,
 ⟨(some 24), .ldn 7 (.t 5), none, []⟩,
 ⟨(some 25), .build [(.val (.int .i64 0)), (.val (.int .i64 0)), (.val (.int .i64 0)), (.val (.int .i64 0)), (.val (.int .i64 0)), (.val (.int .i64 0)), (.val (.int .i64 0)), (.val (.int .i64 0)), (.val (.int .i64 0)), (.val (.slice none 0 0)), (.val (.slice none 0 0)), (.val (.int .i64 0)), (.val (.int .i64 0)), (.val (.int .i64 0)), (.val (.int .i64 0)), (.val (.int .i64 0)), (.val (.int .i64 0)), (.val (.int .i64 0)), (.val (.int .i64 0)), (.val (.int .i64 0)), (.val (.int .i64 0)), (.val (.int .i64 0)), (.val (.pointer none)), (.val (.pointer none))] [(0, 9, (.t 21)), (9, 6, (.t 23)), (15, 7, (.t 24))], none, [0, 2, 1, 3]⟩,
 ⟨(some 26), .box 73 (.t 25), none, [4, 0, 2, 1, 3]⟩,
 ⟨(some 8), .mv (.t 26), none, [5, 4, 0, 2, 1, 3]⟩])
 (.seq (.regD [⟨(some 27), .call (.f 48) [], none, []⟩,
 ⟨(some 28), .fad 0 (.t 5), none, []⟩,
 ⟨(some 29), .ld1 (.t 28), none, [1]⟩,
 ⟨(some 30), .ixn 22 3 (.t 27) (.t 29), none, [0, 2, 1]⟩,
 ⟨(some 9), .new 76 [(.val .nilFunc), (.val (.bool false)), (.val (.bool false))], none, []⟩,
 ⟨none, .st 3 (.t 9) (.t 30), none, [4, 3, 0, 2, 1]⟩])
 (.seq (.seq (.reg [⟨(some 31), .fad 1 (.t 9), none, []⟩,
 ⟨(some 32), .ld1 (.t 31), none, []⟩])
 (.cond (.t 32) (.seq (.seq (.reg [⟨(some 33), .fad 1 (.t 5), none, []⟩,
 ⟨(some 34), .ld1 (.t 33), none, []⟩,
 ⟨(some 35), .bin .lss (.t 34) (.c (.val (.int .i64 1))), none, []⟩,
 ⟨(some 36), .mv (.t 35), none, []⟩,
 ⟨(some 37), .fad 1 (.t 5), (some (36, false)), []⟩,
 ⟨(some 38), .ld1 (.t 37), (some (36, false)), []⟩,
 ⟨(some 39), .fad 1 (.t 4), (some (36, false)), []⟩,
 ⟨(some 40), .ld1 (.t 39), (some (36, false)), []⟩,
 ⟨(some 41), .len (.t 40), (some (36, false)), []⟩,
 ⟨(some 42), .bin .gtr (.t 38) (.t 41), (some (36, false)), []⟩,
 ⟨(some 43), .pick (.t 36) (.c (.val (.bool true))) (.t 42), none, []⟩])
 (.cond (.t 43) (.seq (.reg [⟨(some 44), .mv (.t 8), none, []⟩,
 ⟨(some 45), .nck (.t 44), none, []⟩,
 ⟨(some 46), .fad 9 (.t 45), none, []⟩,
 ⟨(some 47), .ldn 6 (.t 46), none, []⟩,
 ⟨none, .st 6 (.t 6) (.t 47), none, []⟩,
 ⟨(some 7), .mv (.c (.val (.int .i64 4))), none, []⟩])
 .ret)
 .skip))
 (.regD [⟨(some 48), .mv (.t 8), none, []⟩,
 ⟨(some 49), .mv (.t 8), none, []⟩,
 ⟨(some 50), .nck (.t 49), none, [1]⟩,
 ⟨(some 51), .fad 9 (.t 50), none, [2, 1]⟩,
 ⟨(some 52), .fad 1 (.t 51), none, [3, 2, 1]⟩,
 ⟨(some 53), .ld1 (.t 52), none, [4, 3, 2, 1]⟩,
 ⟨(some 54), .fad 1 (.t 5), none, []⟩,
 ⟨(some 55), .ld1 (.t 54), none, [6]⟩,
 ⟨(some 56), .bin .sub (.t 55) (.c (.val (.int .i64 1))), none, [7, 6]⟩,
 ⟨(some 57), .ixa 12 (.t 53) (.t 56), none, [5, 4, 3, 2, 1, 8, 7, 6]⟩,
 ⟨(some 58), .nck (.t 48), none, [0, 1, 2, 3, 4, 5, 6, 7, 8, 9]⟩,
 ⟨(some 59), .fad 22 (.t 58), none, [10, 0, 1, 2, 3, 4, 5, 6, 7, 8, 9]⟩,
 ⟨none, .st 1 (.t 59) (.t 57), none, [11, 10, 0, 1, 2, 3, 4, 5, 6, 7, 8, 9]⟩]))
 .skip))
 (.seq (.seq (.reg [⟨(some 60), .fad 2 (.t 9), none, []⟩,
 ⟨(some 61), .ld1 (.t 60), none, []⟩])
 (.cond (.t 61) (.seq (.seq (.reg [⟨(some 62), .fad 1 (.t 5), none, []⟩,
 ⟨(some 63), .ld1 (.t 62), none, []⟩,
 ⟨(some 64), .fad 0 (.t 4), none, []⟩,
 ⟨(some 65), .ld1 (.t 64), none, []⟩,
 ⟨(some 66), .len (.t 65), none, []⟩,
 ⟨(some 67), .bin .geq (.t 63) (.t 66), none, []⟩])
 (.cond (.t 67) (.seq (.reg [⟨(some 68), .mv (.t 8), none, []⟩,
 ⟨(some 69), .nck (.t 68), none, []⟩,
 ⟨(some 70), .fad 9 (.t 69), none, []⟩,
 ⟨(some 71), .ldn 6 (.t 70), none, []⟩,
 ⟨none, .st 6 (.t 6) (.t 71), none, []⟩,
 ⟨(some 7), .mv (.c (.val (.int .i64 4))), none, []⟩])
 .ret)
 .skip))
 (.regD [⟨(some 72), .mv (.t 8), none, []⟩,
 ⟨(some 73), .mv (.t 8), none, []⟩,
 ⟨(some 74), .nck (.t 73), none, [1]⟩,
 ⟨(some 75), .fad 9 (.t 74), none, [2, 1]⟩,
 ⟨(some 76), .fad 0 (.t 75), none, [3, 2, 1]⟩,
 ⟨(some 77), .ld1 (.t 76), none, [4, 3, 2, 1]⟩,
 ⟨(some 78), .fad 1 (.t 5), none, []⟩,
 ⟨(some 79), .ld1 (.t 78), none, [6]⟩,
 ⟨(some 80), .ixa 5 (.t 77) (.t 79), none, [5, 4, 3, 2, 1, 7, 6]⟩,
 ⟨(some 81), .nck (.t 72), none, [0, 1, 2, 3, 4, 5, 6, 7, 8]⟩,
 ⟨(some 82), .fad 23 (.t 81), none, [9, 0, 1, 2, 3, 4, 5, 6, 7, 8]⟩,
 ⟨none, .st 1 (.t 82) (.t 80), none, [10, 9, 0, 1, 2, 3, 4, 5, 6, 7, 8]⟩]))
 .skip))
 (.seq (.seq (.reg [⟨(some 83), .fad 0 (.t 9), none, []⟩,
 ⟨(some 84), .ld1 (.t 83), none, []⟩,
 ⟨(some 85), .mv (.t 8), none, []⟩,
 ⟨(some 86), .call (.t 84) [(.t 85)], none, []⟩,
 ⟨(some 10), .mv (.t 86), none, []⟩])
 (.seq (.reg [⟨(some 87), .mv (.t 10), none, []⟩,
 ⟨(some 88), .bin .neq (.t 87) (.c (.val (.int .i64 0))), none, []⟩])
 (.cond (.t 88) (.seq (.reg [⟨(some 89), .ldn 6 (.t 4), none, []⟩,
 ⟨(some 90), .call (.f 29) [(.t 89)], none, []⟩,
 ⟨(some 91), .mv (.t 10), none, []⟩,
 ⟨none, .st 6 (.t 6) (.t 90), none, []⟩,
 ⟨(some 7), .mv (.t 91), none, []⟩])
 .ret)
 .skip)))
 (.seq (.reg [⟨(some 92), .mv (.t 8), none, []⟩,
 ⟨(some 93), .nck (.t 92), none, []⟩,
 ⟨(some 94), .fad 9 (.t 93), none, []⟩,
 ⟨(some 95), .ldn 6 (.t 94), none, []⟩,
 ⟨none, .st 6 (.t 6) (.t 95), none, []⟩,
 ⟨(some 7), .mv (.c (.val (.int .i64 0))), none, []⟩])
 .ret))))))))),
[(.cn 6 6), (.t 7)])
theorem irOk23 : convFn Tryd.prog Tryd.f23 = some ir23 := by kernel_rfl


theorem app_none {c : ConfD} {s : StateD} {o : OpD} (hr : rightB c s = true) (h : opOkB o = true) (h1 : jobK o.kind = false) (h2 : nodeK o.kind = false) : applyD c s o = deedD c s o := by
  unfold applyD appD
  rw [if_neg (by simp [hr]), if_neg (by simp [h]), if_neg (by simp [h1]), if_neg (by simp [h2])]
theorem app_job {c : ConfD} {s : StateD} {o : OpD} (hr : rightB c s = true) (h : opOkB o = true) (h1 : jobK o.kind = true) (h2 : nodeK o.kind = false) : applyD c s o = if o.a < 1 ∨ (s.jobs.length : Int) < o.a then (s, 4) else deedD c s o := by
  unfold applyD appD
  rw [if_neg (by simp [hr]), if_neg (by simp [h])]
  by_cases hq : o.a < 1 ∨ (s.jobs.length : Int) < o.a
  · rw [if_pos ⟨h1, hq⟩, if_pos hq]
  · rw [if_neg (fun h => hq h.2), if_neg (by simp [h2]), if_neg hq]
theorem app_node {c : ConfD} {s : StateD} {o : OpD} (hr : rightB c s = true) (h : opOkB o = true) (h1 : jobK o.kind = false) (h2 : nodeK o.kind = true) : applyD c s o = if (s.nodes.length : Int) ≤ o.a then (s, 4) else deedD c s o := by
  unfold applyD appD
  rw [if_neg (by simp [hr]), if_neg (by simp [h]), if_neg (by simp [h1])]
  by_cases hq : (s.nodes.length : Int) ≤ o.a
  · rw [if_pos ⟨h2, hq⟩, if_pos hq]
  · rw [if_neg (fun h => hq h.2), if_neg hq]
def ErrSame (s : StateD) (p : StateD × Int) : Prop := p.2 ≠ 0 → p.1 = s
theorem err_ite {s : StateD} {P : Prop} [Decidable P] {a b : StateD × Int} (h1 : ErrSame s a) (h2 : ErrSame s b) : ErrSame s (if P then a else b) := by
  split
  · exact h1
  · exact h2
theorem err_same (s : StateD) (e : Int) : ErrSame s (s, e) := fun _ => rfl
theorem err_ok (s t : StateD) : ErrSame s (t, 0) := fun h => absurd rfl h
/-- an error leaves the state as it was -/
theorem deed_err (c : ConfD) (s : StateD) (o : OpD) : ErrSame s (deedD c s o) := by
  unfold deedD submitD cancelD targetD turnD downD upD holdD startD unholdD drainD savedD evictD doneD cordonD uncordonD moveD movedD shrinkD newtermD
  repeat' (first | exact err_same _ _ | exact err_ok _ _ | apply err_ite)
theorem opOk_nums {o : OpD} (h : opOkB o = true) : (1 ≤ o.kind ∧ o.kind ≤ 21) ∧ (0 ≤ o.a ∧ o.a ≤ 1000000) ∧ (0 ≤ o.b ∧ o.b ≤ 1000000) := by
  unfold opOkB numOk at h
  simp only [Bool.and_eq_true, decide_eq_true_eq] at h
  exact ⟨h.1.1.1.1.1.1, h.1.1.1.1.1.2.1, h.1.1.1.1.2.1⟩

set_option maxHeartbeats 1600000 in
theorem apply_tri (c : ConfD) (s : StateD) (o : OpD) : Tri Tryd.prog bookG 23 [confV c, stateV s, opV o] [] (.tup [stateV (applyD c s o).1, .int (applyD c s o).2]) [] := by
  refine tri_W Tryd.func23 (by decide) irOk23 (Nat.le_of_ble_eq_true rfl) ?_
  simp only [ir23, go_sem, ↓reduceIte, zA, zB, zC, zD, zE, zF, reduceCtorEq, zG, zH, zI, zJ, zK, zL, zM, zN, zO, zP]
  refine W_calld (right_tri c s) rfl rfl rfl rfl ?_; simp only [go_sem, ↓reduceIte, zA, zB, zC, zD, zE, zF, reduceCtorEq, zG, zH, zI, zJ, zK, zL, zM, zN, zO, zP]
  cases hr : rightB c s with
  | false =>
    have hA : applyD c s o = (zeroState, 1) := by unfold applyD; rw [if_pos hr]
    rw [hA]
    simp only [go_sem, ↓reduceIte, zA, zB, zC, zD, zE, zF, reduceCtorEq, zG, zH, zI, zJ, zK, zL, zM, zN, zO, zP]
    exact BackZ [] rfl (by simp) (by simp [St.obj, objL, oneOr, St.get, getE, argR, argRs, rowsAt, zeroState, LV.int])
  | true =>
  have hp := (right_iff c s).1 hr
  have hln := hp.len
  have hlj := hp.jobs
  have hcf := (right_ok hr).conf
  simp only [go_sem, ↓reduceIte, zA, zB, zC, zD, zE, zF, reduceCtorEq, zG, zH, zI, zJ, zK, zL, zM, zN, zO, zP]
  refine W_calld (opsRight_tri o) rfl rfl rfl rfl ?_; simp only [go_sem, ↓reduceIte, zA, zB, zC, zD, zE, zF, reduceCtorEq, zG, zH, zI, zJ, zK, zL, zM, zN, zO, zP]
  cases ho : opOkB o with
  | false =>
    have hA : applyD c s o = (s, 1) := by unfold applyD appD; rw [if_neg (by simp [hr]), if_pos ho]
    rw [hA]
    simp only [go_sem, ↓reduceIte, zA, zB, zC, zD, zE, zF, reduceCtorEq, zG, zH, zI, zJ, zK, zL, zM, zN, zO, zP]
    refine W_calln (copy_tri s (by omega) (by omega)) rfl rfl rfl ?_
    simp only [go_sem, ↓reduceIte, zA, zB, zC, zD, zE, zF, reduceCtorEq, zG, zH, zI, zJ, zK, zL, zM, zN, zO, zP]
    exact BackZ [4, 5] rfl (by simp [St.obj, objL]) (by simp [St.obj, objL, oneOr, St.get, getE, argR, argRs, rowsAt, LV.int, List.take_of_length_le])
  | true =>
  have hkn := opOk_nums ho
  obtain ⟨hkk, hka, hkb⟩ := hkn
  simp only [go_sem, ↓reduceIte, zA, zB, zC, zD, zE, zF, reduceCtorEq, zG, zH, zI, zJ, zK, zL, zM, zN, zO, zP]
  refine WD_calln (copy_tri s (by omega) (by omega)) rfl rfl rfl ?_
  simp only [go_sem, ↓reduceIte, zA, zB, zC, zD, zE, zF, reduceCtorEq, zG, zH, zI, zJ, zK, zL, zM, zN, zO, zP]
  refine W_opsD_end rfl ?_
  simp only [go_sem, ↓reduceIte, zA, zB, zC, zD, zE, zF, reduceCtorEq, zG, zH, zI, zJ, zK, zL, zM, zN, zO, zP]
  refine WD_calld deeds_tri rfl rfl rfl rfl ?_
  simp only [go_sem, ↓reduceIte, zA, zB, zC, zD, zE, zF, reduceCtorEq, zG, zH, zI, zJ, zK, zL, zM, zN, zO, zP]
  have hk : o.kind = 1 ∨ o.kind = 2 ∨ o.kind = 3 ∨ o.kind = 4 ∨ o.kind = 5 ∨ o.kind = 6 ∨ o.kind = 7 ∨ o.kind = 8 ∨ o.kind = 9 ∨ o.kind = 10 ∨ o.kind = 11 ∨ o.kind = 12 ∨ o.kind = 13 ∨ o.kind = 14 ∨ o.kind = 15 ∨ o.kind = 16 ∨ o.kind = 17 ∨ o.kind = 18 ∨ o.kind = 19 ∨ o.kind = 20 ∨ o.kind = 21 := by omega
  rcases hk with hk | hk | hk | hk | hk | hk | hk | hk | hk | hk | hk | hk | hk | hk | hk | hk | hk | hk | hk | hk | hk
  · have hd : deedD c s o = submitD c s o := by simp only [deedD, hk, Int.reduceEq, if_true, if_false]
    have hE : ErrSame s (submitD c s o) := hd ▸ deed_err c s o
    have hA : applyD c s o = submitD c s o := by rw [app_none hr ho (by rw [hk]; rfl) (by rw [hk]; rfl), hd]
    rw [hA]
    have hx : (deedsL.drop 3).take 3 = [.d (.fn (.func 71) [] []), .bool false, .bool false] := rfl
    simp only [hk, hx, go_sem, ↓reduceIte, zA, zB, zC, zD, zE, zF, reduceCtorEq, zG, zH, zI, zJ, zK, zL, zM, zN, zO, zP]
    refine W_opsD_end rfl ?_
    simp only [go_sem, ↓reduceIte, zA, zB, zC, zD, zE, zF, reduceCtorEq, zG, zH, zI, zJ, zK, zL, zM, zN, zO, zP]
    refine W_callo [6, 4, 5] (submit_tri c s o (by omega) (by omega)) rfl (by simp only [argRs, argR, List.map_cons, List.map_nil, go_sem, ↓reduceIte, zA, zB, zC, zD, zE, zF, reduceCtorEq, zG, zH, zI, zJ, zK, zL, zM, zN, zO, zP, workO, hk]) (by decide) (by simp only [go_sem, ↓reduceIte, zA, zB, zC, zD, zE, zF, reduceCtorEq, zG, zH, zI, zJ, zK, zL, zM, zN, zO, zP, workO, hk]) (by simp only [go_sem, ↓reduceIte, zA, zB, zC, zD, zE, zF, reduceCtorEq, zG, zH, zI, zJ, zK, zL, zM, zN, zO, zP, List.all_cons, List.all_nil, workO, hk]) (by simp) ?_; simp only [go_sem, ↓reduceIte, zA, zB, zC, zD, zE, zF, reduceCtorEq, zG, zH, zI, zJ, zK, zL, zM, zN, zO, zP, workO, hk]
    generalize submitD c s o = p at *
    cases he : (p.2 != 0) with
    | true =>
      simp only [he, go_sem, ↓reduceIte, zA, zB, zC, zD, zE, zF, reduceCtorEq, zG, zH, zI, zJ, zK, zL, zM, zN, zO, zP]
      refine W_calln (copy_tri s (by omega) (by omega)) rfl rfl rfl ?_
      simp only [go_sem, ↓reduceIte, zA, zB, zC, zD, zE, zF, reduceCtorEq, zG, zH, zI, zJ, zK, zL, zM, zN, zO, zP]
      have hs : p.1 = s := hE (by simpa using he)
      rw [hs]
      exact BackZ [8, 9] rfl (by simp [St.obj, objL]) (by simp [St.obj, objL, oneOr, St.get, getE, argR, argRs, rowsAt, LV.int, List.take_of_length_le])
    | false =>
      have he2 : p.2 = 0 := by simpa using he
      simp only [he, go_sem, ↓reduceIte, zA, zB, zC, zD, zE, zF, reduceCtorEq, zG, zH, zI, zJ, zK, zL, zM, zN, zO, zP]
      exact BackZ [4, 5] rfl (by simp [St.obj, objL]) (by simp [St.obj, objL, oneOr, St.get, getE, argR, argRs, rowsAt, LV.int, List.take_of_length_le, he2])
  · have hd : deedD c s o = cancelD s o := by simp only [deedD, hk, Int.reduceEq, if_true, if_false]
    have hE : ErrSame s (cancelD s o) := hd ▸ deed_err c s o
    rw [app_job hr ho (by rw [hk]; rfl) (by rw [hk]; rfl), hd]
    have hx : (deedsL.drop 6).take 3 = [.d (.fn (.func 72) [] []), .bool true, .bool false] := rfl
    simp only [hk, hx, go_sem, ↓reduceIte, zA, zB, zC, zD, zE, zF, reduceCtorEq, zG, zH, zI, zJ, zK, zL, zM, zN, zO, zP]
    refine W_opsD_end rfl ?_
    simp only [go_sem, ↓reduceIte, zA, zB, zC, zD, zE, zF, reduceCtorEq, zG, zH, zI, zJ, zK, zL, zM, zN, zO, zP]
    by_cases hq : o.a < 1 ∨ (s.jobs.length : Int) < o.a
    · rw [if_pos hq]
      refine WG_split (fun h1 => ?_) (fun h1 => ?_) <;> simp only [h1, go_sem, ↓reduceIte, zA, zB, zC, zD, zE, zF, reduceCtorEq, zG, zH, zI, zJ, zK, zL, zM, zN, zO, zP] <;> (try simp only [beq_iff_eq, beq_eq_false_iff_ne, bne_iff_ne, ne_eq, decide_eq_true_eq, decide_eq_false_iff_not, Bool.not_true, Bool.not_false, Bool.not_eq_true, Bool.not_eq_false, bne_eq_false_iff_eq, Decidable.not_not] at h1)
      · refine WC_split (fun h2 => ?_) (fun h2 => ?_) <;> simp only [h2, go_sem, ↓reduceIte, zA, zB, zC, zD, zE, zF, reduceCtorEq, zG, zH, zI, zJ, zK, zL, zM, zN, zO, zP] <;> (try simp only [beq_iff_eq, beq_eq_false_iff_ne, bne_iff_ne, ne_eq, decide_eq_true_eq, decide_eq_false_iff_not, Bool.not_true, Bool.not_false, Bool.not_eq_true, Bool.not_eq_false, bne_eq_false_iff_eq, Decidable.not_not] at h2)
        · exact BackZ [4, 5] rfl (by simp [St.obj, objL]) (by simp [St.obj, objL, oneOr, St.get, getE, argR, argRs, rowsAt, LV.int, List.take_of_length_le])
        · omega
      · exact BackZ [4, 5] rfl (by simp [St.obj, objL]) (by simp [St.obj, objL, oneOr, St.get, getE, argR, argRs, rowsAt, LV.int, List.take_of_length_le])
    rw [if_neg hq]
    have q1 : decide (o.a < 1) = false := by simp; omega
    have q2 : decide (o.a > (s.jobs.length : Int)) = false := by simp; omega
    have hw : IntKind.i64.wrap (o.a - 1) = o.a - 1 := wrap_in (by omega) (by omega)
    have q3 : 0 ≤ o.a - 1 := by omega
    obtain ⟨k, hkq⟩ : ∃ k : Nat, (o.a - 1).toNat = k := ⟨_, rfl⟩
    have hkl : k < s.jobs.length := by omega
    have hka2 : o.a = k + 1 := by omega
    have hJ : jobA s o.a = joA s k := by unfold jobA joA; rw [hkq]
    simp only [q1, q2, q3, hw, hkq, hkl, go_sem, ↓reduceIte, zA, zB, zC, zD, zE, zF, reduceCtorEq, zG, zH, zI, zJ, zK, zL, zM, zN, zO, zP]
    refine W_opsD_end rfl ?_
    simp only [go_sem, ↓reduceIte, zA, zB, zC, zD, zE, zF, reduceCtorEq, zG, zH, zI, zJ, zK, zL, zM, zN, zO, zP]
    refine W_callo [6, 4, 5] (cancel_tri c s o k hkl hka2 (by omega) (by omega)) rfl (by simp only [argRs, argR, List.map_cons, List.map_nil, go_sem, ↓reduceIte, zA, zB, zC, zD, zE, zF, reduceCtorEq, zG, zH, zI, zJ, zK, zL, zM, zN, zO, zP, workO, hk]) (by decide) (by simp only [go_sem, ↓reduceIte, zA, zB, zC, zD, zE, zF, reduceCtorEq, zG, zH, zI, zJ, zK, zL, zM, zN, zO, zP, workO, hk]) (by simp only [go_sem, ↓reduceIte, zA, zB, zC, zD, zE, zF, reduceCtorEq, zG, zH, zI, zJ, zK, zL, zM, zN, zO, zP, List.all_cons, List.all_nil, workO, hk]) (by simp) ?_; simp only [go_sem, ↓reduceIte, zA, zB, zC, zD, zE, zF, reduceCtorEq, zG, zH, zI, zJ, zK, zL, zM, zN, zO, zP, workO, hk]
    generalize cancelD s o = p at *
    cases he : (p.2 != 0) with
    | true =>
      simp only [he, go_sem, ↓reduceIte, zA, zB, zC, zD, zE, zF, reduceCtorEq, zG, zH, zI, zJ, zK, zL, zM, zN, zO, zP]
      refine W_calln (copy_tri s (by omega) (by omega)) rfl rfl rfl ?_
      simp only [go_sem, ↓reduceIte, zA, zB, zC, zD, zE, zF, reduceCtorEq, zG, zH, zI, zJ, zK, zL, zM, zN, zO, zP]
      have hs : p.1 = s := hE (by simpa using he)
      rw [hs]
      exact BackZ [8, 9] rfl (by simp [St.obj, objL]) (by simp [St.obj, objL, oneOr, St.get, getE, argR, argRs, rowsAt, LV.int, List.take_of_length_le])
    | false =>
      have he2 : p.2 = 0 := by simpa using he
      simp only [he, go_sem, ↓reduceIte, zA, zB, zC, zD, zE, zF, reduceCtorEq, zG, zH, zI, zJ, zK, zL, zM, zN, zO, zP]
      exact BackZ [4, 5] rfl (by simp [St.obj, objL]) (by simp [St.obj, objL, oneOr, St.get, getE, argR, argRs, rowsAt, LV.int, List.take_of_length_le, he2])
  · have hd : deedD c s o = targetD s o := by simp only [deedD, hk, Int.reduceEq, if_true, if_false]
    have hE : ErrSame s (targetD s o) := hd ▸ deed_err c s o
    have hA : applyD c s o = targetD s o := by rw [app_none hr ho (by rw [hk]; rfl) (by rw [hk]; rfl), hd]
    rw [hA]
    have hx : (deedsL.drop 9).take 3 = [.d (.fn (.func 73) [] []), .bool false, .bool false] := rfl
    simp only [hk, hx, go_sem, ↓reduceIte, zA, zB, zC, zD, zE, zF, reduceCtorEq, zG, zH, zI, zJ, zK, zL, zM, zN, zO, zP]
    refine W_opsD_end rfl ?_
    simp only [go_sem, ↓reduceIte, zA, zB, zC, zD, zE, zF, reduceCtorEq, zG, zH, zI, zJ, zK, zL, zM, zN, zO, zP]
    refine W_callo [6, 4, 5] (target_tri c s o (by omega) (by omega)) rfl (by simp only [argRs, argR, List.map_cons, List.map_nil, go_sem, ↓reduceIte, zA, zB, zC, zD, zE, zF, reduceCtorEq, zG, zH, zI, zJ, zK, zL, zM, zN, zO, zP, workO, hk]) (by decide) (by simp only [go_sem, ↓reduceIte, zA, zB, zC, zD, zE, zF, reduceCtorEq, zG, zH, zI, zJ, zK, zL, zM, zN, zO, zP, workO, hk]) (by simp only [go_sem, ↓reduceIte, zA, zB, zC, zD, zE, zF, reduceCtorEq, zG, zH, zI, zJ, zK, zL, zM, zN, zO, zP, List.all_cons, List.all_nil, workO, hk]) (by simp) ?_; simp only [go_sem, ↓reduceIte, zA, zB, zC, zD, zE, zF, reduceCtorEq, zG, zH, zI, zJ, zK, zL, zM, zN, zO, zP, workO, hk]
    generalize targetD s o = p at *
    cases he : (p.2 != 0) with
    | true =>
      simp only [he, go_sem, ↓reduceIte, zA, zB, zC, zD, zE, zF, reduceCtorEq, zG, zH, zI, zJ, zK, zL, zM, zN, zO, zP]
      refine W_calln (copy_tri s (by omega) (by omega)) rfl rfl rfl ?_
      simp only [go_sem, ↓reduceIte, zA, zB, zC, zD, zE, zF, reduceCtorEq, zG, zH, zI, zJ, zK, zL, zM, zN, zO, zP]
      have hs : p.1 = s := hE (by simpa using he)
      rw [hs]
      exact BackZ [8, 9] rfl (by simp [St.obj, objL]) (by simp [St.obj, objL, oneOr, St.get, getE, argR, argRs, rowsAt, LV.int, List.take_of_length_le])
    | false =>
      have he2 : p.2 = 0 := by simpa using he
      simp only [he, go_sem, ↓reduceIte, zA, zB, zC, zD, zE, zF, reduceCtorEq, zG, zH, zI, zJ, zK, zL, zM, zN, zO, zP]
      exact BackZ [4, 5] rfl (by simp [St.obj, objL]) (by simp [St.obj, objL, oneOr, St.get, getE, argR, argRs, rowsAt, LV.int, List.take_of_length_le, he2])
  · have hd : deedD c s o = turnD s (s.mode == 0) 1 := by simp only [deedD, hk, Int.reduceEq, if_true, if_false]
    have hE : ErrSame s (turnD s (s.mode == 0) 1) := hd ▸ deed_err c s o
    have hA : applyD c s o = turnD s (s.mode == 0) 1 := by rw [app_none hr ho (by rw [hk]; rfl) (by rw [hk]; rfl), hd]
    rw [hA]
    have hx : (deedsL.drop 12).take 3 = [.d (.fn (.func 74) [] []), .bool false, .bool false] := rfl
    simp only [hk, hx, go_sem, ↓reduceIte, zA, zB, zC, zD, zE, zF, reduceCtorEq, zG, zH, zI, zJ, zK, zL, zM, zN, zO, zP]
    refine W_opsD_end rfl ?_
    simp only [go_sem, ↓reduceIte, zA, zB, zC, zD, zE, zF, reduceCtorEq, zG, zH, zI, zJ, zK, zL, zM, zN, zO, zP]
    refine W_callo [6, 4, 5] (pause_tri c s o) rfl (by simp only [argRs, argR, List.map_cons, List.map_nil, go_sem, ↓reduceIte, zA, zB, zC, zD, zE, zF, reduceCtorEq, zG, zH, zI, zJ, zK, zL, zM, zN, zO, zP, workO, hk]) (by decide) (by simp only [go_sem, ↓reduceIte, zA, zB, zC, zD, zE, zF, reduceCtorEq, zG, zH, zI, zJ, zK, zL, zM, zN, zO, zP, workO, hk]) (by simp only [go_sem, ↓reduceIte, zA, zB, zC, zD, zE, zF, reduceCtorEq, zG, zH, zI, zJ, zK, zL, zM, zN, zO, zP, List.all_cons, List.all_nil, workO, hk]) (by simp) ?_; simp only [go_sem, ↓reduceIte, zA, zB, zC, zD, zE, zF, reduceCtorEq, zG, zH, zI, zJ, zK, zL, zM, zN, zO, zP, workO, hk]
    generalize turnD s (s.mode == 0) 1 = p at *
    cases he : (p.2 != 0) with
    | true =>
      simp only [he, go_sem, ↓reduceIte, zA, zB, zC, zD, zE, zF, reduceCtorEq, zG, zH, zI, zJ, zK, zL, zM, zN, zO, zP]
      refine W_calln (copy_tri s (by omega) (by omega)) rfl rfl rfl ?_
      simp only [go_sem, ↓reduceIte, zA, zB, zC, zD, zE, zF, reduceCtorEq, zG, zH, zI, zJ, zK, zL, zM, zN, zO, zP]
      have hs : p.1 = s := hE (by simpa using he)
      rw [hs]
      exact BackZ [8, 9] rfl (by simp [St.obj, objL]) (by simp [St.obj, objL, oneOr, St.get, getE, argR, argRs, rowsAt, LV.int, List.take_of_length_le])
    | false =>
      have he2 : p.2 = 0 := by simpa using he
      simp only [he, go_sem, ↓reduceIte, zA, zB, zC, zD, zE, zF, reduceCtorEq, zG, zH, zI, zJ, zK, zL, zM, zN, zO, zP]
      exact BackZ [4, 5] rfl (by simp [St.obj, objL]) (by simp [St.obj, objL, oneOr, St.get, getE, argR, argRs, rowsAt, LV.int, List.take_of_length_le, he2])
  · have hd : deedD c s o = turnD s (s.mode == 1) 0 := by simp only [deedD, hk, Int.reduceEq, if_true, if_false]
    have hE : ErrSame s (turnD s (s.mode == 1) 0) := hd ▸ deed_err c s o
    have hA : applyD c s o = turnD s (s.mode == 1) 0 := by rw [app_none hr ho (by rw [hk]; rfl) (by rw [hk]; rfl), hd]
    rw [hA]
    have hx : (deedsL.drop 15).take 3 = [.d (.fn (.func 75) [] []), .bool false, .bool false] := rfl
    simp only [hk, hx, go_sem, ↓reduceIte, zA, zB, zC, zD, zE, zF, reduceCtorEq, zG, zH, zI, zJ, zK, zL, zM, zN, zO, zP]
    refine W_opsD_end rfl ?_
    simp only [go_sem, ↓reduceIte, zA, zB, zC, zD, zE, zF, reduceCtorEq, zG, zH, zI, zJ, zK, zL, zM, zN, zO, zP]
    refine W_callo [6, 4, 5] (resume_tri c s o) rfl (by simp only [argRs, argR, List.map_cons, List.map_nil, go_sem, ↓reduceIte, zA, zB, zC, zD, zE, zF, reduceCtorEq, zG, zH, zI, zJ, zK, zL, zM, zN, zO, zP, workO, hk]) (by decide) (by simp only [go_sem, ↓reduceIte, zA, zB, zC, zD, zE, zF, reduceCtorEq, zG, zH, zI, zJ, zK, zL, zM, zN, zO, zP, workO, hk]) (by simp only [go_sem, ↓reduceIte, zA, zB, zC, zD, zE, zF, reduceCtorEq, zG, zH, zI, zJ, zK, zL, zM, zN, zO, zP, List.all_cons, List.all_nil, workO, hk]) (by simp) ?_; simp only [go_sem, ↓reduceIte, zA, zB, zC, zD, zE, zF, reduceCtorEq, zG, zH, zI, zJ, zK, zL, zM, zN, zO, zP, workO, hk]
    generalize turnD s (s.mode == 1) 0 = p at *
    cases he : (p.2 != 0) with
    | true =>
      simp only [he, go_sem, ↓reduceIte, zA, zB, zC, zD, zE, zF, reduceCtorEq, zG, zH, zI, zJ, zK, zL, zM, zN, zO, zP]
      refine W_calln (copy_tri s (by omega) (by omega)) rfl rfl rfl ?_
      simp only [go_sem, ↓reduceIte, zA, zB, zC, zD, zE, zF, reduceCtorEq, zG, zH, zI, zJ, zK, zL, zM, zN, zO, zP]
      have hs : p.1 = s := hE (by simpa using he)
      rw [hs]
      exact BackZ [8, 9] rfl (by simp [St.obj, objL]) (by simp [St.obj, objL, oneOr, St.get, getE, argR, argRs, rowsAt, LV.int, List.take_of_length_le])
    | false =>
      have he2 : p.2 = 0 := by simpa using he
      simp only [he, go_sem, ↓reduceIte, zA, zB, zC, zD, zE, zF, reduceCtorEq, zG, zH, zI, zJ, zK, zL, zM, zN, zO, zP]
      exact BackZ [4, 5] rfl (by simp [St.obj, objL]) (by simp [St.obj, objL, oneOr, St.get, getE, argR, argRs, rowsAt, LV.int, List.take_of_length_le, he2])
  · have hd : deedD c s o = turnD s (s.mode != 2) 2 := by simp only [deedD, hk, Int.reduceEq, if_true, if_false]
    have hE : ErrSame s (turnD s (s.mode != 2) 2) := hd ▸ deed_err c s o
    have hA : applyD c s o = turnD s (s.mode != 2) 2 := by rw [app_none hr ho (by rw [hk]; rfl) (by rw [hk]; rfl), hd]
    rw [hA]
    have hx : (deedsL.drop 18).take 3 = [.d (.fn (.func 76) [] []), .bool false, .bool false] := rfl
    simp only [hk, hx, go_sem, ↓reduceIte, zA, zB, zC, zD, zE, zF, reduceCtorEq, zG, zH, zI, zJ, zK, zL, zM, zN, zO, zP]
    refine W_opsD_end rfl ?_
    simp only [go_sem, ↓reduceIte, zA, zB, zC, zD, zE, zF, reduceCtorEq, zG, zH, zI, zJ, zK, zL, zM, zN, zO, zP]
    refine W_callo [6, 4, 5] (abort_tri c s o) rfl (by simp only [argRs, argR, List.map_cons, List.map_nil, go_sem, ↓reduceIte, zA, zB, zC, zD, zE, zF, reduceCtorEq, zG, zH, zI, zJ, zK, zL, zM, zN, zO, zP, workO, hk]) (by decide) (by simp only [go_sem, ↓reduceIte, zA, zB, zC, zD, zE, zF, reduceCtorEq, zG, zH, zI, zJ, zK, zL, zM, zN, zO, zP, workO, hk]) (by simp only [go_sem, ↓reduceIte, zA, zB, zC, zD, zE, zF, reduceCtorEq, zG, zH, zI, zJ, zK, zL, zM, zN, zO, zP, List.all_cons, List.all_nil, workO, hk]) (by simp) ?_; simp only [go_sem, ↓reduceIte, zA, zB, zC, zD, zE, zF, reduceCtorEq, zG, zH, zI, zJ, zK, zL, zM, zN, zO, zP, workO, hk]
    generalize turnD s (s.mode != 2) 2 = p at *
    cases he : (p.2 != 0) with
    | true =>
      simp only [he, go_sem, ↓reduceIte, zA, zB, zC, zD, zE, zF, reduceCtorEq, zG, zH, zI, zJ, zK, zL, zM, zN, zO, zP]
      refine W_calln (copy_tri s (by omega) (by omega)) rfl rfl rfl ?_
      simp only [go_sem, ↓reduceIte, zA, zB, zC, zD, zE, zF, reduceCtorEq, zG, zH, zI, zJ, zK, zL, zM, zN, zO, zP]
      have hs : p.1 = s := hE (by simpa using he)
      rw [hs]
      exact BackZ [8, 9] rfl (by simp [St.obj, objL]) (by simp [St.obj, objL, oneOr, St.get, getE, argR, argRs, rowsAt, LV.int, List.take_of_length_le])
    | false =>
      have he2 : p.2 = 0 := by simpa using he
      simp only [he, go_sem, ↓reduceIte, zA, zB, zC, zD, zE, zF, reduceCtorEq, zG, zH, zI, zJ, zK, zL, zM, zN, zO, zP]
      exact BackZ [4, 5] rfl (by simp [St.obj, objL]) (by simp [St.obj, objL, oneOr, St.get, getE, argR, argRs, rowsAt, LV.int, List.take_of_length_le, he2])
  · have hd : deedD c s o = downD s o := by simp only [deedD, hk, Int.reduceEq, if_true, if_false]
    have hE : ErrSame s (downD s o) := hd ▸ deed_err c s o
    rw [app_node hr ho (by rw [hk]; rfl) (by rw [hk]; rfl), hd]
    have hx : (deedsL.drop 21).take 3 = [.d (.fn (.func 77) [] []), .bool false, .bool true] := rfl
    simp only [hk, hx, go_sem, ↓reduceIte, zA, zB, zC, zD, zE, zF, reduceCtorEq, zG, zH, zI, zJ, zK, zL, zM, zN, zO, zP]
    refine W_opsD_end rfl ?_
    simp only [go_sem, ↓reduceIte, zA, zB, zC, zD, zE, zF, reduceCtorEq, zG, zH, zI, zJ, zK, zL, zM, zN, zO, zP]
    by_cases hq : (s.nodes.length : Int) ≤ o.a
    · rw [if_pos hq]
      have q1 : decide (o.a ≥ (s.nodes.length : Int)) = true := by simpa using hq
      simp only [q1, go_sem, ↓reduceIte, zA, zB, zC, zD, zE, zF, reduceCtorEq, zG, zH, zI, zJ, zK, zL, zM, zN, zO, zP]
      exact BackZ [4, 5] rfl (by simp [St.obj, objL]) (by simp [St.obj, objL, oneOr, St.get, getE, argR, argRs, rowsAt, LV.int, List.take_of_length_le])
    rw [if_neg hq]
    have q1 : decide (o.a ≥ (s.nodes.length : Int)) = false := by simp; omega
    have q3 : 0 ≤ o.a := hka.1
    obtain ⟨i, hiq⟩ : ∃ i : Nat, o.a.toNat = i := ⟨_, rfl⟩
    have hil : i < s.nodes.length := by omega
    have hia : o.a = i := by omega
    have hN : nodeA s o.a = noA s i := by unfold nodeA noA; rw [hiq]
    simp only [q1, q3, hiq, hil, go_sem, ↓reduceIte, zA, zB, zC, zD, zE, zF, reduceCtorEq, zG, zH, zI, zJ, zK, zL, zM, zN, zO, zP]
    refine W_opsD_end rfl ?_
    simp only [go_sem, ↓reduceIte, zA, zB, zC, zD, zE, zF, reduceCtorEq, zG, zH, zI, zJ, zK, zL, zM, zN, zO, zP]
    refine W_callo [6, 4, 5] (down_tri c s o i hil hia (by omega) (by omega) (by rw [hN]; exact hp.job i hil)) rfl (by simp only [argRs, argR, List.map_cons, List.map_nil, go_sem, ↓reduceIte, zA, zB, zC, zD, zE, zF, reduceCtorEq, zG, zH, zI, zJ, zK, zL, zM, zN, zO, zP, workO, hk]) (by decide) (by simp only [go_sem, ↓reduceIte, zA, zB, zC, zD, zE, zF, reduceCtorEq, zG, zH, zI, zJ, zK, zL, zM, zN, zO, zP, workO, hk]) (by simp only [go_sem, ↓reduceIte, zA, zB, zC, zD, zE, zF, reduceCtorEq, zG, zH, zI, zJ, zK, zL, zM, zN, zO, zP, List.all_cons, List.all_nil, workO, hk]) (by simp) ?_; simp only [go_sem, ↓reduceIte, zA, zB, zC, zD, zE, zF, reduceCtorEq, zG, zH, zI, zJ, zK, zL, zM, zN, zO, zP, workO, hk]
    generalize downD s o = p at *
    cases he : (p.2 != 0) with
    | true =>
      simp only [he, go_sem, ↓reduceIte, zA, zB, zC, zD, zE, zF, reduceCtorEq, zG, zH, zI, zJ, zK, zL, zM, zN, zO, zP]
      refine W_calln (copy_tri s (by omega) (by omega)) rfl rfl rfl ?_
      simp only [go_sem, ↓reduceIte, zA, zB, zC, zD, zE, zF, reduceCtorEq, zG, zH, zI, zJ, zK, zL, zM, zN, zO, zP]
      have hs : p.1 = s := hE (by simpa using he)
      rw [hs]
      exact BackZ [8, 9] rfl (by simp [St.obj, objL]) (by simp [St.obj, objL, oneOr, St.get, getE, argR, argRs, rowsAt, LV.int, List.take_of_length_le])
    | false =>
      have he2 : p.2 = 0 := by simpa using he
      simp only [he, go_sem, ↓reduceIte, zA, zB, zC, zD, zE, zF, reduceCtorEq, zG, zH, zI, zJ, zK, zL, zM, zN, zO, zP]
      exact BackZ [4, 5] rfl (by simp [St.obj, objL]) (by simp [St.obj, objL, oneOr, St.get, getE, argR, argRs, rowsAt, LV.int, List.take_of_length_le, he2])
  · have hd : deedD c s o = upD s o := by simp only [deedD, hk, Int.reduceEq, if_true, if_false]
    have hE : ErrSame s (upD s o) := hd ▸ deed_err c s o
    rw [app_node hr ho (by rw [hk]; rfl) (by rw [hk]; rfl), hd]
    have hx : (deedsL.drop 24).take 3 = [.d (.fn (.func 78) [] []), .bool false, .bool true] := rfl
    simp only [hk, hx, go_sem, ↓reduceIte, zA, zB, zC, zD, zE, zF, reduceCtorEq, zG, zH, zI, zJ, zK, zL, zM, zN, zO, zP]
    refine W_opsD_end rfl ?_
    simp only [go_sem, ↓reduceIte, zA, zB, zC, zD, zE, zF, reduceCtorEq, zG, zH, zI, zJ, zK, zL, zM, zN, zO, zP]
    by_cases hq : (s.nodes.length : Int) ≤ o.a
    · rw [if_pos hq]
      have q1 : decide (o.a ≥ (s.nodes.length : Int)) = true := by simpa using hq
      simp only [q1, go_sem, ↓reduceIte, zA, zB, zC, zD, zE, zF, reduceCtorEq, zG, zH, zI, zJ, zK, zL, zM, zN, zO, zP]
      exact BackZ [4, 5] rfl (by simp [St.obj, objL]) (by simp [St.obj, objL, oneOr, St.get, getE, argR, argRs, rowsAt, LV.int, List.take_of_length_le])
    rw [if_neg hq]
    have q1 : decide (o.a ≥ (s.nodes.length : Int)) = false := by simp; omega
    have q3 : 0 ≤ o.a := hka.1
    obtain ⟨i, hiq⟩ : ∃ i : Nat, o.a.toNat = i := ⟨_, rfl⟩
    have hil : i < s.nodes.length := by omega
    have hia : o.a = i := by omega
    have hN : nodeA s o.a = noA s i := by unfold nodeA noA; rw [hiq]
    simp only [q1, q3, hiq, hil, go_sem, ↓reduceIte, zA, zB, zC, zD, zE, zF, reduceCtorEq, zG, zH, zI, zJ, zK, zL, zM, zN, zO, zP]
    refine W_opsD_end rfl ?_
    simp only [go_sem, ↓reduceIte, zA, zB, zC, zD, zE, zF, reduceCtorEq, zG, zH, zI, zJ, zK, zL, zM, zN, zO, zP]
    refine W_callo [6, 4, 5] (up_tri c s o i hil hia) rfl (by simp only [argRs, argR, List.map_cons, List.map_nil, go_sem, ↓reduceIte, zA, zB, zC, zD, zE, zF, reduceCtorEq, zG, zH, zI, zJ, zK, zL, zM, zN, zO, zP, workO, hk]) (by decide) (by simp only [go_sem, ↓reduceIte, zA, zB, zC, zD, zE, zF, reduceCtorEq, zG, zH, zI, zJ, zK, zL, zM, zN, zO, zP, workO, hk]) (by simp only [go_sem, ↓reduceIte, zA, zB, zC, zD, zE, zF, reduceCtorEq, zG, zH, zI, zJ, zK, zL, zM, zN, zO, zP, List.all_cons, List.all_nil, workO, hk]) (by simp) ?_; simp only [go_sem, ↓reduceIte, zA, zB, zC, zD, zE, zF, reduceCtorEq, zG, zH, zI, zJ, zK, zL, zM, zN, zO, zP, workO, hk]
    generalize upD s o = p at *
    cases he : (p.2 != 0) with
    | true =>
      simp only [he, go_sem, ↓reduceIte, zA, zB, zC, zD, zE, zF, reduceCtorEq, zG, zH, zI, zJ, zK, zL, zM, zN, zO, zP]
      refine W_calln (copy_tri s (by omega) (by omega)) rfl rfl rfl ?_
      simp only [go_sem, ↓reduceIte, zA, zB, zC, zD, zE, zF, reduceCtorEq, zG, zH, zI, zJ, zK, zL, zM, zN, zO, zP]
      have hs : p.1 = s := hE (by simpa using he)
      rw [hs]
      exact BackZ [8, 9] rfl (by simp [St.obj, objL]) (by simp [St.obj, objL, oneOr, St.get, getE, argR, argRs, rowsAt, LV.int, List.take_of_length_le])
    | false =>
      have he2 : p.2 = 0 := by simpa using he
      simp only [he, go_sem, ↓reduceIte, zA, zB, zC, zD, zE, zF, reduceCtorEq, zG, zH, zI, zJ, zK, zL, zM, zN, zO, zP]
      exact BackZ [4, 5] rfl (by simp [St.obj, objL]) (by simp [St.obj, objL, oneOr, St.get, getE, argR, argRs, rowsAt, LV.int, List.take_of_length_le, he2])
  · have hd : deedD c s o = holdD s o := by simp only [deedD, hk, Int.reduceEq, if_true, if_false]
    have hE : ErrSame s (holdD s o) := hd ▸ deed_err c s o
    rw [app_job hr ho (by rw [hk]; rfl) (by rw [hk]; rfl), hd]
    have hx : (deedsL.drop 27).take 3 = [.d (.fn (.func 79) [] []), .bool true, .bool false] := rfl
    simp only [hk, hx, go_sem, ↓reduceIte, zA, zB, zC, zD, zE, zF, reduceCtorEq, zG, zH, zI, zJ, zK, zL, zM, zN, zO, zP]
    refine W_opsD_end rfl ?_
    simp only [go_sem, ↓reduceIte, zA, zB, zC, zD, zE, zF, reduceCtorEq, zG, zH, zI, zJ, zK, zL, zM, zN, zO, zP]
    by_cases hq : o.a < 1 ∨ (s.jobs.length : Int) < o.a
    · rw [if_pos hq]
      refine WG_split (fun h1 => ?_) (fun h1 => ?_) <;> simp only [h1, go_sem, ↓reduceIte, zA, zB, zC, zD, zE, zF, reduceCtorEq, zG, zH, zI, zJ, zK, zL, zM, zN, zO, zP] <;> (try simp only [beq_iff_eq, beq_eq_false_iff_ne, bne_iff_ne, ne_eq, decide_eq_true_eq, decide_eq_false_iff_not, Bool.not_true, Bool.not_false, Bool.not_eq_true, Bool.not_eq_false, bne_eq_false_iff_eq, Decidable.not_not] at h1)
      · refine WC_split (fun h2 => ?_) (fun h2 => ?_) <;> simp only [h2, go_sem, ↓reduceIte, zA, zB, zC, zD, zE, zF, reduceCtorEq, zG, zH, zI, zJ, zK, zL, zM, zN, zO, zP] <;> (try simp only [beq_iff_eq, beq_eq_false_iff_ne, bne_iff_ne, ne_eq, decide_eq_true_eq, decide_eq_false_iff_not, Bool.not_true, Bool.not_false, Bool.not_eq_true, Bool.not_eq_false, bne_eq_false_iff_eq, Decidable.not_not] at h2)
        · exact BackZ [4, 5] rfl (by simp [St.obj, objL]) (by simp [St.obj, objL, oneOr, St.get, getE, argR, argRs, rowsAt, LV.int, List.take_of_length_le])
        · omega
      · exact BackZ [4, 5] rfl (by simp [St.obj, objL]) (by simp [St.obj, objL, oneOr, St.get, getE, argR, argRs, rowsAt, LV.int, List.take_of_length_le])
    rw [if_neg hq]
    have q1 : decide (o.a < 1) = false := by simp; omega
    have q2 : decide (o.a > (s.jobs.length : Int)) = false := by simp; omega
    have hw : IntKind.i64.wrap (o.a - 1) = o.a - 1 := wrap_in (by omega) (by omega)
    have q3 : 0 ≤ o.a - 1 := by omega
    obtain ⟨k, hkq⟩ : ∃ k : Nat, (o.a - 1).toNat = k := ⟨_, rfl⟩
    have hkl : k < s.jobs.length := by omega
    have hka2 : o.a = k + 1 := by omega
    have hJ : jobA s o.a = joA s k := by unfold jobA joA; rw [hkq]
    simp only [q1, q2, q3, hw, hkq, hkl, go_sem, ↓reduceIte, zA, zB, zC, zD, zE, zF, reduceCtorEq, zG, zH, zI, zJ, zK, zL, zM, zN, zO, zP]
    refine W_opsD_end rfl ?_
    simp only [go_sem, ↓reduceIte, zA, zB, zC, zD, zE, zF, reduceCtorEq, zG, zH, zI, zJ, zK, zL, zM, zN, zO, zP]
    refine W_callo [6, 4, 5] (hold_tri c s o k hkl hka2 (by omega) (by omega) (by rw [hJ]; exact (hp.num k hkl).inc.1)) rfl (by simp only [argRs, argR, List.map_cons, List.map_nil, go_sem, ↓reduceIte, zA, zB, zC, zD, zE, zF, reduceCtorEq, zG, zH, zI, zJ, zK, zL, zM, zN, zO, zP, workO, hk]) (by decide) (by simp only [go_sem, ↓reduceIte, zA, zB, zC, zD, zE, zF, reduceCtorEq, zG, zH, zI, zJ, zK, zL, zM, zN, zO, zP, workO, hk]) (by simp only [go_sem, ↓reduceIte, zA, zB, zC, zD, zE, zF, reduceCtorEq, zG, zH, zI, zJ, zK, zL, zM, zN, zO, zP, List.all_cons, List.all_nil, workO, hk]) (by simp) ?_; simp only [go_sem, ↓reduceIte, zA, zB, zC, zD, zE, zF, reduceCtorEq, zG, zH, zI, zJ, zK, zL, zM, zN, zO, zP, workO, hk]
    generalize holdD s o = p at *
    cases he : (p.2 != 0) with
    | true =>
      simp only [he, go_sem, ↓reduceIte, zA, zB, zC, zD, zE, zF, reduceCtorEq, zG, zH, zI, zJ, zK, zL, zM, zN, zO, zP]
      refine W_calln (copy_tri s (by omega) (by omega)) rfl rfl rfl ?_
      simp only [go_sem, ↓reduceIte, zA, zB, zC, zD, zE, zF, reduceCtorEq, zG, zH, zI, zJ, zK, zL, zM, zN, zO, zP]
      have hs : p.1 = s := hE (by simpa using he)
      rw [hs]
      exact BackZ [8, 9] rfl (by simp [St.obj, objL]) (by simp [St.obj, objL, oneOr, St.get, getE, argR, argRs, rowsAt, LV.int, List.take_of_length_le])
    | false =>
      have he2 : p.2 = 0 := by simpa using he
      simp only [he, go_sem, ↓reduceIte, zA, zB, zC, zD, zE, zF, reduceCtorEq, zG, zH, zI, zJ, zK, zL, zM, zN, zO, zP]
      exact BackZ [4, 5] rfl (by simp [St.obj, objL]) (by simp [St.obj, objL, oneOr, St.get, getE, argR, argRs, rowsAt, LV.int, List.take_of_length_le, he2])
  · have hd : deedD c s o = startD s o := by simp only [deedD, hk, Int.reduceEq, if_true, if_false]
    have hE : ErrSame s (startD s o) := hd ▸ deed_err c s o
    rw [app_job hr ho (by rw [hk]; rfl) (by rw [hk]; rfl), hd]
    have hx : (deedsL.drop 30).take 3 = [.d (.fn (.func 80) [] []), .bool true, .bool false] := rfl
    simp only [hk, hx, go_sem, ↓reduceIte, zA, zB, zC, zD, zE, zF, reduceCtorEq, zG, zH, zI, zJ, zK, zL, zM, zN, zO, zP]
    refine W_opsD_end rfl ?_
    simp only [go_sem, ↓reduceIte, zA, zB, zC, zD, zE, zF, reduceCtorEq, zG, zH, zI, zJ, zK, zL, zM, zN, zO, zP]
    by_cases hq : o.a < 1 ∨ (s.jobs.length : Int) < o.a
    · rw [if_pos hq]
      refine WG_split (fun h1 => ?_) (fun h1 => ?_) <;> simp only [h1, go_sem, ↓reduceIte, zA, zB, zC, zD, zE, zF, reduceCtorEq, zG, zH, zI, zJ, zK, zL, zM, zN, zO, zP] <;> (try simp only [beq_iff_eq, beq_eq_false_iff_ne, bne_iff_ne, ne_eq, decide_eq_true_eq, decide_eq_false_iff_not, Bool.not_true, Bool.not_false, Bool.not_eq_true, Bool.not_eq_false, bne_eq_false_iff_eq, Decidable.not_not] at h1)
      · refine WC_split (fun h2 => ?_) (fun h2 => ?_) <;> simp only [h2, go_sem, ↓reduceIte, zA, zB, zC, zD, zE, zF, reduceCtorEq, zG, zH, zI, zJ, zK, zL, zM, zN, zO, zP] <;> (try simp only [beq_iff_eq, beq_eq_false_iff_ne, bne_iff_ne, ne_eq, decide_eq_true_eq, decide_eq_false_iff_not, Bool.not_true, Bool.not_false, Bool.not_eq_true, Bool.not_eq_false, bne_eq_false_iff_eq, Decidable.not_not] at h2)
        · exact BackZ [4, 5] rfl (by simp [St.obj, objL]) (by simp [St.obj, objL, oneOr, St.get, getE, argR, argRs, rowsAt, LV.int, List.take_of_length_le])
        · omega
      · exact BackZ [4, 5] rfl (by simp [St.obj, objL]) (by simp [St.obj, objL, oneOr, St.get, getE, argR, argRs, rowsAt, LV.int, List.take_of_length_le])
    rw [if_neg hq]
    have q1 : decide (o.a < 1) = false := by simp; omega
    have q2 : decide (o.a > (s.jobs.length : Int)) = false := by simp; omega
    have hw : IntKind.i64.wrap (o.a - 1) = o.a - 1 := wrap_in (by omega) (by omega)
    have q3 : 0 ≤ o.a - 1 := by omega
    obtain ⟨k, hkq⟩ : ∃ k : Nat, (o.a - 1).toNat = k := ⟨_, rfl⟩
    have hkl : k < s.jobs.length := by omega
    have hka2 : o.a = k + 1 := by omega
    have hJ : jobA s o.a = joA s k := by unfold jobA joA; rw [hkq]
    simp only [q1, q2, q3, hw, hkq, hkl, go_sem, ↓reduceIte, zA, zB, zC, zD, zE, zF, reduceCtorEq, zG, zH, zI, zJ, zK, zL, zM, zN, zO, zP]
    refine W_opsD_end rfl ?_
    simp only [go_sem, ↓reduceIte, zA, zB, zC, zD, zE, zF, reduceCtorEq, zG, zH, zI, zJ, zK, zL, zM, zN, zO, zP]
    refine W_callo [6, 4, 5] (start_tri c s o k hkl hka2) rfl (by simp only [argRs, argR, List.map_cons, List.map_nil, go_sem, ↓reduceIte, zA, zB, zC, zD, zE, zF, reduceCtorEq, zG, zH, zI, zJ, zK, zL, zM, zN, zO, zP, workO, hk]) (by decide) (by simp only [go_sem, ↓reduceIte, zA, zB, zC, zD, zE, zF, reduceCtorEq, zG, zH, zI, zJ, zK, zL, zM, zN, zO, zP, workO, hk]) (by simp only [go_sem, ↓reduceIte, zA, zB, zC, zD, zE, zF, reduceCtorEq, zG, zH, zI, zJ, zK, zL, zM, zN, zO, zP, List.all_cons, List.all_nil, workO, hk]) (by simp) ?_; simp only [go_sem, ↓reduceIte, zA, zB, zC, zD, zE, zF, reduceCtorEq, zG, zH, zI, zJ, zK, zL, zM, zN, zO, zP, workO, hk]
    generalize startD s o = p at *
    cases he : (p.2 != 0) with
    | true =>
      simp only [he, go_sem, ↓reduceIte, zA, zB, zC, zD, zE, zF, reduceCtorEq, zG, zH, zI, zJ, zK, zL, zM, zN, zO, zP]
      refine W_calln (copy_tri s (by omega) (by omega)) rfl rfl rfl ?_
      simp only [go_sem, ↓reduceIte, zA, zB, zC, zD, zE, zF, reduceCtorEq, zG, zH, zI, zJ, zK, zL, zM, zN, zO, zP]
      have hs : p.1 = s := hE (by simpa using he)
      rw [hs]
      exact BackZ [8, 9] rfl (by simp [St.obj, objL]) (by simp [St.obj, objL, oneOr, St.get, getE, argR, argRs, rowsAt, LV.int, List.take_of_length_le])
    | false =>
      have he2 : p.2 = 0 := by simpa using he
      simp only [he, go_sem, ↓reduceIte, zA, zB, zC, zD, zE, zF, reduceCtorEq, zG, zH, zI, zJ, zK, zL, zM, zN, zO, zP]
      exact BackZ [4, 5] rfl (by simp [St.obj, objL]) (by simp [St.obj, objL, oneOr, St.get, getE, argR, argRs, rowsAt, LV.int, List.take_of_length_le, he2])
  · have hd : deedD c s o = unholdD s o := by simp only [deedD, hk, Int.reduceEq, if_true, if_false]
    have hE : ErrSame s (unholdD s o) := hd ▸ deed_err c s o
    rw [app_job hr ho (by rw [hk]; rfl) (by rw [hk]; rfl), hd]
    have hx : (deedsL.drop 33).take 3 = [.d (.fn (.func 81) [] []), .bool true, .bool false] := rfl
    simp only [hk, hx, go_sem, ↓reduceIte, zA, zB, zC, zD, zE, zF, reduceCtorEq, zG, zH, zI, zJ, zK, zL, zM, zN, zO, zP]
    refine W_opsD_end rfl ?_
    simp only [go_sem, ↓reduceIte, zA, zB, zC, zD, zE, zF, reduceCtorEq, zG, zH, zI, zJ, zK, zL, zM, zN, zO, zP]
    by_cases hq : o.a < 1 ∨ (s.jobs.length : Int) < o.a
    · rw [if_pos hq]
      refine WG_split (fun h1 => ?_) (fun h1 => ?_) <;> simp only [h1, go_sem, ↓reduceIte, zA, zB, zC, zD, zE, zF, reduceCtorEq, zG, zH, zI, zJ, zK, zL, zM, zN, zO, zP] <;> (try simp only [beq_iff_eq, beq_eq_false_iff_ne, bne_iff_ne, ne_eq, decide_eq_true_eq, decide_eq_false_iff_not, Bool.not_true, Bool.not_false, Bool.not_eq_true, Bool.not_eq_false, bne_eq_false_iff_eq, Decidable.not_not] at h1)
      · refine WC_split (fun h2 => ?_) (fun h2 => ?_) <;> simp only [h2, go_sem, ↓reduceIte, zA, zB, zC, zD, zE, zF, reduceCtorEq, zG, zH, zI, zJ, zK, zL, zM, zN, zO, zP] <;> (try simp only [beq_iff_eq, beq_eq_false_iff_ne, bne_iff_ne, ne_eq, decide_eq_true_eq, decide_eq_false_iff_not, Bool.not_true, Bool.not_false, Bool.not_eq_true, Bool.not_eq_false, bne_eq_false_iff_eq, Decidable.not_not] at h2)
        · exact BackZ [4, 5] rfl (by simp [St.obj, objL]) (by simp [St.obj, objL, oneOr, St.get, getE, argR, argRs, rowsAt, LV.int, List.take_of_length_le])
        · omega
      · exact BackZ [4, 5] rfl (by simp [St.obj, objL]) (by simp [St.obj, objL, oneOr, St.get, getE, argR, argRs, rowsAt, LV.int, List.take_of_length_le])
    rw [if_neg hq]
    have q1 : decide (o.a < 1) = false := by simp; omega
    have q2 : decide (o.a > (s.jobs.length : Int)) = false := by simp; omega
    have hw : IntKind.i64.wrap (o.a - 1) = o.a - 1 := wrap_in (by omega) (by omega)
    have q3 : 0 ≤ o.a - 1 := by omega
    obtain ⟨k, hkq⟩ : ∃ k : Nat, (o.a - 1).toNat = k := ⟨_, rfl⟩
    have hkl : k < s.jobs.length := by omega
    have hka2 : o.a = k + 1 := by omega
    have hJ : jobA s o.a = joA s k := by unfold jobA joA; rw [hkq]
    simp only [q1, q2, q3, hw, hkq, hkl, go_sem, ↓reduceIte, zA, zB, zC, zD, zE, zF, reduceCtorEq, zG, zH, zI, zJ, zK, zL, zM, zN, zO, zP]
    refine W_opsD_end rfl ?_
    simp only [go_sem, ↓reduceIte, zA, zB, zC, zD, zE, zF, reduceCtorEq, zG, zH, zI, zJ, zK, zL, zM, zN, zO, zP]
    refine W_callo [6, 4, 5] (unhold_tri c s o k hkl hka2 (by omega) (by omega)) rfl (by simp only [argRs, argR, List.map_cons, List.map_nil, go_sem, ↓reduceIte, zA, zB, zC, zD, zE, zF, reduceCtorEq, zG, zH, zI, zJ, zK, zL, zM, zN, zO, zP, workO, hk]) (by decide) (by simp only [go_sem, ↓reduceIte, zA, zB, zC, zD, zE, zF, reduceCtorEq, zG, zH, zI, zJ, zK, zL, zM, zN, zO, zP, workO, hk]) (by simp only [go_sem, ↓reduceIte, zA, zB, zC, zD, zE, zF, reduceCtorEq, zG, zH, zI, zJ, zK, zL, zM, zN, zO, zP, List.all_cons, List.all_nil, workO, hk]) (by simp) ?_; simp only [go_sem, ↓reduceIte, zA, zB, zC, zD, zE, zF, reduceCtorEq, zG, zH, zI, zJ, zK, zL, zM, zN, zO, zP, workO, hk]
    generalize unholdD s o = p at *
    cases he : (p.2 != 0) with
    | true =>
      simp only [he, go_sem, ↓reduceIte, zA, zB, zC, zD, zE, zF, reduceCtorEq, zG, zH, zI, zJ, zK, zL, zM, zN, zO, zP]
      refine W_calln (copy_tri s (by omega) (by omega)) rfl rfl rfl ?_
      simp only [go_sem, ↓reduceIte, zA, zB, zC, zD, zE, zF, reduceCtorEq, zG, zH, zI, zJ, zK, zL, zM, zN, zO, zP]
      have hs : p.1 = s := hE (by simpa using he)
      rw [hs]
      exact BackZ [8, 9] rfl (by simp [St.obj, objL]) (by simp [St.obj, objL, oneOr, St.get, getE, argR, argRs, rowsAt, LV.int, List.take_of_length_le])
    | false =>
      have he2 : p.2 = 0 := by simpa using he
      simp only [he, go_sem, ↓reduceIte, zA, zB, zC, zD, zE, zF, reduceCtorEq, zG, zH, zI, zJ, zK, zL, zM, zN, zO, zP]
      exact BackZ [4, 5] rfl (by simp [St.obj, objL]) (by simp [St.obj, objL, oneOr, St.get, getE, argR, argRs, rowsAt, LV.int, List.take_of_length_le, he2])
  · have hd : deedD c s o = drainD c s o := by simp only [deedD, hk, Int.reduceEq, if_true, if_false]
    have hE : ErrSame s (drainD c s o) := hd ▸ deed_err c s o
    rw [app_job hr ho (by rw [hk]; rfl) (by rw [hk]; rfl), hd]
    have hx : (deedsL.drop 36).take 3 = [.d (.fn (.func 82) [] []), .bool true, .bool false] := rfl
    simp only [hk, hx, go_sem, ↓reduceIte, zA, zB, zC, zD, zE, zF, reduceCtorEq, zG, zH, zI, zJ, zK, zL, zM, zN, zO, zP]
    refine W_opsD_end rfl ?_
    simp only [go_sem, ↓reduceIte, zA, zB, zC, zD, zE, zF, reduceCtorEq, zG, zH, zI, zJ, zK, zL, zM, zN, zO, zP]
    by_cases hq : o.a < 1 ∨ (s.jobs.length : Int) < o.a
    · rw [if_pos hq]
      refine WG_split (fun h1 => ?_) (fun h1 => ?_) <;> simp only [h1, go_sem, ↓reduceIte, zA, zB, zC, zD, zE, zF, reduceCtorEq, zG, zH, zI, zJ, zK, zL, zM, zN, zO, zP] <;> (try simp only [beq_iff_eq, beq_eq_false_iff_ne, bne_iff_ne, ne_eq, decide_eq_true_eq, decide_eq_false_iff_not, Bool.not_true, Bool.not_false, Bool.not_eq_true, Bool.not_eq_false, bne_eq_false_iff_eq, Decidable.not_not] at h1)
      · refine WC_split (fun h2 => ?_) (fun h2 => ?_) <;> simp only [h2, go_sem, ↓reduceIte, zA, zB, zC, zD, zE, zF, reduceCtorEq, zG, zH, zI, zJ, zK, zL, zM, zN, zO, zP] <;> (try simp only [beq_iff_eq, beq_eq_false_iff_ne, bne_iff_ne, ne_eq, decide_eq_true_eq, decide_eq_false_iff_not, Bool.not_true, Bool.not_false, Bool.not_eq_true, Bool.not_eq_false, bne_eq_false_iff_eq, Decidable.not_not] at h2)
        · exact BackZ [4, 5] rfl (by simp [St.obj, objL]) (by simp [St.obj, objL, oneOr, St.get, getE, argR, argRs, rowsAt, LV.int, List.take_of_length_le])
        · omega
      · exact BackZ [4, 5] rfl (by simp [St.obj, objL]) (by simp [St.obj, objL, oneOr, St.get, getE, argR, argRs, rowsAt, LV.int, List.take_of_length_le])
    rw [if_neg hq]
    have q1 : decide (o.a < 1) = false := by simp; omega
    have q2 : decide (o.a > (s.jobs.length : Int)) = false := by simp; omega
    have hw : IntKind.i64.wrap (o.a - 1) = o.a - 1 := wrap_in (by omega) (by omega)
    have q3 : 0 ≤ o.a - 1 := by omega
    obtain ⟨k, hkq⟩ : ∃ k : Nat, (o.a - 1).toNat = k := ⟨_, rfl⟩
    have hkl : k < s.jobs.length := by omega
    have hka2 : o.a = k + 1 := by omega
    have hJ : jobA s o.a = joA s k := by unfold jobA joA; rw [hkq]
    simp only [q1, q2, q3, hw, hkq, hkl, go_sem, ↓reduceIte, zA, zB, zC, zD, zE, zF, reduceCtorEq, zG, zH, zI, zJ, zK, zL, zM, zN, zO, zP]
    refine W_opsD_end rfl ?_
    simp only [go_sem, ↓reduceIte, zA, zB, zC, zD, zE, zF, reduceCtorEq, zG, zH, zI, zJ, zK, zL, zM, zN, zO, zP]
    refine W_callo [6, 4, 5] (drain_tri9 c s o k hkl hka2 (by omega)) rfl (by simp only [argRs, argR, List.map_cons, List.map_nil, go_sem, ↓reduceIte, zA, zB, zC, zD, zE, zF, reduceCtorEq, zG, zH, zI, zJ, zK, zL, zM, zN, zO, zP, workO, hk]) (by decide) (by simp only [go_sem, ↓reduceIte, zA, zB, zC, zD, zE, zF, reduceCtorEq, zG, zH, zI, zJ, zK, zL, zM, zN, zO, zP, workO, hk]) (by simp only [go_sem, ↓reduceIte, zA, zB, zC, zD, zE, zF, reduceCtorEq, zG, zH, zI, zJ, zK, zL, zM, zN, zO, zP, List.all_cons, List.all_nil, workO, hk]) (by simp) ?_; simp only [go_sem, ↓reduceIte, zA, zB, zC, zD, zE, zF, reduceCtorEq, zG, zH, zI, zJ, zK, zL, zM, zN, zO, zP, workO, hk]
    generalize drainD c s o = p at *
    cases he : (p.2 != 0) with
    | true =>
      simp only [he, go_sem, ↓reduceIte, zA, zB, zC, zD, zE, zF, reduceCtorEq, zG, zH, zI, zJ, zK, zL, zM, zN, zO, zP]
      refine W_calln (copy_tri s (by omega) (by omega)) rfl rfl rfl ?_
      simp only [go_sem, ↓reduceIte, zA, zB, zC, zD, zE, zF, reduceCtorEq, zG, zH, zI, zJ, zK, zL, zM, zN, zO, zP]
      have hs : p.1 = s := hE (by simpa using he)
      rw [hs]
      exact BackZ [8, 9] rfl (by simp [St.obj, objL]) (by simp [St.obj, objL, oneOr, St.get, getE, argR, argRs, rowsAt, LV.int, List.take_of_length_le])
    | false =>
      have he2 : p.2 = 0 := by simpa using he
      simp only [he, go_sem, ↓reduceIte, zA, zB, zC, zD, zE, zF, reduceCtorEq, zG, zH, zI, zJ, zK, zL, zM, zN, zO, zP]
      exact BackZ [4, 5] rfl (by simp [St.obj, objL]) (by simp [St.obj, objL, oneOr, St.get, getE, argR, argRs, rowsAt, LV.int, List.take_of_length_le, he2])
  · have hd : deedD c s o = savedD s o := by simp only [deedD, hk, Int.reduceEq, if_true, if_false]
    have hE : ErrSame s (savedD s o) := hd ▸ deed_err c s o
    rw [app_job hr ho (by rw [hk]; rfl) (by rw [hk]; rfl), hd]
    have hx : (deedsL.drop 39).take 3 = [.d (.fn (.func 83) [] []), .bool true, .bool false] := rfl
    simp only [hk, hx, go_sem, ↓reduceIte, zA, zB, zC, zD, zE, zF, reduceCtorEq, zG, zH, zI, zJ, zK, zL, zM, zN, zO, zP]
    refine W_opsD_end rfl ?_
    simp only [go_sem, ↓reduceIte, zA, zB, zC, zD, zE, zF, reduceCtorEq, zG, zH, zI, zJ, zK, zL, zM, zN, zO, zP]
    by_cases hq : o.a < 1 ∨ (s.jobs.length : Int) < o.a
    · rw [if_pos hq]
      refine WG_split (fun h1 => ?_) (fun h1 => ?_) <;> simp only [h1, go_sem, ↓reduceIte, zA, zB, zC, zD, zE, zF, reduceCtorEq, zG, zH, zI, zJ, zK, zL, zM, zN, zO, zP] <;> (try simp only [beq_iff_eq, beq_eq_false_iff_ne, bne_iff_ne, ne_eq, decide_eq_true_eq, decide_eq_false_iff_not, Bool.not_true, Bool.not_false, Bool.not_eq_true, Bool.not_eq_false, bne_eq_false_iff_eq, Decidable.not_not] at h1)
      · refine WC_split (fun h2 => ?_) (fun h2 => ?_) <;> simp only [h2, go_sem, ↓reduceIte, zA, zB, zC, zD, zE, zF, reduceCtorEq, zG, zH, zI, zJ, zK, zL, zM, zN, zO, zP] <;> (try simp only [beq_iff_eq, beq_eq_false_iff_ne, bne_iff_ne, ne_eq, decide_eq_true_eq, decide_eq_false_iff_not, Bool.not_true, Bool.not_false, Bool.not_eq_true, Bool.not_eq_false, bne_eq_false_iff_eq, Decidable.not_not] at h2)
        · exact BackZ [4, 5] rfl (by simp [St.obj, objL]) (by simp [St.obj, objL, oneOr, St.get, getE, argR, argRs, rowsAt, LV.int, List.take_of_length_le])
        · omega
      · exact BackZ [4, 5] rfl (by simp [St.obj, objL]) (by simp [St.obj, objL, oneOr, St.get, getE, argR, argRs, rowsAt, LV.int, List.take_of_length_le])
    rw [if_neg hq]
    have q1 : decide (o.a < 1) = false := by simp; omega
    have q2 : decide (o.a > (s.jobs.length : Int)) = false := by simp; omega
    have hw : IntKind.i64.wrap (o.a - 1) = o.a - 1 := wrap_in (by omega) (by omega)
    have q3 : 0 ≤ o.a - 1 := by omega
    obtain ⟨k, hkq⟩ : ∃ k : Nat, (o.a - 1).toNat = k := ⟨_, rfl⟩
    have hkl : k < s.jobs.length := by omega
    have hka2 : o.a = k + 1 := by omega
    have hJ : jobA s o.a = joA s k := by unfold jobA joA; rw [hkq]
    simp only [q1, q2, q3, hw, hkq, hkl, go_sem, ↓reduceIte, zA, zB, zC, zD, zE, zF, reduceCtorEq, zG, zH, zI, zJ, zK, zL, zM, zN, zO, zP]
    refine W_opsD_end rfl ?_
    simp only [go_sem, ↓reduceIte, zA, zB, zC, zD, zE, zF, reduceCtorEq, zG, zH, zI, zJ, zK, zL, zM, zN, zO, zP]
    refine W_callo [6, 4, 5] (saved_tri c s o k hkl hka2) rfl (by simp only [argRs, argR, List.map_cons, List.map_nil, go_sem, ↓reduceIte, zA, zB, zC, zD, zE, zF, reduceCtorEq, zG, zH, zI, zJ, zK, zL, zM, zN, zO, zP, workO, hk]) (by decide) (by simp only [go_sem, ↓reduceIte, zA, zB, zC, zD, zE, zF, reduceCtorEq, zG, zH, zI, zJ, zK, zL, zM, zN, zO, zP, workO, hk]) (by simp only [go_sem, ↓reduceIte, zA, zB, zC, zD, zE, zF, reduceCtorEq, zG, zH, zI, zJ, zK, zL, zM, zN, zO, zP, List.all_cons, List.all_nil, workO, hk]) (by simp) ?_; simp only [go_sem, ↓reduceIte, zA, zB, zC, zD, zE, zF, reduceCtorEq, zG, zH, zI, zJ, zK, zL, zM, zN, zO, zP, workO, hk]
    generalize savedD s o = p at *
    cases he : (p.2 != 0) with
    | true =>
      simp only [he, go_sem, ↓reduceIte, zA, zB, zC, zD, zE, zF, reduceCtorEq, zG, zH, zI, zJ, zK, zL, zM, zN, zO, zP]
      refine W_calln (copy_tri s (by omega) (by omega)) rfl rfl rfl ?_
      simp only [go_sem, ↓reduceIte, zA, zB, zC, zD, zE, zF, reduceCtorEq, zG, zH, zI, zJ, zK, zL, zM, zN, zO, zP]
      have hs : p.1 = s := hE (by simpa using he)
      rw [hs]
      exact BackZ [8, 9] rfl (by simp [St.obj, objL]) (by simp [St.obj, objL, oneOr, St.get, getE, argR, argRs, rowsAt, LV.int, List.take_of_length_le])
    | false =>
      have he2 : p.2 = 0 := by simpa using he
      simp only [he, go_sem, ↓reduceIte, zA, zB, zC, zD, zE, zF, reduceCtorEq, zG, zH, zI, zJ, zK, zL, zM, zN, zO, zP]
      exact BackZ [4, 5] rfl (by simp [St.obj, objL]) (by simp [St.obj, objL, oneOr, St.get, getE, argR, argRs, rowsAt, LV.int, List.take_of_length_le, he2])
  · have hd : deedD c s o = evictD s o := by simp only [deedD, hk, Int.reduceEq, if_true, if_false]
    have hE : ErrSame s (evictD s o) := hd ▸ deed_err c s o
    rw [app_job hr ho (by rw [hk]; rfl) (by rw [hk]; rfl), hd]
    have hx : (deedsL.drop 42).take 3 = [.d (.fn (.func 84) [] []), .bool true, .bool false] := rfl
    simp only [hk, hx, go_sem, ↓reduceIte, zA, zB, zC, zD, zE, zF, reduceCtorEq, zG, zH, zI, zJ, zK, zL, zM, zN, zO, zP]
    refine W_opsD_end rfl ?_
    simp only [go_sem, ↓reduceIte, zA, zB, zC, zD, zE, zF, reduceCtorEq, zG, zH, zI, zJ, zK, zL, zM, zN, zO, zP]
    by_cases hq : o.a < 1 ∨ (s.jobs.length : Int) < o.a
    · rw [if_pos hq]
      refine WG_split (fun h1 => ?_) (fun h1 => ?_) <;> simp only [h1, go_sem, ↓reduceIte, zA, zB, zC, zD, zE, zF, reduceCtorEq, zG, zH, zI, zJ, zK, zL, zM, zN, zO, zP] <;> (try simp only [beq_iff_eq, beq_eq_false_iff_ne, bne_iff_ne, ne_eq, decide_eq_true_eq, decide_eq_false_iff_not, Bool.not_true, Bool.not_false, Bool.not_eq_true, Bool.not_eq_false, bne_eq_false_iff_eq, Decidable.not_not] at h1)
      · refine WC_split (fun h2 => ?_) (fun h2 => ?_) <;> simp only [h2, go_sem, ↓reduceIte, zA, zB, zC, zD, zE, zF, reduceCtorEq, zG, zH, zI, zJ, zK, zL, zM, zN, zO, zP] <;> (try simp only [beq_iff_eq, beq_eq_false_iff_ne, bne_iff_ne, ne_eq, decide_eq_true_eq, decide_eq_false_iff_not, Bool.not_true, Bool.not_false, Bool.not_eq_true, Bool.not_eq_false, bne_eq_false_iff_eq, Decidable.not_not] at h2)
        · exact BackZ [4, 5] rfl (by simp [St.obj, objL]) (by simp [St.obj, objL, oneOr, St.get, getE, argR, argRs, rowsAt, LV.int, List.take_of_length_le])
        · omega
      · exact BackZ [4, 5] rfl (by simp [St.obj, objL]) (by simp [St.obj, objL, oneOr, St.get, getE, argR, argRs, rowsAt, LV.int, List.take_of_length_le])
    rw [if_neg hq]
    have q1 : decide (o.a < 1) = false := by simp; omega
    have q2 : decide (o.a > (s.jobs.length : Int)) = false := by simp; omega
    have hw : IntKind.i64.wrap (o.a - 1) = o.a - 1 := wrap_in (by omega) (by omega)
    have q3 : 0 ≤ o.a - 1 := by omega
    obtain ⟨k, hkq⟩ : ∃ k : Nat, (o.a - 1).toNat = k := ⟨_, rfl⟩
    have hkl : k < s.jobs.length := by omega
    have hka2 : o.a = k + 1 := by omega
    have hJ : jobA s o.a = joA s k := by unfold jobA joA; rw [hkq]
    simp only [q1, q2, q3, hw, hkq, hkl, go_sem, ↓reduceIte, zA, zB, zC, zD, zE, zF, reduceCtorEq, zG, zH, zI, zJ, zK, zL, zM, zN, zO, zP]
    refine W_opsD_end rfl ?_
    simp only [go_sem, ↓reduceIte, zA, zB, zC, zD, zE, zF, reduceCtorEq, zG, zH, zI, zJ, zK, zL, zM, zN, zO, zP]
    refine W_callo [6, 4, 5] (evict_tri c s o k hkl hka2 (by omega) (by omega)) rfl (by simp only [argRs, argR, List.map_cons, List.map_nil, go_sem, ↓reduceIte, zA, zB, zC, zD, zE, zF, reduceCtorEq, zG, zH, zI, zJ, zK, zL, zM, zN, zO, zP, workO, hk]) (by decide) (by simp only [go_sem, ↓reduceIte, zA, zB, zC, zD, zE, zF, reduceCtorEq, zG, zH, zI, zJ, zK, zL, zM, zN, zO, zP, workO, hk]) (by simp only [go_sem, ↓reduceIte, zA, zB, zC, zD, zE, zF, reduceCtorEq, zG, zH, zI, zJ, zK, zL, zM, zN, zO, zP, List.all_cons, List.all_nil, workO, hk]) (by simp) ?_; simp only [go_sem, ↓reduceIte, zA, zB, zC, zD, zE, zF, reduceCtorEq, zG, zH, zI, zJ, zK, zL, zM, zN, zO, zP, workO, hk]
    generalize evictD s o = p at *
    cases he : (p.2 != 0) with
    | true =>
      simp only [he, go_sem, ↓reduceIte, zA, zB, zC, zD, zE, zF, reduceCtorEq, zG, zH, zI, zJ, zK, zL, zM, zN, zO, zP]
      refine W_calln (copy_tri s (by omega) (by omega)) rfl rfl rfl ?_
      simp only [go_sem, ↓reduceIte, zA, zB, zC, zD, zE, zF, reduceCtorEq, zG, zH, zI, zJ, zK, zL, zM, zN, zO, zP]
      have hs : p.1 = s := hE (by simpa using he)
      rw [hs]
      exact BackZ [8, 9] rfl (by simp [St.obj, objL]) (by simp [St.obj, objL, oneOr, St.get, getE, argR, argRs, rowsAt, LV.int, List.take_of_length_le])
    | false =>
      have he2 : p.2 = 0 := by simpa using he
      simp only [he, go_sem, ↓reduceIte, zA, zB, zC, zD, zE, zF, reduceCtorEq, zG, zH, zI, zJ, zK, zL, zM, zN, zO, zP]
      exact BackZ [4, 5] rfl (by simp [St.obj, objL]) (by simp [St.obj, objL, oneOr, St.get, getE, argR, argRs, rowsAt, LV.int, List.take_of_length_le, he2])
  · have hd : deedD c s o = doneD s o := by simp only [deedD, hk, Int.reduceEq, if_true, if_false]
    have hE : ErrSame s (doneD s o) := hd ▸ deed_err c s o
    rw [app_job hr ho (by rw [hk]; rfl) (by rw [hk]; rfl), hd]
    have hx : (deedsL.drop 45).take 3 = [.d (.fn (.func 85) [] []), .bool true, .bool false] := rfl
    simp only [hk, hx, go_sem, ↓reduceIte, zA, zB, zC, zD, zE, zF, reduceCtorEq, zG, zH, zI, zJ, zK, zL, zM, zN, zO, zP]
    refine W_opsD_end rfl ?_
    simp only [go_sem, ↓reduceIte, zA, zB, zC, zD, zE, zF, reduceCtorEq, zG, zH, zI, zJ, zK, zL, zM, zN, zO, zP]
    by_cases hq : o.a < 1 ∨ (s.jobs.length : Int) < o.a
    · rw [if_pos hq]
      refine WG_split (fun h1 => ?_) (fun h1 => ?_) <;> simp only [h1, go_sem, ↓reduceIte, zA, zB, zC, zD, zE, zF, reduceCtorEq, zG, zH, zI, zJ, zK, zL, zM, zN, zO, zP] <;> (try simp only [beq_iff_eq, beq_eq_false_iff_ne, bne_iff_ne, ne_eq, decide_eq_true_eq, decide_eq_false_iff_not, Bool.not_true, Bool.not_false, Bool.not_eq_true, Bool.not_eq_false, bne_eq_false_iff_eq, Decidable.not_not] at h1)
      · refine WC_split (fun h2 => ?_) (fun h2 => ?_) <;> simp only [h2, go_sem, ↓reduceIte, zA, zB, zC, zD, zE, zF, reduceCtorEq, zG, zH, zI, zJ, zK, zL, zM, zN, zO, zP] <;> (try simp only [beq_iff_eq, beq_eq_false_iff_ne, bne_iff_ne, ne_eq, decide_eq_true_eq, decide_eq_false_iff_not, Bool.not_true, Bool.not_false, Bool.not_eq_true, Bool.not_eq_false, bne_eq_false_iff_eq, Decidable.not_not] at h2)
        · exact BackZ [4, 5] rfl (by simp [St.obj, objL]) (by simp [St.obj, objL, oneOr, St.get, getE, argR, argRs, rowsAt, LV.int, List.take_of_length_le])
        · omega
      · exact BackZ [4, 5] rfl (by simp [St.obj, objL]) (by simp [St.obj, objL, oneOr, St.get, getE, argR, argRs, rowsAt, LV.int, List.take_of_length_le])
    rw [if_neg hq]
    have q1 : decide (o.a < 1) = false := by simp; omega
    have q2 : decide (o.a > (s.jobs.length : Int)) = false := by simp; omega
    have hw : IntKind.i64.wrap (o.a - 1) = o.a - 1 := wrap_in (by omega) (by omega)
    have q3 : 0 ≤ o.a - 1 := by omega
    obtain ⟨k, hkq⟩ : ∃ k : Nat, (o.a - 1).toNat = k := ⟨_, rfl⟩
    have hkl : k < s.jobs.length := by omega
    have hka2 : o.a = k + 1 := by omega
    have hJ : jobA s o.a = joA s k := by unfold jobA joA; rw [hkq]
    simp only [q1, q2, q3, hw, hkq, hkl, go_sem, ↓reduceIte, zA, zB, zC, zD, zE, zF, reduceCtorEq, zG, zH, zI, zJ, zK, zL, zM, zN, zO, zP]
    refine W_opsD_end rfl ?_
    simp only [go_sem, ↓reduceIte, zA, zB, zC, zD, zE, zF, reduceCtorEq, zG, zH, zI, zJ, zK, zL, zM, zN, zO, zP]
    refine W_callo [6, 4, 5] (done_tri9 c s o k hkl hka2 (by omega) (by omega)) rfl (by simp only [argRs, argR, List.map_cons, List.map_nil, go_sem, ↓reduceIte, zA, zB, zC, zD, zE, zF, reduceCtorEq, zG, zH, zI, zJ, zK, zL, zM, zN, zO, zP, workO, hk]) (by decide) (by simp only [go_sem, ↓reduceIte, zA, zB, zC, zD, zE, zF, reduceCtorEq, zG, zH, zI, zJ, zK, zL, zM, zN, zO, zP, workO, hk]) (by simp only [go_sem, ↓reduceIte, zA, zB, zC, zD, zE, zF, reduceCtorEq, zG, zH, zI, zJ, zK, zL, zM, zN, zO, zP, List.all_cons, List.all_nil, workO, hk]) (by simp) ?_; simp only [go_sem, ↓reduceIte, zA, zB, zC, zD, zE, zF, reduceCtorEq, zG, zH, zI, zJ, zK, zL, zM, zN, zO, zP, workO, hk]
    generalize doneD s o = p at *
    cases he : (p.2 != 0) with
    | true =>
      simp only [he, go_sem, ↓reduceIte, zA, zB, zC, zD, zE, zF, reduceCtorEq, zG, zH, zI, zJ, zK, zL, zM, zN, zO, zP]
      refine W_calln (copy_tri s (by omega) (by omega)) rfl rfl rfl ?_
      simp only [go_sem, ↓reduceIte, zA, zB, zC, zD, zE, zF, reduceCtorEq, zG, zH, zI, zJ, zK, zL, zM, zN, zO, zP]
      have hs : p.1 = s := hE (by simpa using he)
      rw [hs]
      exact BackZ [8, 9] rfl (by simp [St.obj, objL]) (by simp [St.obj, objL, oneOr, St.get, getE, argR, argRs, rowsAt, LV.int, List.take_of_length_le])
    | false =>
      have he2 : p.2 = 0 := by simpa using he
      simp only [he, go_sem, ↓reduceIte, zA, zB, zC, zD, zE, zF, reduceCtorEq, zG, zH, zI, zJ, zK, zL, zM, zN, zO, zP]
      exact BackZ [4, 5] rfl (by simp [St.obj, objL]) (by simp [St.obj, objL, oneOr, St.get, getE, argR, argRs, rowsAt, LV.int, List.take_of_length_le, he2])
  · have hd : deedD c s o = cordonD s o := by simp only [deedD, hk, Int.reduceEq, if_true, if_false]
    have hE : ErrSame s (cordonD s o) := hd ▸ deed_err c s o
    rw [app_node hr ho (by rw [hk]; rfl) (by rw [hk]; rfl), hd]
    have hx : (deedsL.drop 48).take 3 = [.d (.fn (.func 86) [] []), .bool false, .bool true] := rfl
    simp only [hk, hx, go_sem, ↓reduceIte, zA, zB, zC, zD, zE, zF, reduceCtorEq, zG, zH, zI, zJ, zK, zL, zM, zN, zO, zP]
    refine W_opsD_end rfl ?_
    simp only [go_sem, ↓reduceIte, zA, zB, zC, zD, zE, zF, reduceCtorEq, zG, zH, zI, zJ, zK, zL, zM, zN, zO, zP]
    by_cases hq : (s.nodes.length : Int) ≤ o.a
    · rw [if_pos hq]
      have q1 : decide (o.a ≥ (s.nodes.length : Int)) = true := by simpa using hq
      simp only [q1, go_sem, ↓reduceIte, zA, zB, zC, zD, zE, zF, reduceCtorEq, zG, zH, zI, zJ, zK, zL, zM, zN, zO, zP]
      exact BackZ [4, 5] rfl (by simp [St.obj, objL]) (by simp [St.obj, objL, oneOr, St.get, getE, argR, argRs, rowsAt, LV.int, List.take_of_length_le])
    rw [if_neg hq]
    have q1 : decide (o.a ≥ (s.nodes.length : Int)) = false := by simp; omega
    have q3 : 0 ≤ o.a := hka.1
    obtain ⟨i, hiq⟩ : ∃ i : Nat, o.a.toNat = i := ⟨_, rfl⟩
    have hil : i < s.nodes.length := by omega
    have hia : o.a = i := by omega
    have hN : nodeA s o.a = noA s i := by unfold nodeA noA; rw [hiq]
    simp only [q1, q3, hiq, hil, go_sem, ↓reduceIte, zA, zB, zC, zD, zE, zF, reduceCtorEq, zG, zH, zI, zJ, zK, zL, zM, zN, zO, zP]
    refine W_opsD_end rfl ?_
    simp only [go_sem, ↓reduceIte, zA, zB, zC, zD, zE, zF, reduceCtorEq, zG, zH, zI, zJ, zK, zL, zM, zN, zO, zP]
    refine W_callo [6, 4, 5] (cordon_tri c s o i hil hia) rfl (by simp only [argRs, argR, List.map_cons, List.map_nil, go_sem, ↓reduceIte, zA, zB, zC, zD, zE, zF, reduceCtorEq, zG, zH, zI, zJ, zK, zL, zM, zN, zO, zP, workO, hk]) (by decide) (by simp only [go_sem, ↓reduceIte, zA, zB, zC, zD, zE, zF, reduceCtorEq, zG, zH, zI, zJ, zK, zL, zM, zN, zO, zP, workO, hk]) (by simp only [go_sem, ↓reduceIte, zA, zB, zC, zD, zE, zF, reduceCtorEq, zG, zH, zI, zJ, zK, zL, zM, zN, zO, zP, List.all_cons, List.all_nil, workO, hk]) (by simp) ?_; simp only [go_sem, ↓reduceIte, zA, zB, zC, zD, zE, zF, reduceCtorEq, zG, zH, zI, zJ, zK, zL, zM, zN, zO, zP, workO, hk]
    generalize cordonD s o = p at *
    cases he : (p.2 != 0) with
    | true =>
      simp only [he, go_sem, ↓reduceIte, zA, zB, zC, zD, zE, zF, reduceCtorEq, zG, zH, zI, zJ, zK, zL, zM, zN, zO, zP]
      refine W_calln (copy_tri s (by omega) (by omega)) rfl rfl rfl ?_
      simp only [go_sem, ↓reduceIte, zA, zB, zC, zD, zE, zF, reduceCtorEq, zG, zH, zI, zJ, zK, zL, zM, zN, zO, zP]
      have hs : p.1 = s := hE (by simpa using he)
      rw [hs]
      exact BackZ [8, 9] rfl (by simp [St.obj, objL]) (by simp [St.obj, objL, oneOr, St.get, getE, argR, argRs, rowsAt, LV.int, List.take_of_length_le])
    | false =>
      have he2 : p.2 = 0 := by simpa using he
      simp only [he, go_sem, ↓reduceIte, zA, zB, zC, zD, zE, zF, reduceCtorEq, zG, zH, zI, zJ, zK, zL, zM, zN, zO, zP]
      exact BackZ [4, 5] rfl (by simp [St.obj, objL]) (by simp [St.obj, objL, oneOr, St.get, getE, argR, argRs, rowsAt, LV.int, List.take_of_length_le, he2])
  · have hd : deedD c s o = uncordonD s o := by simp only [deedD, hk, Int.reduceEq, if_true, if_false]
    have hE : ErrSame s (uncordonD s o) := hd ▸ deed_err c s o
    rw [app_node hr ho (by rw [hk]; rfl) (by rw [hk]; rfl), hd]
    have hx : (deedsL.drop 51).take 3 = [.d (.fn (.func 87) [] []), .bool false, .bool true] := rfl
    simp only [hk, hx, go_sem, ↓reduceIte, zA, zB, zC, zD, zE, zF, reduceCtorEq, zG, zH, zI, zJ, zK, zL, zM, zN, zO, zP]
    refine W_opsD_end rfl ?_
    simp only [go_sem, ↓reduceIte, zA, zB, zC, zD, zE, zF, reduceCtorEq, zG, zH, zI, zJ, zK, zL, zM, zN, zO, zP]
    by_cases hq : (s.nodes.length : Int) ≤ o.a
    · rw [if_pos hq]
      have q1 : decide (o.a ≥ (s.nodes.length : Int)) = true := by simpa using hq
      simp only [q1, go_sem, ↓reduceIte, zA, zB, zC, zD, zE, zF, reduceCtorEq, zG, zH, zI, zJ, zK, zL, zM, zN, zO, zP]
      exact BackZ [4, 5] rfl (by simp [St.obj, objL]) (by simp [St.obj, objL, oneOr, St.get, getE, argR, argRs, rowsAt, LV.int, List.take_of_length_le])
    rw [if_neg hq]
    have q1 : decide (o.a ≥ (s.nodes.length : Int)) = false := by simp; omega
    have q3 : 0 ≤ o.a := hka.1
    obtain ⟨i, hiq⟩ : ∃ i : Nat, o.a.toNat = i := ⟨_, rfl⟩
    have hil : i < s.nodes.length := by omega
    have hia : o.a = i := by omega
    have hN : nodeA s o.a = noA s i := by unfold nodeA noA; rw [hiq]
    simp only [q1, q3, hiq, hil, go_sem, ↓reduceIte, zA, zB, zC, zD, zE, zF, reduceCtorEq, zG, zH, zI, zJ, zK, zL, zM, zN, zO, zP]
    refine W_opsD_end rfl ?_
    simp only [go_sem, ↓reduceIte, zA, zB, zC, zD, zE, zF, reduceCtorEq, zG, zH, zI, zJ, zK, zL, zM, zN, zO, zP]
    refine W_callo [6, 4, 5] (uncordon_tri c s o i hil hia) rfl (by simp only [argRs, argR, List.map_cons, List.map_nil, go_sem, ↓reduceIte, zA, zB, zC, zD, zE, zF, reduceCtorEq, zG, zH, zI, zJ, zK, zL, zM, zN, zO, zP, workO, hk]) (by decide) (by simp only [go_sem, ↓reduceIte, zA, zB, zC, zD, zE, zF, reduceCtorEq, zG, zH, zI, zJ, zK, zL, zM, zN, zO, zP, workO, hk]) (by simp only [go_sem, ↓reduceIte, zA, zB, zC, zD, zE, zF, reduceCtorEq, zG, zH, zI, zJ, zK, zL, zM, zN, zO, zP, List.all_cons, List.all_nil, workO, hk]) (by simp) ?_; simp only [go_sem, ↓reduceIte, zA, zB, zC, zD, zE, zF, reduceCtorEq, zG, zH, zI, zJ, zK, zL, zM, zN, zO, zP, workO, hk]
    generalize uncordonD s o = p at *
    cases he : (p.2 != 0) with
    | true =>
      simp only [he, go_sem, ↓reduceIte, zA, zB, zC, zD, zE, zF, reduceCtorEq, zG, zH, zI, zJ, zK, zL, zM, zN, zO, zP]
      refine W_calln (copy_tri s (by omega) (by omega)) rfl rfl rfl ?_
      simp only [go_sem, ↓reduceIte, zA, zB, zC, zD, zE, zF, reduceCtorEq, zG, zH, zI, zJ, zK, zL, zM, zN, zO, zP]
      have hs : p.1 = s := hE (by simpa using he)
      rw [hs]
      exact BackZ [8, 9] rfl (by simp [St.obj, objL]) (by simp [St.obj, objL, oneOr, St.get, getE, argR, argRs, rowsAt, LV.int, List.take_of_length_le])
    | false =>
      have he2 : p.2 = 0 := by simpa using he
      simp only [he, go_sem, ↓reduceIte, zA, zB, zC, zD, zE, zF, reduceCtorEq, zG, zH, zI, zJ, zK, zL, zM, zN, zO, zP]
      exact BackZ [4, 5] rfl (by simp [St.obj, objL]) (by simp [St.obj, objL, oneOr, St.get, getE, argR, argRs, rowsAt, LV.int, List.take_of_length_le, he2])
  · have hd : deedD c s o = moveD s o := by simp only [deedD, hk, Int.reduceEq, if_true, if_false]
    have hE : ErrSame s (moveD s o) := hd ▸ deed_err c s o
    rw [app_node hr ho (by rw [hk]; rfl) (by rw [hk]; rfl), hd]
    have hx : (deedsL.drop 54).take 3 = [.d (.fn (.func 88) [] []), .bool false, .bool true] := rfl
    simp only [hk, hx, go_sem, ↓reduceIte, zA, zB, zC, zD, zE, zF, reduceCtorEq, zG, zH, zI, zJ, zK, zL, zM, zN, zO, zP]
    refine W_opsD_end rfl ?_
    simp only [go_sem, ↓reduceIte, zA, zB, zC, zD, zE, zF, reduceCtorEq, zG, zH, zI, zJ, zK, zL, zM, zN, zO, zP]
    by_cases hq : (s.nodes.length : Int) ≤ o.a
    · rw [if_pos hq]
      have q1 : decide (o.a ≥ (s.nodes.length : Int)) = true := by simpa using hq
      simp only [q1, go_sem, ↓reduceIte, zA, zB, zC, zD, zE, zF, reduceCtorEq, zG, zH, zI, zJ, zK, zL, zM, zN, zO, zP]
      exact BackZ [4, 5] rfl (by simp [St.obj, objL]) (by simp [St.obj, objL, oneOr, St.get, getE, argR, argRs, rowsAt, LV.int, List.take_of_length_le])
    rw [if_neg hq]
    have q1 : decide (o.a ≥ (s.nodes.length : Int)) = false := by simp; omega
    have q3 : 0 ≤ o.a := hka.1
    obtain ⟨i, hiq⟩ : ∃ i : Nat, o.a.toNat = i := ⟨_, rfl⟩
    have hil : i < s.nodes.length := by omega
    have hia : o.a = i := by omega
    have hN : nodeA s o.a = noA s i := by unfold nodeA noA; rw [hiq]
    simp only [q1, q3, hiq, hil, go_sem, ↓reduceIte, zA, zB, zC, zD, zE, zF, reduceCtorEq, zG, zH, zI, zJ, zK, zL, zM, zN, zO, zP]
    refine W_opsD_end rfl ?_
    simp only [go_sem, ↓reduceIte, zA, zB, zC, zD, zE, zF, reduceCtorEq, zG, zH, zI, zJ, zK, zL, zM, zN, zO, zP]
    refine W_callo [6, 4, 5] (move_tri c s o i hil hia) rfl (by simp only [argRs, argR, List.map_cons, List.map_nil, go_sem, ↓reduceIte, zA, zB, zC, zD, zE, zF, reduceCtorEq, zG, zH, zI, zJ, zK, zL, zM, zN, zO, zP, workO, hk]) (by decide) (by simp only [go_sem, ↓reduceIte, zA, zB, zC, zD, zE, zF, reduceCtorEq, zG, zH, zI, zJ, zK, zL, zM, zN, zO, zP, workO, hk]) (by simp only [go_sem, ↓reduceIte, zA, zB, zC, zD, zE, zF, reduceCtorEq, zG, zH, zI, zJ, zK, zL, zM, zN, zO, zP, List.all_cons, List.all_nil, workO, hk]) (by simp) ?_; simp only [go_sem, ↓reduceIte, zA, zB, zC, zD, zE, zF, reduceCtorEq, zG, zH, zI, zJ, zK, zL, zM, zN, zO, zP, workO, hk]
    generalize moveD s o = p at *
    cases he : (p.2 != 0) with
    | true =>
      simp only [he, go_sem, ↓reduceIte, zA, zB, zC, zD, zE, zF, reduceCtorEq, zG, zH, zI, zJ, zK, zL, zM, zN, zO, zP]
      refine W_calln (copy_tri s (by omega) (by omega)) rfl rfl rfl ?_
      simp only [go_sem, ↓reduceIte, zA, zB, zC, zD, zE, zF, reduceCtorEq, zG, zH, zI, zJ, zK, zL, zM, zN, zO, zP]
      have hs : p.1 = s := hE (by simpa using he)
      rw [hs]
      exact BackZ [8, 9] rfl (by simp [St.obj, objL]) (by simp [St.obj, objL, oneOr, St.get, getE, argR, argRs, rowsAt, LV.int, List.take_of_length_le])
    | false =>
      have he2 : p.2 = 0 := by simpa using he
      simp only [he, go_sem, ↓reduceIte, zA, zB, zC, zD, zE, zF, reduceCtorEq, zG, zH, zI, zJ, zK, zL, zM, zN, zO, zP]
      exact BackZ [4, 5] rfl (by simp [St.obj, objL]) (by simp [St.obj, objL, oneOr, St.get, getE, argR, argRs, rowsAt, LV.int, List.take_of_length_le, he2])
  · have hd : deedD c s o = movedD s o := by simp only [deedD, hk, Int.reduceEq, if_true, if_false]
    have hE : ErrSame s (movedD s o) := hd ▸ deed_err c s o
    rw [app_node hr ho (by rw [hk]; rfl) (by rw [hk]; rfl), hd]
    have hx : (deedsL.drop 57).take 3 = [.d (.fn (.func 89) [] []), .bool false, .bool true] := rfl
    simp only [hk, hx, go_sem, ↓reduceIte, zA, zB, zC, zD, zE, zF, reduceCtorEq, zG, zH, zI, zJ, zK, zL, zM, zN, zO, zP]
    refine W_opsD_end rfl ?_
    simp only [go_sem, ↓reduceIte, zA, zB, zC, zD, zE, zF, reduceCtorEq, zG, zH, zI, zJ, zK, zL, zM, zN, zO, zP]
    by_cases hq : (s.nodes.length : Int) ≤ o.a
    · rw [if_pos hq]
      have q1 : decide (o.a ≥ (s.nodes.length : Int)) = true := by simpa using hq
      simp only [q1, go_sem, ↓reduceIte, zA, zB, zC, zD, zE, zF, reduceCtorEq, zG, zH, zI, zJ, zK, zL, zM, zN, zO, zP]
      exact BackZ [4, 5] rfl (by simp [St.obj, objL]) (by simp [St.obj, objL, oneOr, St.get, getE, argR, argRs, rowsAt, LV.int, List.take_of_length_le])
    rw [if_neg hq]
    have q1 : decide (o.a ≥ (s.nodes.length : Int)) = false := by simp; omega
    have q3 : 0 ≤ o.a := hka.1
    obtain ⟨i, hiq⟩ : ∃ i : Nat, o.a.toNat = i := ⟨_, rfl⟩
    have hil : i < s.nodes.length := by omega
    have hia : o.a = i := by omega
    have hN : nodeA s o.a = noA s i := by unfold nodeA noA; rw [hiq]
    simp only [q1, q3, hiq, hil, go_sem, ↓reduceIte, zA, zB, zC, zD, zE, zF, reduceCtorEq, zG, zH, zI, zJ, zK, zL, zM, zN, zO, zP]
    refine W_opsD_end rfl ?_
    simp only [go_sem, ↓reduceIte, zA, zB, zC, zD, zE, zF, reduceCtorEq, zG, zH, zI, zJ, zK, zL, zM, zN, zO, zP]
    refine W_callo [6, 4, 5] (moved_tri c s o i hil hia) rfl (by simp only [argRs, argR, List.map_cons, List.map_nil, go_sem, ↓reduceIte, zA, zB, zC, zD, zE, zF, reduceCtorEq, zG, zH, zI, zJ, zK, zL, zM, zN, zO, zP, workO, hk]) (by decide) (by simp only [go_sem, ↓reduceIte, zA, zB, zC, zD, zE, zF, reduceCtorEq, zG, zH, zI, zJ, zK, zL, zM, zN, zO, zP, workO, hk]) (by simp only [go_sem, ↓reduceIte, zA, zB, zC, zD, zE, zF, reduceCtorEq, zG, zH, zI, zJ, zK, zL, zM, zN, zO, zP, List.all_cons, List.all_nil, workO, hk]) (by simp) ?_; simp only [go_sem, ↓reduceIte, zA, zB, zC, zD, zE, zF, reduceCtorEq, zG, zH, zI, zJ, zK, zL, zM, zN, zO, zP, workO, hk]
    generalize movedD s o = p at *
    cases he : (p.2 != 0) with
    | true =>
      simp only [he, go_sem, ↓reduceIte, zA, zB, zC, zD, zE, zF, reduceCtorEq, zG, zH, zI, zJ, zK, zL, zM, zN, zO, zP]
      refine W_calln (copy_tri s (by omega) (by omega)) rfl rfl rfl ?_
      simp only [go_sem, ↓reduceIte, zA, zB, zC, zD, zE, zF, reduceCtorEq, zG, zH, zI, zJ, zK, zL, zM, zN, zO, zP]
      have hs : p.1 = s := hE (by simpa using he)
      rw [hs]
      exact BackZ [8, 9] rfl (by simp [St.obj, objL]) (by simp [St.obj, objL, oneOr, St.get, getE, argR, argRs, rowsAt, LV.int, List.take_of_length_le])
    | false =>
      have he2 : p.2 = 0 := by simpa using he
      simp only [he, go_sem, ↓reduceIte, zA, zB, zC, zD, zE, zF, reduceCtorEq, zG, zH, zI, zJ, zK, zL, zM, zN, zO, zP]
      exact BackZ [4, 5] rfl (by simp [St.obj, objL]) (by simp [St.obj, objL, oneOr, St.get, getE, argR, argRs, rowsAt, LV.int, List.take_of_length_le, he2])
  · have hd : deedD c s o = shrinkD s o := by simp only [deedD, hk, Int.reduceEq, if_true, if_false]
    have hE : ErrSame s (shrinkD s o) := hd ▸ deed_err c s o
    rw [app_job hr ho (by rw [hk]; rfl) (by rw [hk]; rfl), hd]
    have hx : (deedsL.drop 60).take 3 = [.d (.fn (.func 90) [] []), .bool true, .bool false] := rfl
    simp only [hk, hx, go_sem, ↓reduceIte, zA, zB, zC, zD, zE, zF, reduceCtorEq, zG, zH, zI, zJ, zK, zL, zM, zN, zO, zP]
    refine W_opsD_end rfl ?_
    simp only [go_sem, ↓reduceIte, zA, zB, zC, zD, zE, zF, reduceCtorEq, zG, zH, zI, zJ, zK, zL, zM, zN, zO, zP]
    by_cases hq : o.a < 1 ∨ (s.jobs.length : Int) < o.a
    · rw [if_pos hq]
      refine WG_split (fun h1 => ?_) (fun h1 => ?_) <;> simp only [h1, go_sem, ↓reduceIte, zA, zB, zC, zD, zE, zF, reduceCtorEq, zG, zH, zI, zJ, zK, zL, zM, zN, zO, zP] <;> (try simp only [beq_iff_eq, beq_eq_false_iff_ne, bne_iff_ne, ne_eq, decide_eq_true_eq, decide_eq_false_iff_not, Bool.not_true, Bool.not_false, Bool.not_eq_true, Bool.not_eq_false, bne_eq_false_iff_eq, Decidable.not_not] at h1)
      · refine WC_split (fun h2 => ?_) (fun h2 => ?_) <;> simp only [h2, go_sem, ↓reduceIte, zA, zB, zC, zD, zE, zF, reduceCtorEq, zG, zH, zI, zJ, zK, zL, zM, zN, zO, zP] <;> (try simp only [beq_iff_eq, beq_eq_false_iff_ne, bne_iff_ne, ne_eq, decide_eq_true_eq, decide_eq_false_iff_not, Bool.not_true, Bool.not_false, Bool.not_eq_true, Bool.not_eq_false, bne_eq_false_iff_eq, Decidable.not_not] at h2)
        · exact BackZ [4, 5] rfl (by simp [St.obj, objL]) (by simp [St.obj, objL, oneOr, St.get, getE, argR, argRs, rowsAt, LV.int, List.take_of_length_le])
        · omega
      · exact BackZ [4, 5] rfl (by simp [St.obj, objL]) (by simp [St.obj, objL, oneOr, St.get, getE, argR, argRs, rowsAt, LV.int, List.take_of_length_le])
    rw [if_neg hq]
    have q1 : decide (o.a < 1) = false := by simp; omega
    have q2 : decide (o.a > (s.jobs.length : Int)) = false := by simp; omega
    have hw : IntKind.i64.wrap (o.a - 1) = o.a - 1 := wrap_in (by omega) (by omega)
    have q3 : 0 ≤ o.a - 1 := by omega
    obtain ⟨k, hkq⟩ : ∃ k : Nat, (o.a - 1).toNat = k := ⟨_, rfl⟩
    have hkl : k < s.jobs.length := by omega
    have hka2 : o.a = k + 1 := by omega
    have hJ : jobA s o.a = joA s k := by unfold jobA joA; rw [hkq]
    simp only [q1, q2, q3, hw, hkq, hkl, go_sem, ↓reduceIte, zA, zB, zC, zD, zE, zF, reduceCtorEq, zG, zH, zI, zJ, zK, zL, zM, zN, zO, zP]
    refine W_opsD_end rfl ?_
    simp only [go_sem, ↓reduceIte, zA, zB, zC, zD, zE, zF, reduceCtorEq, zG, zH, zI, zJ, zK, zL, zM, zN, zO, zP]
    refine W_callo [6, 4, 5] (shrink_tri c s o k hkl hka2 (by omega) (by omega) (by omega) (by rw [hJ]; exact (right_ok hr).bits hkl)) rfl (by simp only [argRs, argR, List.map_cons, List.map_nil, go_sem, ↓reduceIte, zA, zB, zC, zD, zE, zF, reduceCtorEq, zG, zH, zI, zJ, zK, zL, zM, zN, zO, zP, workO, hk]) (by decide) (by simp only [go_sem, ↓reduceIte, zA, zB, zC, zD, zE, zF, reduceCtorEq, zG, zH, zI, zJ, zK, zL, zM, zN, zO, zP, workO, hk]) (by simp only [go_sem, ↓reduceIte, zA, zB, zC, zD, zE, zF, reduceCtorEq, zG, zH, zI, zJ, zK, zL, zM, zN, zO, zP, List.all_cons, List.all_nil, workO, hk]) (by simp) ?_; simp only [go_sem, ↓reduceIte, zA, zB, zC, zD, zE, zF, reduceCtorEq, zG, zH, zI, zJ, zK, zL, zM, zN, zO, zP, workO, hk]
    generalize shrinkD s o = p at *
    cases he : (p.2 != 0) with
    | true =>
      simp only [he, go_sem, ↓reduceIte, zA, zB, zC, zD, zE, zF, reduceCtorEq, zG, zH, zI, zJ, zK, zL, zM, zN, zO, zP]
      refine W_calln (copy_tri s (by omega) (by omega)) rfl rfl rfl ?_
      simp only [go_sem, ↓reduceIte, zA, zB, zC, zD, zE, zF, reduceCtorEq, zG, zH, zI, zJ, zK, zL, zM, zN, zO, zP]
      have hs : p.1 = s := hE (by simpa using he)
      rw [hs]
      exact BackZ [8, 9] rfl (by simp [St.obj, objL]) (by simp [St.obj, objL, oneOr, St.get, getE, argR, argRs, rowsAt, LV.int, List.take_of_length_le])
    | false =>
      have he2 : p.2 = 0 := by simpa using he
      simp only [he, go_sem, ↓reduceIte, zA, zB, zC, zD, zE, zF, reduceCtorEq, zG, zH, zI, zJ, zK, zL, zM, zN, zO, zP]
      exact BackZ [4, 5] rfl (by simp [St.obj, objL]) (by simp [St.obj, objL, oneOr, St.get, getE, argR, argRs, rowsAt, LV.int, List.take_of_length_le, he2])
  · have hd : deedD c s o = newtermD s := by simp only [deedD, hk, Int.reduceEq, if_true, if_false]
    have hE : ErrSame s (newtermD s) := hd ▸ deed_err c s o
    have hA : applyD c s o = newtermD s := by rw [app_none hr ho (by rw [hk]; rfl) (by rw [hk]; rfl), hd]
    rw [hA]
    have hx : (deedsL.drop 63).take 3 = [.d (.fn (.func 91) [] []), .bool false, .bool false] := rfl
    simp only [hk, hx, go_sem, ↓reduceIte, zA, zB, zC, zD, zE, zF, reduceCtorEq, zG, zH, zI, zJ, zK, zL, zM, zN, zO, zP]
    refine W_opsD_end rfl ?_
    simp only [go_sem, ↓reduceIte, zA, zB, zC, zD, zE, zF, reduceCtorEq, zG, zH, zI, zJ, zK, zL, zM, zN, zO, zP]
    refine W_callo [6, 4, 5] (newterm_tri c s o (by have := hp.term; omega) hp.term.1) rfl (by simp only [argRs, argR, List.map_cons, List.map_nil, go_sem, ↓reduceIte, zA, zB, zC, zD, zE, zF, reduceCtorEq, zG, zH, zI, zJ, zK, zL, zM, zN, zO, zP, workO, hk]) (by decide) (by simp only [go_sem, ↓reduceIte, zA, zB, zC, zD, zE, zF, reduceCtorEq, zG, zH, zI, zJ, zK, zL, zM, zN, zO, zP, workO, hk]) (by simp only [go_sem, ↓reduceIte, zA, zB, zC, zD, zE, zF, reduceCtorEq, zG, zH, zI, zJ, zK, zL, zM, zN, zO, zP, List.all_cons, List.all_nil, workO, hk]) (by simp) ?_; simp only [go_sem, ↓reduceIte, zA, zB, zC, zD, zE, zF, reduceCtorEq, zG, zH, zI, zJ, zK, zL, zM, zN, zO, zP, workO, hk]
    generalize newtermD s = p at *
    cases he : (p.2 != 0) with
    | true =>
      simp only [he, go_sem, ↓reduceIte, zA, zB, zC, zD, zE, zF, reduceCtorEq, zG, zH, zI, zJ, zK, zL, zM, zN, zO, zP]
      refine W_calln (copy_tri s (by omega) (by omega)) rfl rfl rfl ?_
      simp only [go_sem, ↓reduceIte, zA, zB, zC, zD, zE, zF, reduceCtorEq, zG, zH, zI, zJ, zK, zL, zM, zN, zO, zP]
      have hs : p.1 = s := hE (by simpa using he)
      rw [hs]
      exact BackZ [8, 9] rfl (by simp [St.obj, objL]) (by simp [St.obj, objL, oneOr, St.get, getE, argR, argRs, rowsAt, LV.int, List.take_of_length_le])
    | false =>
      have he2 : p.2 = 0 := by simpa using he
      simp only [he, go_sem, ↓reduceIte, zA, zB, zC, zD, zE, zF, reduceCtorEq, zG, zH, zI, zJ, zK, zL, zM, zN, zO, zP]
      exact BackZ [4, 5] rfl (by simp [St.obj, objL]) (by simp [St.obj, objL, oneOr, St.get, getE, argR, argRs, rowsAt, LV.int, List.take_of_length_le, he2])
end Dv
