/- The scripts' statements: the document's example; words. -/
import Derived.Test.YtcfcigjkijkhdaaDoorSE
set_option linter.unusedVariables false
set_option linter.unusedSimpArgs false
namespace Dv
open Go Go.Proofs
open Nat renaming reduceEqDiff → zA, reduceAdd → zB, reduceSub → zC, reduceMul → zD, reduceLT → zE, reduceLeDiff → zF
open Int renaming reduceLE → zG, reduceLT → zH, reduceToNat → zI, reduceBEq → zJ, reduceBNe → zK, reduceEq → zL, reduceAdd → zM, reduceSub → zN, reduceMul → zO, reduceNeg → zP
attribute [local go_sem] argEnv W_nil W_seq W_skip W_ret W_exit W_scope W_block W_blk W_reg W_regD W_cond WC_t WC_f WC_any Wx_c Wx_ops Wx_lp Wx_blk W_ops_nil W_opsD_q W_guard W_guardD WG_tt WG_ff WG_tf WG_ft WG_u WGD_tt WGD_ff WGD_tf WGD_ft WGD_u WE_some WED_some W_more W_mv W_pick W_new W_box W_build W_bsl W_ld1 W_ldn W_st W_nck W_bin W_eqb W_not W_cvt W_fad W_fld1 W_fldn W_ixa W_ixr W_ix1 W_ixs W_len W_lens W_mkf W_ext W_app W_min W_isnp W_isns W_eqs W_neg W_ixn W_sli W_sls WD_more WD_mv WD_pick WD_new WD_box WD_build WD_bsl WD_ld1 WD_ldn WD_st WD_nck WD_bin WD_eqb WD_not WD_cvt WD_fad WD_fld1 WD_fldn WD_ixa WD_ixr WD_ix1 WD_ixs WD_len WD_lens WD_mkf WD_ext WD_app WD_min WD_isnp WD_isns WD_eqs WD_neg WD_ixn WD_sli WD_sls effF effM bytesOf Opd.ev getE putE binV LV.int LV.bool LV.undef Go.undef LV.cells LV.toD LV.toDs splice fillL rowsOf boxOf srcRows updL objL Eff.owned nwp St.get St.obj St.put Value.oneCell' Ends adopt Ad.ap isNil St.keep St.okKeep okObj idl idlL idlO RVs.of RV.of oneOr Ends0 EndsO_iff frzs rn rnL rnO piOf eqCells eqV boundV Option.map_some Option.map_none List.append_nil List.nil_append List.cons_append List.map_nil List.map_cons List.length_nil List.length_cons List.set_cons_zero List.set_cons_succ List.take_succ_cons List.take_zero List.take_nil List.drop_succ_cons List.drop_zero List.drop_nil List.getElem?_cons_zero List.getElem?_cons_succ List.getElem?_nil List.isEmpty_nil List.isEmpty_cons List.all_cons List.all_nil List.isEmpty_nil cond_true cond_false Bool.true_and Bool.false_and Bool.and_true Bool.and_false Bool.not_true Bool.not_false Bool.or_true Bool.true_or Bool.or_false Bool.false_or true_and and_true true_or or_true Option.some.injEq LV.d.injEq DV.val.injEq Value.bool.injEq Value.int.injEq decide_true decide_false and_self Nat.zero_add Nat.add_zero if_true if_false Int.toNat_zero beq_self_eq_true Nat.zero_lt_succ Int.toNat_natCast Int.natCast_nonneg List.length_map i64 bl List.zip_cons_cons List.zip_nil_left List.zip_nil_right nwp confV stateV nodeV jobV nodesV jobsV opV msgV nodeR jobR opR msgR zeroOp zeroMsg msgsV
variable {G : Nat → Option (List DV)}

/-- dunnagelaw23.alive -/
def ir7 : Nat × C × List RV := (54,
(.seq (.reg [⟨(some 0), .mv (.c (.val (.bool false))), none, []⟩])
 (.seq (.reg [⟨(some 6), .call (.f 8) [(.c (.val (.string ⟨#[116, 111, 114, 110, 32, 51, 32, 115, 117, 98, 109, 105, 116, 32, 48, 32, 49, 32, 49, 32, 50, 32, 53, 32, 48]⟩)))], none, []⟩,
 ⟨(some 5), .mv (.t 6), none, []⟩,
 ⟨(some 7), .ext (.t 5) 0, none, []⟩,
 ⟨(some 8), .ext (.t 5) 1, none, []⟩,
 ⟨(some 1), .new 25 [(.val (.int .i64 0)), (.val (.int .i64 0)), (.val (.int .i64 0)), (.val (.int .i64 0)), (.val (.int .i64 0)), (.val (.int .i64 0)), (.val (.int .i64 0)), (.val (.int .i64 0)), (.val (.int .i64 0)), (.val (.int .i64 0))], none, []⟩,
 ⟨none, .st 10 (.t 1) (.t 7), none, []⟩,
 ⟨(some 2), .mv (.t 8), none, []⟩])
 (.seq (.reg [⟨(some 10), .call (.f 14) [(.c (.val (.string ⟨#[35, 32, 120, 10, 116, 105, 99, 107, 10, 110, 111, 10]⟩)))], none, []⟩,
 ⟨(some 9), .mv (.t 10), none, []⟩,
 ⟨(some 11), .ext (.t 9) 0, none, []⟩,
 ⟨(some 12), .ext (.t 9) 1, none, []⟩,
 ⟨(some 3), .mv (.t 11), none, []⟩,
 ⟨(some 4), .mv (.t 12), none, []⟩])
 (.seq (.reg [⟨(some 13), .mv (.t 2), none, []⟩,
 ⟨(some 14), .mv (.t 13), none, []⟩,
 ⟨(some 15), .fad 0 (.t 1), (some (14, true)), []⟩,
 ⟨(some 16), .ld1 (.t 15), (some (14, true)), []⟩,
 ⟨(some 17), .bin .eql (.t 16) (.c (.val (.int .i64 13))), (some (14, true)), []⟩,
 ⟨(some 18), .pick (.t 14) (.t 17) (.c (.val (.bool false))), none, []⟩,
 ⟨(some 19), .mv (.t 18), none, []⟩,
 ⟨(some 20), .fad 1 (.t 1), (some (19, true)), []⟩,
 ⟨(some 21), .ld1 (.t 20), (some (19, true)), []⟩,
 ⟨(some 22), .bin .eql (.t 21) (.c (.val (.int .i64 3))), (some (19, true)), []⟩,
 ⟨(some 23), .pick (.t 19) (.t 22) (.c (.val (.bool false))), none, []⟩,
 ⟨(some 24), .mv (.t 23), none, []⟩,
 ⟨(some 25), .fad 3 (.t 1), (some (24, true)), []⟩,
 ⟨(some 26), .fad 5 (.t 25), (some (24, true)), []⟩,
 ⟨(some 27), .ld1 (.t 26), (some (24, true)), []⟩,
 ⟨(some 28), .bin .eql (.t 27) (.c (.val (.int .i64 5))), (some (24, true)), []⟩,
 ⟨(some 29), .pick (.t 24) (.t 28) (.c (.val (.bool false))), none, []⟩,
 ⟨(some 30), .mv (.t 29), none, []⟩,
 ⟨(some 31), .ldn 10 (.t 1), (some (30, true)), []⟩,
 ⟨(some 32), .call (.f 10) [(.t 31)], (some (30, true)), []⟩,
 ⟨(some 33), .pick (.t 30) (.t 32) (.c (.val (.bool false))), none, []⟩,
 ⟨(some 34), .mv (.t 33), none, []⟩,
 ⟨(some 35), .ldn 10 (.t 1), (some (34, true)), []⟩,
 ⟨(some 36), .call (.f 12) [(.t 35)], (some (34, true)), []⟩,
 ⟨(some 37), .bin .eql (.t 36) (.c (.val (.string ⟨#[116, 111, 114, 110, 32, 51, 32, 115, 117, 98, 109, 105, 116, 32, 48, 32, 49, 32, 49, 32, 50, 32, 53, 32, 48]⟩))), (some (34, true)), []⟩,
 ⟨(some 38), .pick (.t 34) (.t 37) (.c (.val (.bool false))), none, []⟩,
 ⟨(some 39), .mv (.t 38), none, []⟩,
 ⟨(some 40), .mv (.t 3), (some (39, true)), []⟩,
 ⟨(some 41), .len (.t 40), (some (39, true)), []⟩,
 ⟨(some 42), .bin .eql (.t 41) (.c (.val (.int .i64 1))), (some (39, true)), []⟩,
 ⟨(some 43), .pick (.t 39) (.t 42) (.c (.val (.bool false))), none, []⟩,
 ⟨(some 44), .mv (.t 43), none, []⟩,
 ⟨(some 45), .mv (.t 4), (some (44, true)), []⟩,
 ⟨(some 46), .bsl 3 1 [(.c (.val (.int .i64 3)))], (some (44, true)), []⟩,
 ⟨(some 47), .call (.f 19) [(.t 45), (.t 46)], (some (44, true)), []⟩,
 ⟨(some 48), .pick (.t 44) (.t 47) (.c (.val (.bool false))), none, []⟩,
 ⟨(some 49), .mv (.t 48), none, []⟩,
 ⟨(some 50), .mv (.t 3), (some (49, true)), []⟩,
 ⟨(some 51), .call (.f 16) [(.t 50)], (some (49, true)), []⟩,
 ⟨(some 52), .bin .eql (.t 51) (.c (.val (.string ⟨#[116, 105, 99, 107, 10]⟩))), (some (49, true)), []⟩,
 ⟨(some 53), .pick (.t 49) (.t 52) (.c (.val (.bool false))), none, []⟩,
 ⟨(some 0), .mv (.t 53), none, []⟩])
 .ret)))),
[(.t 0)])
theorem irOk7 : convFn Tryd.prog Tryd.f7 = some ir7 := by kernel_rfl
/-- dunnagelaw23.ScriptWords -/
def ir3 : Nat × C × List RV := (46,
(.seq (.reg [⟨(some 2), .box 25 (.t 0), none, []⟩,
 ⟨(some 4), .mv (.c (.val (.bool false))), none, []⟩])
 (.seq (.seq (.reg [⟨(some 9), .call (.f 7) [], none, []⟩,
 ⟨(some 10), .not (.t 9), none, []⟩])
 (.cond (.t 10) (.seq (.reg [⟨(some 4), .mv (.c (.val (.bool false))), none, []⟩])
 .ret)
 .skip))
 (.seq (.seq (.reg [⟨(some 11), .mv (.t 1), none, []⟩,
 ⟨(some 12), .lens (.t 11), none, []⟩,
 ⟨(some 13), .bin .gtr (.t 12) (.c (.val (.int .i64 300))), none, []⟩])
 (.cond (.t 13) (.seq (.reg [⟨(some 4), .mv (.c (.val (.bool true))), none, []⟩])
 .ret)
 .skip))
 (.seq (.reg [⟨(some 15), .mv (.t 1), none, []⟩,
 ⟨(some 16), .call (.f 8) [(.t 15)], none, []⟩,
 ⟨(some 14), .mv (.t 16), none, []⟩,
 ⟨(some 17), .ext (.t 14) 0, none, []⟩,
 ⟨(some 18), .ext (.t 14) 1, none, []⟩,
 ⟨(some 5), .new 25 [(.val (.int .i64 0)), (.val (.int .i64 0)), (.val (.int .i64 0)), (.val (.int .i64 0)), (.val (.int .i64 0)), (.val (.int .i64 0)), (.val (.int .i64 0)), (.val (.int .i64 0)), (.val (.int .i64 0)), (.val (.int .i64 0))], none, []⟩,
 ⟨none, .st 10 (.t 5) (.t 17), none, []⟩,
 ⟨(some 6), .mv (.t 18), none, []⟩])
 (.seq (.reg [⟨(some 20), .mv (.t 1), none, []⟩,
 ⟨(some 21), .call (.f 9) [(.t 20)], none, []⟩,
 ⟨(some 19), .mv (.t 21), none, []⟩,
 ⟨(some 22), .ext (.t 19) 0, none, []⟩,
 ⟨(some 23), .ext (.t 19) 1, none, []⟩,
 ⟨(some 7), .new 25 [(.val (.int .i64 0)), (.val (.int .i64 0)), (.val (.int .i64 0)), (.val (.int .i64 0)), (.val (.int .i64 0)), (.val (.int .i64 0)), (.val (.int .i64 0)), (.val (.int .i64 0)), (.val (.int .i64 0)), (.val (.int .i64 0))], none, []⟩,
 ⟨none, .st 10 (.t 7) (.t 22), none, []⟩,
 ⟨(some 8), .mv (.t 23), none, []⟩])
 (.seq (.regD [⟨(some 24), .ldn 10 (.t 2), none, []⟩,
 ⟨(some 25), .call (.f 10) [(.t 24)], none, [0]⟩,
 ⟨(some 26), .ldn 10 (.t 2), none, []⟩,
 ⟨(some 27), .call (.f 11) [(.t 26)], none, [2, 1, 0]⟩,
 ⟨(some 28), .eqb false (.t 25) (.t 27), none, [1, 0, 3, 2]⟩,
 ⟨(some 29), .mv (.t 28), none, [4, 1, 0, 3, 2]⟩,
 ⟨(some 30), .ldn 10 (.t 2), (some (29, true)), [5, 4, 1, 0, 3, 2]⟩,
 ⟨(some 31), .call (.f 12) [(.t 30)], (some (29, true)), [6, 5, 4, 1, 0, 3, 2]⟩,
 ⟨(some 32), .ldn 10 (.t 2), (some (29, true)), [5, 4, 1, 0, 3, 2]⟩,
 ⟨(some 33), .call (.f 13) [(.t 32)], (some (29, true)), [8, 5, 4, 1, 0, 3, 2, 7, 6]⟩,
 ⟨(some 34), .bin .eql (.t 31) (.t 33), (some (29, true)), [7, 6, 5, 4, 1, 0, 3, 2, 9, 8]⟩,
 ⟨(some 35), .pick (.t 29) (.t 34) (.c (.val (.bool false))), none, [5, 4, 1, 0, 3, 2, 10, 7, 6, 9, 8]⟩,
 ⟨(some 36), .mv (.t 35), none, [11, 5, 4, 1, 0, 3, 2, 10, 7, 6, 9, 8]⟩,
 ⟨(some 37), .ldn 10 (.t 5), (some (36, true)), [12, 11, 5, 4, 1, 0, 3, 2, 10, 7, 6, 9, 8]⟩,
 ⟨(some 38), .ldn 10 (.t 7), (some (36, true)), [12, 11, 5, 4, 1, 0, 3, 2, 10, 7, 6, 9, 8]⟩,
 ⟨(some 39), .eqs false [0, 0, 0, 0, 0, 0, 0, 0, 0, 0] (.t 37) (.t 38), (some (36, true)), [13, 12, 11, 5, 4, 1, 0, 3, 2, 10, 7, 6, 9, 8, 14]⟩,
 ⟨(some 40), .pick (.t 36) (.t 39) (.c (.val (.bool false))), none, [12, 11, 5, 4, 1, 0, 3, 2, 10, 7, 6, 9, 8, 15, 13, 14]⟩,
 ⟨(some 41), .mv (.t 40), none, [16, 12, 11, 5, 4, 1, 0, 3, 2, 10, 7, 6, 9, 8, 15, 13, 14]⟩,
 ⟨(some 42), .mv (.t 6), (some (41, true)), [17, 16, 12, 11, 5, 4, 1, 0, 3, 2, 10, 7, 6, 9, 8, 15, 13, 14]⟩,
 ⟨(some 43), .mv (.t 8), (some (41, true)), [17, 16, 12, 11, 5, 4, 1, 0, 3, 2, 10, 7, 6, 9, 8, 15, 13, 14]⟩,
 ⟨(some 44), .eqb false (.t 42) (.t 43), (some (41, true)), [18, 17, 16, 12, 11, 5, 4, 1, 0, 3, 2, 10, 7, 6, 9, 8, 15, 13, 14, 19]⟩,
 ⟨(some 45), .pick (.t 41) (.t 44) (.c (.val (.bool false))), none, [17, 16, 12, 11, 5, 4, 1, 0, 3, 2, 10, 7, 6, 9, 8, 15, 13, 14, 20, 18, 19]⟩,
 ⟨(some 4), .mv (.t 45), none, [21, 17, 16, 12, 11, 5, 4, 1, 0, 3, 2, 10, 7, 6, 9, 8, 15, 13, 14, 20, 18, 19]⟩])
 .ret)))))),
[(.t 4)])
theorem irOk3 : convFn Tryd.prog Tryd.f3 = some ir3 := by kernel_rfl

attribute [local go_sem] optEnt resP entsV

def alE : EntD := ⟨13, 3, 0, ⟨1, 0, 1, 1, 2, 5, 0⟩⟩
def alT : ByteArray := ⟨#[116, 111, 114, 110, 32, 51, 32, 115, 117, 98, 109, 105, 116, 32, 48, 32, 49, 32, 49, 32, 50, 32, 53, 32, 48]⟩
def alS : ByteArray := ⟨#[35, 32, 120, 10, 116, 105, 99, 107, 10, 110, 111, 10]⟩
def alTick : EntD := ⟨1, 0, 0, zeroOp⟩
theorem alE_ok : entOkB alE = true := by decide
theorem alE_op : textO alE.op = ⟨#[115, 117, 98, 109, 105, 116, 32, 48, 32, 49, 32, 49, 32, 50, 32, 53, 32, 48]⟩ := by
  unfold textO
  rw [if_pos (by decide)]
  have e : (numsL alE.op).take (manyK alE.op.kind) = [0, 1, 1, 2, 5, 0] := by decide
  rw [e]
  simp only [textL, itoaB_lt 0 (by decide) (by decide), itoaB_lt 1 (by decide) (by decide), itoaB_lt 2 (by decide) (by decide), itoaB_lt 5 (by decide) (by decide)]
  decide +kernel
theorem alE_words : wordsE alE = alT := by
  unfold wordsE wordsB
  rw [if_pos alE_ok, if_pos (by decide), alE_op]
  have e : numsE alE = [3] := by decide
  rw [e]
  simp only [textL, itoaB_lt 3 (by decide) (by decide)]
  decide +kernel
theorem alE_entry : entryE alT = some alE := by rw [← alE_words]; exact entryE_of alE_ok
theorem alTick_ok : entOkB alTick = true := by decide
theorem alTick_words : wordsE alTick = ⟨#[116, 105, 99, 107]⟩ := by decide +kernel
theorem entF_none (c : ByteArray × ByteArray × Bool) : ∀ (f k : Nat), (∀ i, k ≤ i → i < k + f → entTry c i = none) → entF c f k = none
  | 0, _, _ => rfl
  | f + 1, k, h => by rw [entF, h k (Nat.le_refl _) (by omega)]; exact entF_none c f (k + 1) (fun i h1 h2 => h i (by omega) (by omega))
theorem al_no : entryE ⟨#[110, 111]⟩ = none := by
  unfold entryE
  rw [cutS_of 32 ⟨#[110, 111]⟩ ⟨#[110, 111]⟩ ⟨#[]⟩ false (by decide) (by decide) (fun _ => rfl)]
  refine entF_none _ 15 0 fun i _ hi => ?_
  unfold entTry
  rw [if_pos]
  refine .inl ?_
  have : ∀ i : Nat, i < 15 → wordE (i : Int) ≠ ⟨#[110, 111]⟩ := by decide +kernel
  exact this i (by omega)
theorem al_parse : parseS alS = ([alTick], [3]) := by
  have hs : splitL 10 alS.data.toList = [[35, 32, 120], [116, 105, 99, 107], [110, 111], []] := by decide +kernel
  have h1 : lineE [35, 32, 120] = [] := by unfold lineE; rw [if_pos (by decide)]
  have h1w : lineW [35, 32, 120] = false := by unfold lineW; rw [decide_eq_true (by decide)]; rfl
  have h2 : lineE [116, 105, 99, 107] = [alTick] ∧ lineW [116, 105, 99, 107] = false := by
    have := line_words alTick_ok
    rw [alTick_words] at this
    exact this
  have h3 : lineE [110, 111] = [] := by unfold lineE; rw [if_neg (by decide)]; show (entryE ⟨#[110, 111]⟩).toList = []; rw [al_no]; rfl
  have h3w : lineW [110, 111] = true := by unfold lineW; rw [decide_eq_false (by decide)]; show (!false && (entryE ⟨#[110, 111]⟩).isNone) = true; rw [al_no]; rfl
  rw [parseS_eq, hs]
  simp only [List.flatMap_cons, List.flatMap_nil, wrongL, h1, h2.1, h3, line_nil.1, h1w, h2.2, h3w, line_nil.2]
  rfl
theorem al_text : textE [alTick] = ⟨#[116, 105, 99, 107, 10]⟩ := by
  unfold textE
  rw [textGo, if_pos alTick_ok, textGo, alTick_words]
  decide +kernel
theorem OG.entry (h : OG G) (s : ByteArray) (hs : s.size ≤ 1000000) : Tri Tryd.prog G 8 [.d (.val (.string s))] [] (optEnt (entryE s)) [] := entry_tri h s hs
theorem OG.entok (h : OG G) (e : EntD) : Tri Tryd.prog G 10 [entV e] [] (.bool (entOkB e)) [] := entRight_tri h.b e
set_option maxHeartbeats 4000000 in
theorem alive23_tri (h : OG G) : Tri Tryd.prog G 7 [] [] (.bool true) [] := by
  refine tri_W0 Tryd.func7 (by decide) irOk7 (Nat.le_of_ble_eq_true rfl) rfl ?_
  simp only [ir7, go_sem, ↓reduceIte, zA, zB, zC, zD, zE, zF, reduceCtorEq, zG, zH, zI, zJ, zK, zL, zM, zN, zO, zP]
  have h1 := h.entry alT (by decide)
  rw [alE_entry] at h1
  refine W_calld h1 rfl rfl rfl rfl ?_
  simp only [Option.isSome_some, Option.getD_some, alE, go_sem, ↓reduceIte, zA, zB, zC, zD, zE, zF, reduceCtorEq, zG, zH, zI, zJ, zK, zL, zM, zN, zO, zP]
  have h2 := Go.Proofs.parse_tri h alS (by decide)
  rw [al_parse] at h2
  refine W_calld h2 rfl rfl rfl rfl ?_
  simp only [go_sem, ↓reduceIte, zA, zB, zC, zD, zE, zF, reduceCtorEq, zG, zH, zI, zJ, zK, zL, zM, zN, zO, zP]
  have h3 := h.entok alE
  rw [alE_ok] at h3
  refine W_calld h3 rfl rfl rfl rfl ?_
  simp only [go_sem, ↓reduceIte, zA, zB, zC, zD, zE, zF, reduceCtorEq, zG, zH, zI, zJ, zK, zL, zM, zN, zO, zP]
  have h4 := entWords_tri h alE
  rw [alE_words] at h4
  refine W_calld h4 rfl rfl rfl rfl ?_
  simp only [str_eq, alT, decide_true, entRows_len, List.length_cons, List.length_nil, show ((((0 + 1 : Nat)) : Int) == 1) = true from rfl, go_sem, ↓reduceIte, zA, zB, zC, zD, zE, zF, reduceCtorEq, zG, zH, zI, zJ, zK, zL, zM, zN, zO, zP]
  have h5 := ints_tri (G := G) [3] [3] (by decide) (by decide)
  refine W_callz [1] (h5) rfl (by simp [argRs, argR, rowsAt, objL, numR, go_sem, ↓reduceIte, zA, zB, zC, zD, zE, zF, reduceCtorEq, zG, zH, zI, zJ, zK, zL, zM, zN, zO, zP]) (by simp [objL]) rfl rfl ?_; simp only [go_sem, ↓reduceIte, zA, zB, zC, zD, zE, zF, reduceCtorEq, zG, zH, zI, zJ, zK, zL, zM, zN, zO, zP]
  have h6 := text_triE h [alTick] (by decide)
  rw [al_text] at h6
  refine W_calld h6 rfl rfl rfl rfl ?_
  simp only [str_eq, decide_true, go_sem, ↓reduceIte, zA, zB, zC, zD, zE, zF, reduceCtorEq, zG, zH, zI, zJ, zK, zL, zM, zN, zO, zP]

set_option maxHeartbeats 4000000 in
theorem sWords_law (h : OG G) (e : EntD) (s : ByteArray) : Tri Tryd.prog G 3 [entV e, .d (.val (.string s))] [] (.bool true) [] := by
  refine tri_W0 Tryd.func3 (by decide) irOk3 (Nat.le_of_ble_eq_true rfl) rfl ?_
  simp only [ir3, go_sem, ↓reduceIte, zA, zB, zC, zD, zE, zF, reduceCtorEq, zG, zH, zI, zJ, zK, zL, zM, zN, zO, zP]
  refine W_calld (alive23_tri h) rfl rfl rfl rfl ?_; simp only [go_sem, ↓reduceIte, zA, zB, zC, zD, zE, zF, reduceCtorEq, zG, zH, zI, zJ, zK, zL, zM, zN, zO, zP]
  by_cases h1 : s.size ≤ 300
  case neg => simp only [decide_eq_true (show ((s.size : Nat) : Int) > 300 by omega), go_sem, ↓reduceIte, zA, zB, zC, zD, zE, zF, reduceCtorEq, zG, zH, zI, zJ, zK, zL, zM, zN, zO, zP]
  simp only [decide_eq_false (show ¬ ((s.size : Nat) : Int) > 300 by omega), go_sem, ↓reduceIte, zA, zB, zC, zD, zE, zF, reduceCtorEq, zG, zH, zI, zJ, zK, zL, zM, zN, zO, zP]
  refine W_calld (h.entry s (by omega)) rfl rfl rfl rfl ?_; simp only [go_sem, ↓reduceIte, zA, zB, zC, zD, zE, zF, reduceCtorEq, zG, zH, zI, zJ, zK, zL, zM, zN, zO, zP]
  have hT := entry23_tri h s (by omega)
  rw [entry23_eq s] at hT
  refine W_calld (hT) rfl rfl rfl rfl ?_; simp only [go_sem, ↓reduceIte, zA, zB, zC, zD, zE, zF, reduceCtorEq, zG, zH, zI, zJ, zK, zL, zM, zN, zO, zP]
  generalize (entryE s).getD zeroEnt = x at *
  generalize (entryE s).isSome = ok at *
  refine WD_calld (h.entok e) rfl rfl rfl rfl ?_; simp only [go_sem, ↓reduceIte, zA, zB, zC, zD, zE, zF, reduceCtorEq, zG, zH, zI, zJ, zK, zL, zM, zN, zO, zP]
  refine WD_calld (entRight23_tri e) rfl rfl rfl rfl ?_; simp only [go_sem, ↓reduceIte, zA, zB, zC, zD, zE, zF, reduceCtorEq, zG, zH, zI, zJ, zK, zL, zM, zN, zO, zP]
  refine WD_calld (entWords_tri h e) rfl rfl rfl rfl ?_; simp only [go_sem, ↓reduceIte, zA, zB, zC, zD, zE, zF, reduceCtorEq, zG, zH, zI, zJ, zK, zL, zM, zN, zO, zP]
  refine WD_calld (entWords23_tri e) rfl rfl rfl rfl ?_; simp only [go_sem, ↓reduceIte, zA, zB, zC, zD, zE, zF, reduceCtorEq, zG, zH, zI, zJ, zK, zL, zM, zN, zO, zP]
end Dv
