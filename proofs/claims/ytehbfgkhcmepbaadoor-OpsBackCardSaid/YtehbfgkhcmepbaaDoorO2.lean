/- ops: the op of bytes. -/
import Derived.Test.YtehbfgkhcmepbaaDoorO1
import Derived.Test.YtehbfgkhcmepbaaDoorI5
set_option linter.unusedVariables false
set_option linter.unusedSimpArgs false
namespace Dv
open Go Go.Proofs
open Nat renaming reduceEqDiff → zA, reduceAdd → zB, reduceSub → zC, reduceMul → zD, reduceLT → zE, reduceLeDiff → zF
open Int renaming reduceLE → zG, reduceLT → zH, reduceToNat → zI, reduceBEq → zJ, reduceBNe → zK, reduceEq → zL, reduceAdd → zM, reduceSub → zN, reduceMul → zO, reduceNeg → zP
attribute [local go_sem] argEnv W_nil W_seq W_skip W_ret W_exit W_scope W_block W_blk W_reg W_regD W_cond WC_t WC_f WC_any Wx_c Wx_ops Wx_lp Wx_blk W_ops_nil W_opsD_q W_guard W_guardD WG_tt WG_ff WG_tf WG_ft WG_u WGD_tt WGD_ff WGD_tf WGD_ft WGD_u WE_some WED_some W_more W_mv W_pick W_new W_box W_build W_bsl W_ld1 W_ldn W_st W_nck W_bin W_eqb W_not W_cvt W_fad W_fld1 W_fldn W_ixa W_ixr W_ix1 W_ixs W_len W_lens W_mkf W_ext W_app W_min W_isnp W_isns W_eqs W_neg W_ixn W_sli W_sls WD_more WD_mv WD_pick WD_new WD_box WD_build WD_bsl WD_ld1 WD_ldn WD_st WD_nck WD_bin WD_eqb WD_not WD_cvt WD_fad WD_fld1 WD_fldn WD_ixa WD_ixr WD_ix1 WD_ixs WD_len WD_lens WD_mkf WD_ext WD_app WD_min WD_isnp WD_isns WD_eqs WD_neg WD_ixn WD_sli WD_sls effF effM bytesOf Opd.ev getE putE binV LV.int LV.bool LV.undef Go.undef LV.cells LV.toD LV.toDs splice fillL rowsOf srcRows updL objL Eff.owned nwp St.get St.obj St.put Value.oneCell' Ends adopt Ad.ap isNil St.keep St.okKeep okObj idl idlL idlO RVs.of RV.of oneOr Ends0 EndsO_iff frzs rn rnL rnO piOf eqCells eqV boundV Option.map_some Option.map_none List.append_nil List.nil_append List.cons_append List.map_nil List.map_cons List.length_nil List.length_cons List.set_cons_zero List.set_cons_succ List.take_succ_cons List.take_zero List.take_nil List.drop_succ_cons List.drop_zero List.drop_nil List.getElem?_cons_zero List.getElem?_cons_succ List.getElem?_nil List.isEmpty_nil List.isEmpty_cons List.all_cons List.all_nil List.isEmpty_nil cond_true cond_false Bool.true_and Bool.false_and Bool.and_true Bool.and_false Bool.not_true Bool.not_false Bool.or_true Bool.true_or Bool.or_false Bool.false_or true_and and_true true_or or_true Option.some.injEq LV.d.injEq DV.val.injEq Value.bool.injEq Value.int.injEq decide_true decide_false and_self Nat.zero_add Nat.add_zero if_true if_false Int.toNat_zero beq_self_eq_true Nat.zero_lt_succ Int.toNat_natCast Int.natCast_nonneg List.length_map i64 bl List.zip_cons_cons List.zip_nil_left List.zip_nil_right nwp confV stateV nodeV jobV nodesV jobsV opV msgV nodeR jobR opR msgR zeroOp zeroMsg msgsV
variable {G : Nat → Option (List DV)}

/-- ops.Get -/
def ir9 : Nat × C × List RV := (57,
(.seq (.reg [⟨(some 2), .new 23 [(.val (.int .i64 0)), (.val (.int .i64 0)), (.val (.int .i64 0)), (.val (.int .i64 0)), (.val (.int .i64 0)), (.val (.int .i64 0)), (.val (.int .i64 0))], none, []⟩,
 ⟨(some 3), .mv (.c (.val (.bool false))), none, []⟩])
 (.seq (.reg [⟨(some 9), .mv (.t 0), none, []⟩,
 ⟨(some 10), .call (.f 22) [(.t 9), (.c (.val (.int .i64 0))), (.c (.val (.int .i64 7)))], none, []⟩,
 ⟨(some 8), .mv (.t 10), none, []⟩,
 ⟨(some 11), .ext (.t 8) 0, none, []⟩,
 ⟨(some 12), .ext (.t 8) 1, none, []⟩,
 ⟨(some 13), .ext (.t 8) 2, none, []⟩,
 ⟨(some 4), .mv (.t 11), none, []⟩,
 ⟨(some 5), .mv (.t 12), none, []⟩,
 ⟨(some 6), .mv (.t 13), none, []⟩])
 (.seq (.seq (.reg [⟨(some 14), .mv (.t 6), none, []⟩,
 ⟨(some 15), .not (.t 14), none, []⟩,
 ⟨(some 16), .mv (.t 15), none, []⟩,
 ⟨(some 17), .mv (.t 5), (some (16, false)), []⟩,
 ⟨(some 18), .mv (.t 0), (some (16, false)), []⟩,
 ⟨(some 19), .len (.t 18), (some (16, false)), []⟩,
 ⟨(some 20), .bin .neq (.t 17) (.t 19), (some (16, false)), []⟩,
 ⟨(some 21), .pick (.t 16) (.c (.val (.bool true))) (.t 20), none, []⟩,
 ⟨(some 22), .mv (.t 21), none, []⟩,
 ⟨(some 23), .mv (.t 4), (some (22, false)), []⟩,
 ⟨(some 24), .len (.t 23), (some (22, false)), []⟩,
 ⟨(some 25), .bin .eql (.t 24) (.c (.val (.int .i64 0))), (some (22, false)), []⟩,
 ⟨(some 26), .pick (.t 22) (.c (.val (.bool true))) (.t 25), none, []⟩,
 ⟨(some 27), .mv (.t 26), none, []⟩,
 ⟨(some 28), .mv (.t 4), (some (27, false)), []⟩,
 ⟨(some 29), .ixa 1 (.t 28) (.c (.val (.int .i64 0))), (some (27, false)), []⟩,
 ⟨(some 30), .ld1 (.t 29), (some (27, false)), []⟩,
 ⟨(some 31), .call (.f 18) [(.t 30)], (some (27, false)), []⟩,
 ⟨(some 32), .bin .eql (.t 31) (.c (.val (.string ⟨#[]⟩))), (some (27, false)), []⟩,
 ⟨(some 33), .pick (.t 27) (.c (.val (.bool true))) (.t 32), none, []⟩,
 ⟨(some 34), .mv (.t 33), none, []⟩,
 ⟨(some 35), .mv (.t 4), (some (34, false)), []⟩,
 ⟨(some 36), .len (.t 35), (some (34, false)), []⟩,
 ⟨(some 37), .mv (.t 4), (some (34, false)), []⟩,
 ⟨(some 38), .ixa 1 (.t 37) (.c (.val (.int .i64 0))), (some (34, false)), []⟩,
 ⟨(some 39), .ld1 (.t 38), (some (34, false)), []⟩,
 ⟨(some 40), .ixr 22 1 (.g 0) (.t 39), (some (34, false)), []⟩,
 ⟨(some 41), .ld1 (.t 40), (some (34, false)), []⟩,
 ⟨(some 42), .bin .add (.t 41) (.c (.val (.int .i64 1))), (some (34, false)), []⟩,
 ⟨(some 43), .bin .neq (.t 36) (.t 42), (some (34, false)), []⟩,
 ⟨(some 44), .pick (.t 34) (.c (.val (.bool true))) (.t 43), none, []⟩])
 (.cond (.t 44) (.seq (.reg [⟨(some 45), .build [(.val (.int .i64 0)), (.val (.int .i64 0)), (.val (.int .i64 0)), (.val (.int .i64 0)), (.val (.int .i64 0)), (.val (.int .i64 0)), (.val (.int .i64 0))] [], none, []⟩,
 ⟨none, .st 7 (.t 2) (.t 45), none, []⟩,
 ⟨(some 3), .mv (.c (.val (.bool false))), none, []⟩])
 .ret)
 .skip))
 (.seq (.regD [⟨(some 46), .mv (.t 4), none, []⟩,
 ⟨(some 47), .ixa 1 (.t 46) (.c (.val (.int .i64 0))), none, [0]⟩,
 ⟨(some 48), .ld1 (.t 47), none, [1, 0]⟩,
 ⟨(some 49), .mv (.t 4), none, []⟩,
 ⟨(some 50), .sli 1 (.t 49) (some (.c (.val (.int .i64 1)))) none none, none, [3]⟩,
 ⟨(some 51), .call (.f 23) [(.t 48), (.t 50)], none, [2, 1, 0, 4, 3]⟩,
 ⟨(some 7), .new 23 [(.val (.int .i64 0)), (.val (.int .i64 0)), (.val (.int .i64 0)), (.val (.int .i64 0)), (.val (.int .i64 0)), (.val (.int .i64 0)), (.val (.int .i64 0))], none, []⟩,
 ⟨none, .st 7 (.t 7) (.t 51), none, [6, 5, 2, 1, 0, 4, 3]⟩])
 (.seq (.seq (.reg [⟨(some 52), .ldn 7 (.t 7), none, []⟩,
 ⟨(some 53), .call (.f 11) [(.t 52)], none, []⟩,
 ⟨(some 54), .not (.t 53), none, []⟩])
 (.cond (.t 54) (.seq (.reg [⟨(some 55), .build [(.val (.int .i64 0)), (.val (.int .i64 0)), (.val (.int .i64 0)), (.val (.int .i64 0)), (.val (.int .i64 0)), (.val (.int .i64 0)), (.val (.int .i64 0))] [], none, []⟩,
 ⟨none, .st 7 (.t 2) (.t 55), none, []⟩,
 ⟨(some 3), .mv (.c (.val (.bool false))), none, []⟩])
 .ret)
 .skip))
 (.seq (.reg [⟨(some 56), .ldn 7 (.t 7), none, []⟩,
 ⟨none, .st 7 (.t 2) (.t 56), none, []⟩,
 ⟨(some 3), .mv (.c (.val (.bool true))), none, []⟩])
 .ret)))))),
[(.cn 2 7), (.t 3)])
theorem irOk9 : convFn Tryd.prog Tryd.f9 = some ir9 := by kernel_rfl

attribute [local go_sem] bytesV

def optOp (q : Option OpD) : LV := .tup [opV (q.getD zeroOp), .bool q.isSome]
def kindOk (k : Int) : Bool := decide (1 ≤ k ∧ k ≤ 21)
def getO (b : List Int) : Option OpD := match getL b 0 7 with
  | none => none
  | some (xs, e) => if e = b.length ∧ 0 < xs.length ∧ kindOk (xs.getD 0 0) = true ∧ xs.length = manyK (xs.getD 0 0) + 1 ∧ opOkB (ofI (xs.getD 0 0) (xs.drop 1)) = true then some (ofI (xs.getD 0 0) (xs.drop 1)) else none
theorem name_eq (k : Int) : ((nameOf k).toList == (⟨#[]⟩ : ByteArray).toList) = !kindOk k := by
  by_cases h : 1 ≤ k ∧ k ≤ 21
  · rw [name_some k h]; unfold kindOk; rw [decide_eq_true h]; rfl
  · rw [name_none k h]; unfold kindOk; rw [decide_eq_false h]; decide +kernel
set_option maxHeartbeats 2000000 in
theorem oget_tri (b : List Int) (hb : ∀ c ∈ b, 0 ≤ c ∧ c ≤ 255) (hl : b.length ≤ 1000000) : Tri Tryd.prog bookG 9 [bytesV b] [] (optOp (getO b)) [] := by
  have hlb : (byteR b).length = b.length := by simp [byteR]
  refine tri_W Tryd.func9 (by decide) irOk9 (Nat.le_of_ble_eq_true rfl) ?_
  generalize hq : getO b = q
  unfold getO at hq
  simp only [ir9, go_sem, ↓reduceIte, zA, zB, zC, zD, zE, zF, reduceCtorEq, zG, zH, zI, zJ, zK, zL, zM, zN, zO, zP]
  cases hL : getL b 0 7 with
  | none =>
    rw [hL] at hq
    subst hq
    refine W_calld (getListq_tri b hb hl 7 (by decide) none hL) rfl rfl rfl rfl ?_
    simp only [glRes, glObj, go_sem, ↓reduceIte, zA, zB, zC, zD, zE, zF, reduceCtorEq, zG, zH, zI, zJ, zK, zL, zM, zN, zO, zP]
    exact BackS (objs' := []) ⟨rfl, rfl⟩ rfl rfl rfl
  | some xe =>
  obtain ⟨xs, e⟩ := xe
  obtain ⟨h1, h2, h3⟩ := getL_rng (fun c hc => (hb c hc).1) hL
  rw [hL] at hq
  dsimp only at hq
  refine W_calln (getListq_tri b hb hl 7 (by decide) (some (xs, e)) hL) rfl rfl rfl ?_
  simp only [glRes, glObj, hlb, go_sem, ↓reduceIte, zA, zB, zC, zD, zE, zF, reduceCtorEq, zG, zH, zI, zJ, zK, zL, zM, zN, zO, zP]
  by_cases he : e = b.length
  case neg =>
    rw [if_neg (fun h => he h.1)] at hq
    subst hq
    simp only [show (((e : Nat) : Int) != ((b.length : Nat) : Int)) = true from bne_iff_ne.2 (by omega), go_sem, ↓reduceIte, zA, zB, zC, zD, zE, zF, reduceCtorEq, zG, zH, zI, zJ, zK, zL, zM, zN, zO, zP]
    exact BackS (objs' := []) ⟨rfl, rfl⟩ rfl rfl rfl
  simp only [show (((e : Nat) : Int) != ((b.length : Nat) : Int)) = false by rw [he]; simp, go_sem, ↓reduceIte, zA, zB, zC, zD, zE, zF, reduceCtorEq, zG, zH, zI, zJ, zK, zL, zM, zN, zO, zP]
  by_cases h0 : 0 < xs.length
  case neg =>
    rw [if_neg (fun h => h0 h.2.1)] at hq
    subst hq
    simp only [show (((xs.length : Nat) : Int) == 0) = true from beq_iff_eq.2 (by omega), go_sem, ↓reduceIte, zA, zB, zC, zD, zE, zF, reduceCtorEq, zG, zH, zI, zJ, zK, zL, zM, zN, zO, zP]
    exact BackS (objs' := []) ⟨rfl, rfl⟩ rfl rfl rfl
  have hg := get_mapD (f := fun n : Int => [i64 n]) 0 h0
  have hxr := h2 (xs.getD 0 0) (by simp [List.getD, h0])
  generalize hx : xs.getD 0 0 = x at *
  have hgb : (numR xs)[0]? = some [DV.val (.int .i64 x)] := hg
  have hnl : (numR xs).length = xs.length := by simp [numR]
  simp only [show (((xs.length : Nat) : Int) == 0) = false from beq_eq_false_iff_ne.2 (by omega), h0, hgb, hnl, go_sem, ↓reduceIte, zA, zB, zC, zD, zE, zF, reduceCtorEq, zG, zH, zI, zJ, zK, zL, zM, zN, zO, zP]
  refine W_calld (name_tri x) rfl rfl rfl rfl ?_; simp only [go_sem, ↓reduceIte, zA, zB, zC, zD, zE, zF, reduceCtorEq, zG, zH, zI, zJ, zK, zL, zM, zN, zO, zP]
  simp only [name_eq, go_sem, ↓reduceIte, zA, zB, zC, zD, zE, zF, reduceCtorEq, zG, zH, zI, zJ, zK, zL, zM, zN, zO, zP]
  cases hk : kindOk x with
  | false =>
    rw [if_neg (fun h => by rw [hk] at h; exact absurd h.2.2.1 (by decide))] at hq
    subst hq
    simp only [go_sem, ↓reduceIte, zA, zB, zC, zD, zE, zF, reduceCtorEq, zG, zH, zI, zJ, zK, zL, zM, zN, zO, zP]
    exact BackS (objs' := []) ⟨rfl, rfl⟩ rfl rfl rfl
  | true =>
  have hkk : 1 ≤ x ∧ x ≤ 21 := of_decide_eq_true hk
  have hx0 : 0 ≤ x := by omega
  have hx1 : x.toNat < 22 := by omega
  have hm := manyK_le x
  have hw : IntKind.i64.wrap ((manyK x : Nat) + 1 : Int) = ((manyK x + 1 : Nat) : Int) := by rw [wrap_in (by omega) (by omega)]; rfl
  simp only [h0, hgb, hnl, bookG_many, hx0, hx1, Nat.mul_one, many_at x hkk, hw, go_sem, ↓reduceIte, zA, zB, zC, zD, zE, zF, reduceCtorEq, zG, zH, zI, zJ, zK, zL, zM, zN, zO, zP]
  by_cases hlen : xs.length = manyK x + 1
  case neg =>
    rw [if_neg (fun h => hlen h.2.2.2.1)] at hq
    subst hq
    simp only [show (((xs.length : Nat) : Int) != ((manyK x + 1 : Nat) : Int)) = true from bne_iff_ne.2 (by omega), go_sem, ↓reduceIte, zA, zB, zC, zD, zE, zF, reduceCtorEq, zG, zH, zI, zJ, zK, zL, zM, zN, zO, zP]
    exact BackS (objs' := []) ⟨rfl, rfl⟩ rfl rfl rfl
  simp only [show (((xs.length : Nat) : Int) != ((manyK x + 1 : Nat) : Int)) = false by rw [hlen]; simp, h0, hgb, hnl, go_sem, ↓reduceIte, zA, zB, zC, zD, zE, zF, reduceCtorEq, zG, zH, zI, zJ, zK, zL, zM, zN, zO, zP]
  rw [if_pos (show 1 ≤ xs.length ∧ xs.length ≤ xs.length by omega)]
  have hdr : (xs.drop 1).length ≤ 6 := by rw [List.length_drop]; omega
  have hrows : List.take (xs.length - 1) ((numR xs).drop 1) = numR (xs.drop 1) := by
    rw [List.take_of_length_le (by rw [List.length_drop, hnl]; omega)]
    simp only [numR, List.map_drop]
  have hrows2 : List.take (xs.length - 1) (numR xs).tail = numR xs.tail := by rw [← List.drop_one, ← List.drop_one]; exact hrows
  have hlt1 : 1 + (xs.length - 1) ≤ xs.length := by omega
  simp only [go_sem, ↓reduceIte, zA, zB, zC, zD, zE, zF, reduceCtorEq, zG, zH, zI, zJ, zK, zL, zM, zN, zO, zP]
  refine WD_callz [1] (of_tri x (xs.drop 1) hdr) rfl (by simp [argRs, argR, rowsAt, objL, hrows2, hnl, hlt1, go_sem, ↓reduceIte, zA, zB, zC, zD, zE, zF, reduceCtorEq, zG, zH, zI, zJ, zK, zL, zM, zN, zO, zP]) (by simp [objL]) rfl rfl ?_; simp only [go_sem, ↓reduceIte, zA, zB, zC, zD, zE, zF, reduceCtorEq, zG, zH, zI, zJ, zK, zL, zM, zN, zO, zP]
  rw [show (if e = b.length ∧ 0 < xs.length ∧ kindOk x = true ∧ xs.length = manyK x + 1 ∧ opOkB (ofI x (xs.drop 1)) = true then some (ofI x (xs.drop 1)) else none) = if opOkB (ofI x (xs.drop 1)) = true then some (ofI x (xs.drop 1)) else none by
    by_cases ho : opOkB (ofI x (xs.drop 1)) = true
    · rw [if_pos ⟨he, h0, hk, hlen, ho⟩, if_pos ho]
    · rw [if_neg (fun h => ho h.2.2.2.2), if_neg ho]] at hq
  generalize ofI x (xs.drop 1) = o at *
  refine W_opsD_end (by decide) ?_
  simp only [go_sem, ↓reduceIte, zA, zB, zC, zD, zE, zF, reduceCtorEq, zG, zH, zI, zJ, zK, zL, zM, zN, zO, zP]
  refine W_calld (opsRight_tri o) rfl rfl rfl rfl ?_; simp only [go_sem, ↓reduceIte, zA, zB, zC, zD, zE, zF, reduceCtorEq, zG, zH, zI, zJ, zK, zL, zM, zN, zO, zP]
  cases hr : opOkB o with
  | false =>
    rw [if_neg (by rw [hr]; decide)] at hq
    subst hq
    simp only [go_sem, ↓reduceIte, zA, zB, zC, zD, zE, zF, reduceCtorEq, zG, zH, zI, zJ, zK, zL, zM, zN, zO, zP]
    exact BackS (objs' := []) ⟨rfl, rfl⟩ rfl rfl rfl
  | true =>
    rw [if_pos hr] at hq
    subst hq
    simp only [go_sem, ↓reduceIte, zA, zB, zC, zD, zE, zF, reduceCtorEq, zG, zH, zI, zJ, zK, zL, zM, zN, zO, zP]
    exact BackS (objs' := []) ⟨rfl, rfl⟩ rfl rfl rfl
end Dv
