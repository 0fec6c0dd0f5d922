/- code: a list out of bytes. -/
import Derived.Test.YtehbfgkhcmepbaaDoorI0
set_option linter.unusedVariables false
set_option linter.unusedSimpArgs false
namespace Dv
open Go Go.Proofs
open Nat renaming reduceEqDiff → zA, reduceAdd → zB, reduceSub → zC, reduceMul → zD, reduceLT → zE, reduceLeDiff → zF
open Int renaming reduceLE → zG, reduceLT → zH, reduceToNat → zI, reduceBEq → zJ, reduceBNe → zK, reduceEq → zL, reduceAdd → zM, reduceSub → zN, reduceMul → zO, reduceNeg → zP
attribute [local go_sem] argEnv W_nil W_seq W_skip W_ret W_exit W_scope W_block W_blk W_reg W_regD W_cond WC_t WC_f WC_any Wx_c Wx_ops Wx_lp Wx_blk W_ops_nil W_opsD_q W_guard W_guardD WG_tt WG_ff WG_tf WG_ft WG_u WGD_tt WGD_ff WGD_tf WGD_ft WGD_u WE_some WED_some W_more W_mv W_pick W_new W_box W_build W_bsl W_ld1 W_ldn W_st W_nck W_bin W_eqb W_not W_cvt W_fad W_fld1 W_fldn W_ixa W_ixr W_ix1 W_ixs W_len W_lens W_mkf W_ext W_app W_min W_isnp W_isns W_eqs W_neg W_ixn W_sli W_sls WD_more WD_mv WD_pick WD_new WD_box WD_build WD_bsl WD_ld1 WD_ldn WD_st WD_nck WD_bin WD_eqb WD_not WD_cvt WD_fad WD_fld1 WD_fldn WD_ixa WD_ixr WD_ix1 WD_ixs WD_len WD_lens WD_mkf WD_ext WD_app WD_min WD_isnp WD_isns WD_eqs WD_neg WD_ixn WD_sli WD_sls effF effM bytesOf Opd.ev getE putE binV LV.int LV.bool LV.undef Go.undef LV.cells LV.toD LV.toDs splice fillL rowsOf srcRows updL objL Eff.owned nwp St.get St.obj St.put Value.oneCell' Ends adopt Ad.ap isNil St.keep St.okKeep okObj idl idlL idlO RVs.of RV.of oneOr Ends0 EndsO_iff frzs rn rnL rnO piOf eqCells eqV boundV Option.map_some Option.map_none List.append_nil List.nil_append List.cons_append List.map_nil List.map_cons List.length_nil List.length_cons List.set_cons_zero List.set_cons_succ List.take_succ_cons List.take_zero List.take_nil List.drop_succ_cons List.drop_zero List.drop_nil List.getElem?_cons_zero List.getElem?_cons_succ List.getElem?_nil List.isEmpty_nil List.isEmpty_cons List.all_cons List.all_nil List.isEmpty_nil cond_true cond_false Bool.true_and Bool.false_and Bool.and_true Bool.and_false Bool.not_true Bool.not_false Bool.or_true Bool.true_or Bool.or_false Bool.false_or true_and and_true true_or or_true Option.some.injEq LV.d.injEq DV.val.injEq Value.bool.injEq Value.int.injEq decide_true decide_false and_self Nat.zero_add Nat.add_zero if_true if_false Int.toNat_zero beq_self_eq_true Nat.zero_lt_succ Int.toNat_natCast Int.natCast_nonneg List.length_map i64 bl List.zip_cons_cons List.zip_nil_left List.zip_nil_right nwp confV stateV nodeV jobV nodesV jobsV opV msgV nodeR jobR opR msgR zeroOp zeroMsg msgsV
variable {G : Nat → Option (List DV)}
attribute [local go_sem] numRes

/-- code.GetList$1 -/
def ir35 : Nat × C × List RV := (15,
(.seq (.reg [⟨(some 5), .mv (.c (.val (.int .i64 0))), none, []⟩])
 (.seq (.reg [⟨(some 6), .mv (.c (.val (.int .i64 0))), none, []⟩])
 (.seq (.reg [⟨(some 8), .ld1 (.t 1), none, []⟩,
 ⟨(some 9), .mv (.t 0), none, []⟩,
 ⟨(some 10), .call (.f 36) [(.t 8), (.t 9)], none, []⟩,
 ⟨(some 7), .mv (.t 10), none, []⟩,
 ⟨(some 11), .ext (.t 7) 0, none, []⟩,
 ⟨(some 12), .ext (.t 7) 1, none, []⟩,
 ⟨(some 13), .ext (.t 7) 2, none, []⟩,
 ⟨(some 6), .mv (.t 11), none, []⟩,
 ⟨none, .st 1 (.t 2) (.t 12), none, []⟩,
 ⟨none, .st 1 (.t 3) (.t 13), none, []⟩])
 (.seq (.reg [⟨(some 14), .mv (.t 6), none, []⟩,
 ⟨(some 5), .mv (.t 14), none, []⟩])
 .ret)))),
[(.t 5)])
theorem irOk35 : convFn Tryd.prog Tryd.f35 = some ir35 := by kernel_rfl
/-- code.GetList -/
def ir22 : Nat × C × List RV := (41,
(.seq (.reg [⟨(some 3), .box 24 (.t 0), none, []⟩,
 ⟨(some 6), .mv (.c (.val (.slice none 0 0))), none, []⟩,
 ⟨(some 7), .mv (.c (.val (.int .i64 0))), none, []⟩,
 ⟨(some 8), .mv (.c (.val (.bool false))), none, []⟩])
 (.seq (.reg [⟨(some 9), .new 3 [(.val (.int .i64 0))], none, []⟩,
 ⟨(some 10), .new 4 [(.val (.bool false))], none, []⟩,
 ⟨none, .st 1 (.t 9) (.c (.val (.int .i64 0))), none, []⟩,
 ⟨none, .st 1 (.t 10) (.c (.val (.bool false))), none, []⟩])
 (.seq (.reg [⟨(some 15), .mkf (.func 35) [] [(.t 3), (.t 9), (.t 10)], none, []⟩,
 ⟨(some 11), .mv (.t 15), none, []⟩])
 (.seq (.reg [⟨(some 16), .mv (.t 11), none, []⟩,
 ⟨(some 17), .mv (.t 1), none, []⟩,
 ⟨(some 18), .call (.t 16) [(.t 17)], none, []⟩,
 ⟨(some 12), .mv (.t 18), none, []⟩])
 (.seq (.seq (.reg [⟨(some 19), .ld1 (.t 10), none, []⟩,
 ⟨(some 20), .not (.t 19), none, []⟩,
 ⟨(some 21), .mv (.t 20), none, []⟩,
 ⟨(some 22), .mv (.t 12), (some (21, false)), []⟩,
 ⟨(some 23), .mv (.t 2), (some (21, false)), []⟩,
 ⟨(some 24), .bin .gtr (.t 22) (.t 23), (some (21, false)), []⟩,
 ⟨(some 25), .pick (.t 21) (.c (.val (.bool true))) (.t 24), none, []⟩])
 (.cond (.t 25) (.seq (.reg [⟨(some 6), .mv (.c (.val (.slice none 0 0))), none, []⟩,
 ⟨(some 7), .mv (.c (.val (.int .i64 0))), none, []⟩,
 ⟨(some 8), .mv (.c (.val (.bool false))), none, []⟩])
 .ret)
 .skip))
 (.seq (.reg [⟨(some 13), .mv (.c (.val (.slice none 0 0))), none, []⟩])
 (.seq (.seq (.reg [⟨(some 26), .mv (.t 12), none, []⟩,
 ⟨(some 27), .mv (.c (.val (.int .i64 0))), none, []⟩])
 (.block 0 (.loop (.seq (.reg [⟨(some 28), .bin .lss (.t 27) (.t 26), none, []⟩])
 (.seq (.cond (.t 28) .skip
 (.exit 0))
 (.seq (.block 1 (.seq (.reg [⟨(some 29), .mv (.t 11), none, []⟩,
 ⟨(some 30), .ld1 (.t 9), none, []⟩,
 ⟨(some 31), .call (.t 29) [(.t 30)], none, []⟩,
 ⟨(some 14), .mv (.t 31), none, []⟩])
 (.seq (.seq (.reg [⟨(some 32), .ld1 (.t 10), none, []⟩,
 ⟨(some 33), .not (.t 32), none, []⟩])
 (.cond (.t 33) (.seq (.reg [⟨(some 6), .mv (.c (.val (.slice none 0 0))), none, []⟩,
 ⟨(some 7), .mv (.c (.val (.int .i64 0))), none, []⟩,
 ⟨(some 8), .mv (.c (.val (.bool false))), none, []⟩])
 .ret)
 .skip))
 (.reg [⟨(some 34), .mv (.t 13), none, []⟩,
 ⟨(some 35), .mv (.t 14), none, []⟩,
 ⟨(some 36), .bsl 3 1 [(.t 35)], none, []⟩,
 ⟨(some 37), .app 3 1 8 (.t 34) (.t 36), none, []⟩,
 ⟨(some 13), .mv (.t 37), none, []⟩]))))
 (.reg [⟨(some 38), .bin .add (.t 27) (.c (.val (.int .i64 1))), none, []⟩,
 ⟨(some 27), .mv (.t 38), none, []⟩])))))))
 (.seq (.regD [⟨(some 39), .mv (.t 13), none, []⟩,
 ⟨(some 40), .ld1 (.t 9), none, []⟩,
 ⟨(some 6), .mv (.t 39), none, [0]⟩,
 ⟨(some 7), .mv (.t 40), none, [1, 2, 0]⟩,
 ⟨(some 8), .mv (.c (.val (.bool true))), none, [3, 1, 2, 0]⟩])
 .ret)))))))),
[(.t 6), (.t 7), (.t 8)])
theorem irOk22 : convFn Tryd.prog Tryd.f22 = some ir22 := by kernel_rfl


def rdBox (b : List Int) (p : Nat) (k : Bool) : List LObj := [.box 24 [bytesV b], .box 3 [.int p], .box 4 [.bool k]]
attribute [local go_sem] rdBox bytesV
attribute [local simp] rdBox
theorem read_tri (b : List Int) (hb : ∀ c ∈ b, 0 ≤ c ∧ c ≤ 255) (hl : b.length ≤ 1000000) (a0 : Nat) (ha : a0 ≤ 1000000) (q : Option (Int × Nat)) (hq : getN b a0 = q) (p : Nat) (k : Bool) :
    Tri Tryd.prog G 35 [.int a0, .ptr 0 0, .ptr 1 0, .ptr 2 0] (rdBox b p k) (.int (rdX q)) (rdBox b (rdP q) q.isSome) := by
  refine tri_WO Tryd.func35 (by decide) irOk35 (Nat.le_of_ble_eq_true rfl) rfl rfl rfl ?_
  simp only [ir35, go_sem, ↓reduceIte, zA, zB, zC, zD, zE, zF, reduceCtorEq, zG, zH, zI, zJ, zK, zL, zM, zN, zO, zP]
  refine W_calld (getNum_tri b hb hl a0 ha q hq) rfl rfl rfl rfl ?_; simp only [go_sem, ↓reduceIte, zA, zB, zC, zD, zE, zF, reduceCtorEq, zG, zH, zI, zJ, zK, zL, zM, zN, zO, zP]

def glS (b : List Int) (n : Int) (p : List Int × Nat) : St := ⟨[(9, .ptr 1 0), (10, .ptr 2 0), (11, .fn (.func 35) [] [.ptr 0 0, .ptr 1 0, .ptr 2 0]), (13, .sl 3 p.1.length 1 0 p.1.length), (26, .int n), (27, .int p.1.length)], (rdBox b p.2 true ++ [LObj.dat 3 1 (numR p.1)]).map some⟩
def glRes : Option (List Int × Nat) → LV
  | none => .tup [.d (.val (.slice none 0 0)), .int 0, .bool false]
  | some (xs, e) => .tup [.sl 0 xs.length 1 0 xs.length, .int e, .bool true]
def glObj : Option (List Int × Nat) → List LObj
  | none => []
  | some (xs, e) => [.dat 3 1 (numR xs)]

set_option maxHeartbeats 1000000 in
theorem getListq_tri (b : List Int) (hb : ∀ c ∈ b, 0 ≤ c ∧ c ≤ 255) (hl : b.length ≤ 1000000) (many : Nat) (hm : many ≤ 1000) (q : Option (List Int × Nat)) (hq : getL b 0 many = q) : Tri Tryd.prog G 22 [bytesV b, .int 0, .int many] [] (glRes q) (glObj q) := by
  refine tri_W Tryd.func22 (by decide) irOk22 (Nat.le_of_ble_eq_true rfl) ?_
  simp only [ir22, go_sem, ↓reduceIte, zA, zB, zC, zD, zE, zF, reduceCtorEq, zG, zH, zI, zJ, zK, zL, zM, zN, zO, zP]
  refine W_callo [0, 1, 2] (read_tri b hb hl 0 (by decide) _ rfl 0 false) rfl (by simp only [argRs, argR, List.map_cons, List.map_nil, go_sem, ↓reduceIte, zA, zB, zC, zD, zE, zF, reduceCtorEq, zG, zH, zI, zJ, zK, zL, zM, zN, zO, zP, Int.natCast_zero]) (by decide) (by simp only [go_sem, ↓reduceIte, zA, zB, zC, zD, zE, zF, reduceCtorEq, zG, zH, zI, zJ, zK, zL, zM, zN, zO, zP, Int.natCast_zero]) (by simp only [go_sem, ↓reduceIte, zA, zB, zC, zD, zE, zF, reduceCtorEq, zG, zH, zI, zJ, zK, zL, zM, zN, zO, zP, List.all_cons, List.all_nil, Int.natCast_zero]) (by simp) ?_; simp only [go_sem, ↓reduceIte, zA, zB, zC, zD, zE, zF, reduceCtorEq, zG, zH, zI, zJ, zK, zL, zM, zN, zO, zP, Int.natCast_zero]
  unfold getL at hq
  cases hn : getN b 0 with
  | none =>
    rw [hn] at hq
    subst hq
    simp only [rdX, rdP, Option.isSome_none, glRes, glObj, go_sem, ↓reduceIte, zA, zB, zC, zD, zE, zF, reduceCtorEq, zG, zH, zI, zJ, zK, zL, zM, zN, zO, zP]
    exact BackS (objs' := []) ⟨rfl, rfl⟩ rfl rfl rfl
  | some np =>
  obtain ⟨n, p0⟩ := np
  rw [hn] at hq
  dsimp only at hq
  obtain ⟨hn0, hn1, hp0, hp1⟩ := getN_rng (fun c hc => (hb c hc).1) hn
  by_cases hgt : (many : Int) < n
  case pos =>
    rw [if_pos hgt] at hq
    subst hq
    simp only [rdX, rdP, Option.isSome_some, decide_eq_true (show n > (many : Int) from hgt), glRes, glObj, go_sem, ↓reduceIte, zA, zB, zC, zD, zE, zF, reduceCtorEq, zG, zH, zI, zJ, zK, zL, zM, zN, zO, zP]
    exact BackS (objs' := []) ⟨rfl, rfl⟩ rfl rfl rfl
  rw [if_neg hgt] at hq
  simp only [rdX, rdP, Option.isSome_some, decide_eq_false (show ¬ n > (many : Int) from hgt), go_sem, ↓reduceIte, zA, zB, zC, zD, zE, zF, reduceCtorEq, zG, zH, zI, zJ, zK, zL, zM, zN, zO, zP]
  refine W_loopI [9, 10, 11, 13, 26, 27] [.t 13 3 1] (fun p : List Int × Nat => p.1.length ≤ n.toNat ∧ p.2 ≤ b.length ∧ (getLs b (n.toNat - p.1.length) p.2).map (fun r => (p.1 ++ r.1, r.2)) = q) (fun p => n.toNat - p.1.length) (glS b n) ([], p0) ?_ ⟨Nat.zero_le _, hp1, ?_⟩ ?_
  · simp only [glS, numR, Int.natCast_zero, go_sem, ↓reduceIte, zA, zB, zC, zD, zE, zF, reduceCtorEq, zG, zH, zI, zJ, zK, zL, zM, zN, zO, zP]
  · dsimp only
    rw [← hq]
    simp
  clear hn hp0 hp1 hq
  rintro ⟨xs, p⟩ ⟨hk, hp, hF⟩
  dsimp only at hk hp hF
  generalize hlx : xs.length = k at *
  simp only [glS, hlx, go_sem, ↓reduceIte, zA, zB, zC, zD, zE, zF, reduceCtorEq, zG, zH, zI, zJ, zK, zL, zM, zN, zO, zP]
  cases hlt : decide ((k : Int) < n) with
  | false =>
    have hk2 : k = n.toNat := by have := of_decide_eq_false hlt; omega
    rw [show n.toNat - k = 0 by omega] at hF
    have : q = some (xs, p) := by rw [← hF]; simp [getLs]
    subst this
    simp only [glRes, glObj, hlx, go_sem, ↓reduceIte, zA, zB, zC, zD, zE, zF, reduceCtorEq, zG, zH, zI, zJ, zK, zL, zM, zN, zO, zP]
    refine BackR [] [3] [] (vs := [.sl 3 k 1 0 k, .int p, .bool true]) rfl rfl (by decide) (by simp) (by simp) ?_ ?_ ?_
    · simp [St.obj, objL, adopt, rnO]
    · simp [idlO]
    · simp [oneOr, argR, argRs, adopt, St.obj, objL, LV.int, LV.bool]
  | true =>
  have hk2 : k < n.toNat := by have := of_decide_eq_true hlt; omega
  rw [show n.toNat - k = (n.toNat - (k + 1)) + 1 by omega] at hF
  unfold getLs at hF
  simp only [go_sem, ↓reduceIte, zA, zB, zC, zD, zE, zF, reduceCtorEq, zG, zH, zI, zJ, zK, zL, zM, zN, zO, zP]
  cases hn : getN b p with
  | none =>
    rw [hn] at hF
    have : q = none := by rw [← hF]; rfl
    subst this
    refine W_callo [0, 1, 2] (read_tri b hb hl p (by omega) _ hn p true) rfl (by simp only [argRs, argR, List.map_cons, List.map_nil, go_sem, ↓reduceIte, zA, zB, zC, zD, zE, zF, reduceCtorEq, zG, zH, zI, zJ, zK, zL, zM, zN, zO, zP, rdX, rdP, Option.isSome_none]) (by decide) (by simp only [go_sem, ↓reduceIte, zA, zB, zC, zD, zE, zF, reduceCtorEq, zG, zH, zI, zJ, zK, zL, zM, zN, zO, zP, rdX, rdP, Option.isSome_none]) (by simp only [go_sem, ↓reduceIte, zA, zB, zC, zD, zE, zF, reduceCtorEq, zG, zH, zI, zJ, zK, zL, zM, zN, zO, zP, List.all_cons, List.all_nil, rdX, rdP, Option.isSome_none]) (by simp) ?_; simp only [go_sem, ↓reduceIte, zA, zB, zC, zD, zE, zF, reduceCtorEq, zG, zH, zI, zJ, zK, zL, zM, zN, zO, zP, rdX, rdP, Option.isSome_none]
    simp only [glRes, glObj, go_sem, ↓reduceIte, zA, zB, zC, zD, zE, zF, reduceCtorEq, zG, zH, zI, zJ, zK, zL, zM, zN, zO, zP]
    exact BackS (objs' := []) ⟨rfl, rfl⟩ rfl rfl rfl
  | some np =>
  obtain ⟨x, p1⟩ := np
  rw [hn] at hF
  dsimp only at hF
  refine W_callo [0, 1, 2] (read_tri b hb hl p (by omega) _ hn p true) rfl (by simp only [argRs, argR, List.map_cons, List.map_nil, go_sem, ↓reduceIte, zA, zB, zC, zD, zE, zF, reduceCtorEq, zG, zH, zI, zJ, zK, zL, zM, zN, zO, zP, rdX, rdP, Option.isSome_some]) (by decide) (by simp only [go_sem, ↓reduceIte, zA, zB, zC, zD, zE, zF, reduceCtorEq, zG, zH, zI, zJ, zK, zL, zM, zN, zO, zP, rdX, rdP, Option.isSome_some]) (by simp only [go_sem, ↓reduceIte, zA, zB, zC, zD, zE, zF, reduceCtorEq, zG, zH, zI, zJ, zK, zL, zM, zN, zO, zP, List.all_cons, List.all_nil, rdX, rdP, Option.isSome_some]) (by simp) ?_; simp only [go_sem, ↓reduceIte, zA, zB, zC, zD, zE, zF, reduceCtorEq, zG, zH, zI, zJ, zK, zL, zM, zN, zO, zP, rdX, rdP, Option.isSome_some]
  obtain ⟨hx0, hx1, hp2, hp3⟩ := getN_rng (fun c hc => (hb c hc).1) hn
  have happ : ∀ row : List DV, (numR xs ++ [row]).length * 8 ≤ 70368744177664 := fun row => by simp [numR, hlx]; omega
  have hnl : (numR xs).length = k := by simp [numR, hlx]
  have h7 : k = (numR xs).length ∧ (numR xs ++ [[DV.val (Value.int IntKind.i64 x)]]).length * 8 ≤ 70368744177664 := ⟨hnl.symm, happ _⟩
  rw [if_pos h7]
  simp only [hnl, go_sem, ↓reduceIte, zA, zB, zC, zD, zE, zF, reduceCtorEq, zG, zH, zI, zJ, zK, zL, zM, zN, zO, zP]
  have hap : (xs ++ [x]).length = k + 1 := by simp [hlx]
  refine W_lpI (xs ++ [x], p1) ?_ ?_ ⟨by dsimp only; omega, hp3, ?_⟩ (by dsimp only; omega)
  · simp only [go_sem, ↓reduceIte, zA, zB, zC, zD, zE, zF, reduceCtorEq, zG, zH, zI, zJ, zK, zL, zM, zN, zO, zP]
  · simp only [glS, hap, numR, List.map_append, wrap_succ (show k < 9223372036854775807 by omega), go_sem, ↓reduceIte, zA, zB, zC, zD, zE, zF, reduceCtorEq, zG, zH, zI, zJ, zK, zL, zM, zN, zO, zP]
  · dsimp only
    rw [hap, ← hF]
    cases getLs b (n.toNat - (k + 1)) p1 with
    | none => rfl
    | some r => simp

theorem getList_tri (b : List Int) (hb : ∀ c ∈ b, 0 ≤ c ∧ c ≤ 255) (hl : b.length ≤ 1000000) (many : Nat) (hm : many ≤ 1000) (xs : List Int) (e : Nat) (h : getL b 0 many = some (xs, e)) : Tri Tryd.prog G 22 [bytesV b, .int 0, .int many] [] (.tup [.sl 0 xs.length 1 0 xs.length, .int e, .bool true]) [.dat 3 1 (numR xs)] := getListq_tri b hb hl many hm _ h
theorem getList_none_tri (b : List Int) (hb : ∀ c ∈ b, 0 ≤ c ∧ c ≤ 255) (hl : b.length ≤ 1000000) (many : Nat) (hm : many ≤ 1000) (h : getL b 0 many = none) : Tri Tryd.prog G 22 [bytesV b, .int 0, .int many] [] (.tup [.d (.val (.slice none 0 0)), .int 0, .bool false]) [] := getListq_tri b hb hl many hm _ h
end Dv
