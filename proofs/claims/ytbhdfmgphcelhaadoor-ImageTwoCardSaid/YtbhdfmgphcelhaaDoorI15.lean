/- The image's statements: the document's example; every state's bytes; all bytes' states. -/
import Derived.Test.YtbhdfmgphcelhaaDoorI14
import Derived.Test.YtbhdfmgphcelhaaDoorI9
import Derived.Test.YtbhdfmgphcelhaaDoorD18
import Derived.Test.YtbhdfmgphcelhaaDoorPB
set_option linter.unusedVariables false
set_option linter.unusedSimpArgs false
namespace Dv
open Go Go.Proofs
open Nat renaming reduceEqDiff → zA, reduceAdd → zB, reduceSub → zC, reduceMul → zD, reduceLT → zE, reduceLeDiff → zF
open Int renaming reduceLE → zG, reduceLT → zH, reduceToNat → zI, reduceBEq → zJ, reduceBNe → zK, reduceEq → zL, reduceAdd → zM, reduceSub → zN, reduceMul → zO, reduceNeg → zP
attribute [local go_sem] argEnv W_nil W_seq W_skip W_ret W_exit W_scope W_block W_blk W_reg W_regD W_cond WC_t WC_f WC_any Wx_c Wx_ops Wx_lp Wx_blk W_ops_nil W_opsD_q W_guard W_guardD WG_tt WG_ff WG_tf WG_ft WG_u WGD_tt WGD_ff WGD_tf WGD_ft WGD_u WE_some WED_some W_mv W_pick W_new W_box W_build W_bsl W_ld1 W_ldn W_st W_nck W_bin W_eqb W_not W_cvt W_fad W_fld1 W_fldn W_ixa W_ixr W_ix1 W_ixs W_len W_lens W_mkf W_ext W_app W_min W_isnp W_isns W_eqs W_neg W_ixn W_sli W_sls WD_mv WD_pick WD_new WD_box WD_build WD_bsl WD_ld1 WD_ldn WD_st WD_nck WD_bin WD_eqb WD_not WD_cvt WD_fad WD_fld1 WD_fldn WD_ixa WD_ixr WD_ix1 WD_ixs WD_len WD_lens WD_mkf WD_ext WD_app WD_min WD_isnp WD_isns WD_eqs WD_neg WD_ixn WD_sli WD_sls effF Opd.ev getE putE binV LV.int LV.bool LV.undef Go.undef LV.cells LV.toD LV.toDs splice fillL rowsOf srcRows updL objL Eff.owned nwp St.get St.obj St.put Value.oneCell' Ends adopt Ad.ap isNil St.keep St.okKeep okObj idl idlL idlO RVs.of RV.of oneOr Ends0 EndsO_iff frzs rn rnL rnO piOf eqCells eqV boundV Option.map_some Option.map_none List.append_nil List.nil_append List.cons_append List.map_nil List.map_cons List.length_nil List.length_cons List.set_cons_zero List.set_cons_succ List.take_succ_cons List.take_zero List.take_nil List.drop_succ_cons List.drop_zero List.drop_nil List.getElem?_cons_zero List.getElem?_cons_succ List.getElem?_nil List.isEmpty_nil List.isEmpty_cons List.all_cons List.all_nil List.isEmpty_nil cond_true cond_false Bool.true_and Bool.false_and Bool.and_true Bool.and_false Bool.not_true Bool.not_false Bool.or_true Bool.true_or Bool.or_false Bool.false_or true_and and_true true_or or_true Option.some.injEq LV.d.injEq DV.val.injEq Value.bool.injEq Value.int.injEq decide_true decide_false and_self Nat.zero_add Nat.add_zero if_true if_false Int.toNat_zero beq_self_eq_true Nat.zero_lt_succ Int.toNat_natCast Int.natCast_nonneg List.length_map i64 bl List.zip_cons_cons List.zip_nil_left List.zip_nil_right nwp confV stateV nodeV jobV nodesV jobsV opV msgV nodeR jobR opR msgR zeroOp zeroMsg msgsV
variable {G : Nat → Option (List DV)}

/-- dunnagelaw10.alive -/
def ir4 : Nat × C × List RV := (43,
(.seq (.reg [⟨(some 0), .mv (.c (.val (.bool false))), none, []⟩])
 (.seq (.reg [⟨(some 7), .build [(.val (.int .i64 0)), (.val (.int .i64 0)), (.val (.int .i64 0)), (.val (.int .i64 0)), (.val (.int .i64 0)), (.val (.int .i64 0)), (.val (.int .i64 0)), (.val (.int .i64 0)), (.val (.int .i64 0))] [(0, 1, (.c (.val (.int .i64 1)))), (1, 1, (.c (.val (.int .i64 1)))), (3, 1, (.c (.val (.int .i64 1)))), (4, 1, (.c (.val (.int .i64 2)))), (5, 1, (.c (.val (.int .i64 1)))), (6, 1, (.c (.val (.int .i64 1)))), (8, 1, (.c (.val (.int .i64 2000))))], none, []⟩,
 ⟨(some 1), .new 23 [(.val (.int .i64 0)), (.val (.int .i64 0)), (.val (.int .i64 0)), (.val (.int .i64 0)), (.val (.int .i64 0)), (.val (.int .i64 0)), (.val (.int .i64 0)), (.val (.int .i64 0)), (.val (.int .i64 0))], none, []⟩,
 ⟨none, .st 9 (.t 1) (.t 7), none, []⟩])
 (.seq (.reg [⟨(some 8), .ldn 9 (.t 1), none, []⟩,
 ⟨(some 9), .call (.f 10) [(.t 8)], none, []⟩,
 ⟨(some 10), .call (.f 8) [(.t 9)], none, []⟩,
 ⟨(some 2), .mv (.t 10), none, []⟩])
 (.seq (.reg [⟨(some 12), .ldn 9 (.t 1), none, []⟩,
 ⟨(some 13), .mv (.t 2), none, []⟩,
 ⟨(some 14), .call (.f 11) [(.t 12), (.t 13)], none, []⟩,
 ⟨(some 11), .mv (.t 14), none, []⟩,
 ⟨(some 15), .ext (.t 11) 0, none, []⟩,
 ⟨(some 16), .ext (.t 11) 1, none, []⟩,
 ⟨(some 3), .new 27 [(.val (.slice none 0 0)), (.val (.slice none 0 0)), (.val (.int .i64 0)), (.val (.int .i64 0)), (.val (.int .i64 0)), (.val (.int .i64 0))], none, []⟩,
 ⟨none, .st 6 (.t 3) (.t 15), none, []⟩,
 ⟨(some 4), .mv (.t 16), none, []⟩])
 (.seq (.reg [⟨(some 18), .ldn 9 (.t 1), none, []⟩,
 ⟨(some 19), .call (.f 11) [(.t 18), (.c (.val (.slice none 0 0)))], none, []⟩,
 ⟨(some 17), .mv (.t 19), none, []⟩,
 ⟨(some 20), .ext (.t 17) 0, none, []⟩,
 ⟨(some 21), .ext (.t 17) 1, none, []⟩,
 ⟨(some 5), .new 27 [(.val (.slice none 0 0)), (.val (.slice none 0 0)), (.val (.int .i64 0)), (.val (.int .i64 0)), (.val (.int .i64 0)), (.val (.int .i64 0))], none, []⟩,
 ⟨none, .st 6 (.t 5) (.t 20), none, []⟩,
 ⟨(some 6), .mv (.t 21), none, []⟩])
 (.seq (.reg [⟨(some 22), .mv (.t 4), none, []⟩,
 ⟨(some 23), .mv (.t 22), none, []⟩,
 ⟨(some 24), .mv (.t 6), (some (23, true)), []⟩,
 ⟨(some 25), .not (.t 24), (some (23, true)), []⟩,
 ⟨(some 26), .pick (.t 23) (.t 25) (.c (.val (.bool false))), none, []⟩,
 ⟨(some 27), .mv (.t 26), none, []⟩,
 ⟨(some 28), .mv (.t 2), (some (27, true)), []⟩,
 ⟨(some 29), .bsl 5 1 [(.c (.val (.int .u8 9))), (.c (.val (.int .u8 1))), (.c (.val (.int .u8 1))), (.c (.val (.int .u8 1))), (.c (.val (.int .u8 0))), (.c (.val (.int .u8 0))), (.c (.val (.int .u8 1))), (.c (.val (.int .u8 1))), (.c (.val (.int .u8 0))), (.c (.val (.int .u8 0)))], (some (27, true)), []⟩,
 ⟨(some 30), .call (.f 7) [(.t 28), (.t 29)], (some (27, true)), []⟩,
 ⟨(some 31), .pick (.t 27) (.t 30) (.c (.val (.bool false))), none, []⟩,
 ⟨(some 32), .mv (.t 31), none, []⟩,
 ⟨(some 33), .fad 0 (.t 3), (some (32, true)), []⟩,
 ⟨(some 34), .ld1 (.t 33), (some (32, true)), []⟩,
 ⟨(some 35), .len (.t 34), (some (32, true)), []⟩,
 ⟨(some 36), .bin .eql (.t 35) (.c (.val (.int .i64 1))), (some (32, true)), []⟩,
 ⟨(some 37), .pick (.t 32) (.t 36) (.c (.val (.bool false))), none, []⟩,
 ⟨(some 38), .mv (.t 37), none, []⟩,
 ⟨(some 39), .fad 2 (.t 3), (some (38, true)), []⟩,
 ⟨(some 40), .ld1 (.t 39), (some (38, true)), []⟩,
 ⟨(some 41), .bin .eql (.t 40) (.c (.val (.int .i64 1))), (some (38, true)), []⟩,
 ⟨(some 42), .pick (.t 38) (.t 41) (.c (.val (.bool false))), none, []⟩,
 ⟨(some 0), .mv (.t 42), none, []⟩])
 .ret)))))),
[(.t 0)])
theorem irOk4 : convFn Tryd.prog Tryd.f4 = some ir4 := by kernel_rfl

attribute [local go_sem] u8 bytesV getOf

def aliveC : ConfD := ⟨1, 1, 0, 1, 2, 1, 1, 0, 2000⟩
def aliveS : StateD := ⟨[⟨true, false, false, 1, 0⟩], [], 1, 1, 0, 0⟩
def aliveB : List Int := [9, 1, 1, 1, 0, 0, 1, 1, 0, 0]
theorem alive_new : newD aliveC = aliveS := by decide
theorem alive_put : putI aliveS = aliveB := by decide
theorem alive_get : getI aliveC aliveB = some aliveS := by decide
theorem alive_none : getI aliveC [] = none := by decide
set_option maxHeartbeats 1000000 in
theorem alive_tri : Tri Tryd.prog G 4 [] [] (.bool true) [] := by
  refine tri_W0 Tryd.func4 (by decide) irOk4 (Nat.le_of_ble_eq_true rfl) rfl ?_
  simp only [ir4, go_sem, ↓reduceIte, zA, zB, zC, zD, zE, zF, reduceCtorEq, zG, zH, zI, zJ, zK, zL, zM, zN, zO, zP]
  have h1 := new_tri (G := G) aliveC
  rw [alive_new] at h1
  refine W_calld (h1) rfl rfl rfl rfl ?_; simp only [go_sem, ↓reduceIte, zA, zB, zC, zD, zE, zF, reduceCtorEq, zG, zH, zI, zJ, zK, zL, zM, zN, zO, zP]
  have h2 := put_tri (G := G) aliveS (by decide) (by decide)
  rw [alive_put] at h2
  refine W_calld (h2) rfl rfl rfl rfl ?_; simp only [go_sem, ↓reduceIte, zA, zB, zC, zD, zE, zF, reduceCtorEq, zG, zH, zI, zJ, zK, zL, zM, zN, zO, zP]
  have h3 := get_tri (G := G) aliveC aliveB (by decide) (by decide)
  rw [alive_get] at h3
  refine W_calld (h3) rfl rfl rfl rfl ?_; simp only [go_sem, ↓reduceIte, zA, zB, zC, zD, zE, zF, reduceCtorEq, zG, zH, zI, zJ, zK, zL, zM, zN, zO, zP]
  have h4 := get_tri (G := G) aliveC [] (by decide) (by decide)
  rw [alive_none] at h4
  refine W_callf [] (h4) rfl (by simp [argRs, argR, rowsAt, objL, byteR, aliveC, go_sem, ↓reduceIte, zA, zB, zC, zD, zE, zF, reduceCtorEq, zG, zH, zI, zJ, zK, zL, zM, zN, zO, zP]) (by simp [objL]) rfl ?_; simp only [go_sem, ↓reduceIte, zA, zB, zC, zD, zE, zF, reduceCtorEq, zG, zH, zI, zJ, zK, zL, zM, zN, zO, zP]
  simp only [Option.isSome_some, Option.isSome_none, Option.getD_some, Option.getD_none, aliveS, zeroS, go_sem, ↓reduceIte, zA, zB, zC, zD, zE, zF, reduceCtorEq, zG, zH, zI, zJ, zK, zL, zM, zN, zO, zP]
  have h5 := bytes_tri (G := G) aliveB aliveB (by decide)
  refine W_callz [3] (h5) rfl (by simp [argRs, argR, rowsAt, objL, byteR, aliveB, u8, go_sem, ↓reduceIte, zA, zB, zC, zD, zE, zF, reduceCtorEq, zG, zH, zI, zJ, zK, zL, zM, zN, zO, zP]) (by simp [objL]) rfl rfl ?_; simp only [go_sem, ↓reduceIte, zA, zB, zC, zD, zE, zF, reduceCtorEq, zG, zH, zI, zJ, zK, zL, zM, zN, zO, zP]
  simp only [show ((1 : Nat) : Int) = 1 from rfl, go_sem, ↓reduceIte, zA, zB, zC, zD, zE, zF, reduceCtorEq, zG, zH, zI, zJ, zK, zL, zM, zN, zO, zP]

theorem getI_len (c : ConfD) (b : List Int) (hb : ∀ x ∈ b, 0 ≤ x ∧ x ≤ 255) : ((getI c b).getD zeroS).nodes.length ≤ 6 ∧ ((getI c b).getD zeroS).jobs.length ≤ 24 := by
  cases h : getI c b with
  | none => decide
  | some s => obtain ⟨_, _, h3, h4, _⟩ := getI_back hb h; exact ⟨h3, h4⟩
end Dv
