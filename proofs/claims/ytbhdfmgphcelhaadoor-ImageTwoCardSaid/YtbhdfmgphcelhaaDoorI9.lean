/- image: a state as bytes. -/
import Derived.Test.YtbhdfmgphcelhaaDoorI8
import Derived.Test.YtbhdfmgphcelhaaDoorPB
set_option linter.unusedVariables false
set_option linter.unusedSimpArgs false
namespace Dv
open Go Go.Proofs
open Nat renaming reduceEqDiff → zA, reduceAdd → zB, reduceSub → zC, reduceMul → zD, reduceLT → zE, reduceLeDiff → zF
open Int renaming reduceLE → zG, reduceLT → zH, reduceToNat → zI, reduceBEq → zJ, reduceBNe → zK, reduceEq → zL, reduceAdd → zM, reduceSub → zN, reduceMul → zO, reduceNeg → zP
attribute [local go_sem] argEnv W_nil W_seq W_skip W_ret W_exit W_scope W_block W_blk W_reg W_regD W_cond WC_t WC_f WC_any Wx_c Wx_ops Wx_lp Wx_blk W_ops_nil W_opsD_q W_guard W_guardD WG_tt WG_ff WG_tf WG_ft WG_u WGD_tt WGD_ff WGD_tf WGD_ft WGD_u WE_some WED_some W_mv W_pick W_new W_box W_build W_bsl W_ld1 W_ldn W_st W_nck W_bin W_eqb W_not W_cvt W_fad W_fld1 W_fldn W_ixa W_ixr W_ix1 W_ixs W_len W_lens W_mkf W_ext W_app W_min W_isnp W_isns W_eqs W_neg W_ixn W_sli W_sls WD_mv WD_pick WD_new WD_box WD_build WD_bsl WD_ld1 WD_ldn WD_st WD_nck WD_bin WD_eqb WD_not WD_cvt WD_fad WD_fld1 WD_fldn WD_ixa WD_ixr WD_ix1 WD_ixs WD_len WD_lens WD_mkf WD_ext WD_app WD_min WD_isnp WD_isns WD_eqs WD_neg WD_ixn WD_sli WD_sls effF Opd.ev getE putE binV LV.int LV.bool LV.undef Go.undef LV.cells LV.toD LV.toDs splice fillL rowsOf srcRows updL objL Eff.owned nwp St.get St.obj St.put Value.oneCell' Ends adopt Ad.ap isNil St.keep St.okKeep okObj idl idlL idlO RVs.of RV.of oneOr Ends0 EndsO_iff frzs rn rnL rnO piOf eqCells eqV boundV Option.map_some Option.map_none List.append_nil List.nil_append List.cons_append List.map_nil List.map_cons List.length_nil List.length_cons List.set_cons_zero List.set_cons_succ List.take_succ_cons List.take_zero List.take_nil List.drop_succ_cons List.drop_zero List.drop_nil List.getElem?_cons_zero List.getElem?_cons_succ List.getElem?_nil List.isEmpty_nil List.isEmpty_cons List.all_cons List.all_nil List.isEmpty_nil cond_true cond_false Bool.true_and Bool.false_and Bool.and_true Bool.and_false Bool.not_true Bool.not_false Bool.or_true Bool.true_or Bool.or_false Bool.false_or true_and and_true true_or or_true Option.some.injEq LV.d.injEq DV.val.injEq Value.bool.injEq Value.int.injEq decide_true decide_false and_self Nat.zero_add Nat.add_zero if_true if_false Int.toNat_zero beq_self_eq_true Nat.zero_lt_succ Int.toNat_natCast Int.natCast_nonneg List.length_map i64 bl List.zip_cons_cons List.zip_nil_left List.zip_nil_right nwp confV stateV nodeV jobV nodesV jobsV opV msgV nodeR jobR opR msgR zeroOp zeroMsg msgsV
variable {G : Nat → Option (List DV)}

/-- image.bit -/
def ir20 : Nat × C × List RV := (7,
(.seq (.reg [⟨(some 4), .mv (.c (.val (.int .i64 0))), none, []⟩])
 (.seq (.seq (.reg [⟨(some 5), .mv (.t 0), none, []⟩])
 (.cond (.t 5) (.seq (.reg [⟨(some 6), .mv (.t 1), none, []⟩,
 ⟨(some 4), .mv (.t 6), none, []⟩])
 .ret)
 .skip))
 (.seq (.reg [⟨(some 4), .mv (.c (.val (.int .i64 0))), none, []⟩])
 .ret))),
[(.t 4)])
theorem irOk20 : convFn Tryd.prog Tryd.f20 = some ir20 := by kernel_rfl
/-- image.Put -/
def ir8 : Nat × C × List RV := (101,
(.seq (.reg [⟨(some 1), .box 27 (.t 0), none, []⟩,
 ⟨(some 2), .mv (.c (.val (.slice none 0 0))), none, []⟩])
 (.seq (.seq (.reg [⟨(some 8), .fad 0 (.t 1), none, []⟩,
 ⟨(some 9), .ld1 (.t 8), none, []⟩,
 ⟨(some 10), .len (.t 9), none, []⟩,
 ⟨(some 11), .bin .gtr (.t 10) (.c (.val (.int .i64 6))), none, []⟩,
 ⟨(some 12), .mv (.t 11), none, []⟩,
 ⟨(some 13), .fad 1 (.t 1), (some (12, false)), []⟩,
 ⟨(some 14), .ld1 (.t 13), (some (12, false)), []⟩,
 ⟨(some 15), .len (.t 14), (some (12, false)), []⟩,
 ⟨(some 16), .bin .gtr (.t 15) (.c (.val (.int .i64 24))), (some (12, false)), []⟩,
 ⟨(some 17), .pick (.t 12) (.c (.val (.bool true))) (.t 16), none, []⟩])
 (.cond (.t 17) (.seq (.reg [⟨(some 2), .mv (.c (.val (.slice none 0 0))), none, []⟩])
 .ret)
 .skip))
 (.seq (.reg [⟨(some 18), .fad 0 (.t 1), none, []⟩,
 ⟨(some 19), .ld1 (.t 18), none, []⟩,
 ⟨(some 20), .len (.t 19), none, []⟩,
 ⟨(some 21), .bsl 3 1 [(.t 20)], none, []⟩,
 ⟨(some 3), .mv (.t 21), none, []⟩])
 (.seq (.seq (.reg [⟨(some 22), .fad 0 (.t 1), none, []⟩,
 ⟨(some 23), .ld1 (.t 22), none, []⟩,
 ⟨(some 24), .len (.t 23), none, []⟩,
 ⟨(some 25), .mv (.c (.val (.int .i64 0))), none, []⟩])
 (.block 0 (.loop (.seq (.reg [⟨(some 26), .bin .lss (.t 25) (.t 24), none, []⟩])
 (.seq (.cond (.t 26) .skip
 (.exit 0))
 (.seq (.block 1 (.seq (.reg [⟨(some 27), .ixa 5 (.t 23) (.t 25), none, []⟩,
 ⟨(some 28), .ldn 5 (.t 27), none, []⟩,
 ⟨(some 5), .new 50 [(.val (.bool false)), (.val (.bool false)), (.val (.bool false)), (.val (.int .i64 0)), (.val (.int .i64 0))], none, []⟩,
 ⟨none, .st 5 (.t 5) (.t 28), none, []⟩])
 (.regD [⟨(some 29), .mv (.t 3), none, []⟩,
 ⟨(some 30), .fad 0 (.t 5), none, []⟩,
 ⟨(some 31), .ld1 (.t 30), none, [1]⟩,
 ⟨(some 32), .call (.f 20) [(.t 31), (.c (.val (.int .i64 1)))], none, [2, 1]⟩,
 ⟨(some 33), .fad 1 (.t 5), none, []⟩,
 ⟨(some 34), .ld1 (.t 33), none, [4]⟩,
 ⟨(some 35), .call (.f 20) [(.t 34), (.c (.val (.int .i64 2)))], none, [5, 4, 3, 2, 1]⟩,
 ⟨(some 36), .bin .or (.t 32) (.t 35), none, [3, 2, 1, 6, 5, 4]⟩,
 ⟨(some 37), .fad 2 (.t 5), none, []⟩,
 ⟨(some 38), .ld1 (.t 37), none, [8]⟩,
 ⟨(some 39), .call (.f 20) [(.t 38), (.c (.val (.int .i64 4)))], none, [9, 8, 6, 5, 4, 3, 2, 1]⟩,
 ⟨(some 40), .bin .or (.t 36) (.t 39), none, [7, 3, 2, 1, 6, 5, 4, 10, 9, 8]⟩,
 ⟨(some 41), .fad 3 (.t 5), none, []⟩,
 ⟨(some 42), .ld1 (.t 41), none, [12]⟩,
 ⟨(some 43), .fad 4 (.t 5), none, []⟩,
 ⟨(some 44), .ld1 (.t 43), none, [14]⟩,
 ⟨(some 45), .bsl 3 1 [(.t 40), (.t 42), (.t 44)], none, [11, 7, 3, 2, 1, 6, 5, 4, 10, 9, 8, 13, 12, 15, 14]⟩,
 ⟨(some 46), .app 3 1 8 (.t 29) (.t 45), none, [0, 16, 11, 7, 3, 2, 1, 6, 5, 4, 10, 9, 8, 13, 12, 15, 14]⟩,
 ⟨(some 3), .mv (.t 46), none, [17, 0, 16, 11, 7, 3, 2, 1, 6, 5, 4, 10, 9, 8, 13, 12, 15, 14]⟩])))
 (.reg [⟨(some 47), .bin .add (.t 25) (.c (.val (.int .i64 1))), none, []⟩,
 ⟨(some 25), .mv (.t 47), none, []⟩])))))))
 (.seq (.reg [⟨(some 48), .mv (.t 3), none, []⟩,
 ⟨(some 49), .fad 1 (.t 1), none, []⟩,
 ⟨(some 50), .ld1 (.t 49), none, []⟩,
 ⟨(some 51), .len (.t 50), none, []⟩,
 ⟨(some 52), .bsl 3 1 [(.t 51)], none, []⟩,
 ⟨(some 53), .app 3 1 8 (.t 48) (.t 52), none, []⟩,
 ⟨(some 3), .mv (.t 53), none, []⟩])
 (.seq (.seq (.reg [⟨(some 54), .fad 1 (.t 1), none, []⟩,
 ⟨(some 55), .ld1 (.t 54), none, []⟩,
 ⟨(some 56), .len (.t 55), none, []⟩,
 ⟨(some 57), .mv (.c (.val (.int .i64 0))), none, []⟩])
 (.block 2 (.loop (.seq (.reg [⟨(some 58), .bin .lss (.t 57) (.t 56), none, []⟩])
 (.seq (.cond (.t 58) .skip
 (.exit 2))
 (.seq (.block 3 (.seq (.reg [⟨(some 59), .ixa 12 (.t 55) (.t 57), none, []⟩,
 ⟨(some 60), .ldn 12 (.t 59), none, []⟩,
 ⟨(some 7), .new 47 [(.val (.int .i64 0)), (.val (.int .i64 0)), (.val (.int .i64 0)), (.val (.int .i64 0)), (.val (.int .i64 0)), (.val (.int .i64 0)), (.val (.int .i64 0)), (.val (.int .i64 0)), (.val (.int .i64 0)), (.val (.int .i64 0)), (.val (.int .i64 0)), (.val (.int .i64 0))], none, []⟩,
 ⟨none, .st 12 (.t 7) (.t 60), none, []⟩])
 (.reg [⟨(some 61), .mv (.t 3), none, []⟩,
 ⟨(some 62), .fad 0 (.t 7), none, []⟩,
 ⟨(some 63), .ld1 (.t 62), none, []⟩,
 ⟨(some 64), .fad 1 (.t 7), none, []⟩,
 ⟨(some 65), .ld1 (.t 64), none, []⟩,
 ⟨(some 66), .fad 2 (.t 7), none, []⟩,
 ⟨(some 67), .ld1 (.t 66), none, []⟩,
 ⟨(some 68), .fad 3 (.t 7), none, []⟩,
 ⟨(some 69), .ld1 (.t 68), none, []⟩,
 ⟨(some 70), .fad 4 (.t 7), none, []⟩,
 ⟨(some 71), .ld1 (.t 70), none, []⟩,
 ⟨(some 72), .fad 5 (.t 7), none, []⟩,
 ⟨(some 73), .ld1 (.t 72), none, []⟩,
 ⟨(some 74), .fad 6 (.t 7), none, []⟩,
 ⟨(some 75), .ld1 (.t 74), none, []⟩,
 ⟨(some 76), .fad 7 (.t 7), none, []⟩,
 ⟨(some 77), .ld1 (.t 76), none, []⟩,
 ⟨(some 78), .fad 8 (.t 7), none, []⟩,
 ⟨(some 79), .ld1 (.t 78), none, []⟩,
 ⟨(some 80), .fad 9 (.t 7), none, []⟩,
 ⟨(some 81), .ld1 (.t 80), none, []⟩,
 ⟨(some 82), .fad 10 (.t 7), none, []⟩,
 ⟨(some 83), .ld1 (.t 82), none, []⟩,
 ⟨(some 84), .fad 11 (.t 7), none, []⟩,
 ⟨(some 85), .ld1 (.t 84), none, []⟩,
 ⟨(some 86), .bsl 3 1 [(.t 63), (.t 65), (.t 67), (.t 69), (.t 71), (.t 73), (.t 75), (.t 77), (.t 79), (.t 81), (.t 83), (.t 85)], none, []⟩,
 ⟨(some 87), .app 3 1 8 (.t 61) (.t 86), none, []⟩,
 ⟨(some 3), .mv (.t 87), none, []⟩])))
 (.reg [⟨(some 88), .bin .add (.t 57) (.c (.val (.int .i64 1))), none, []⟩,
 ⟨(some 57), .mv (.t 88), none, []⟩])))))))
 (.seq (.reg [⟨(some 89), .mv (.t 3), none, []⟩,
 ⟨(some 90), .fad 2 (.t 1), none, []⟩,
 ⟨(some 91), .ld1 (.t 90), none, []⟩,
 ⟨(some 92), .fad 3 (.t 1), none, []⟩,
 ⟨(some 93), .ld1 (.t 92), none, []⟩,
 ⟨(some 94), .fad 4 (.t 1), none, []⟩,
 ⟨(some 95), .ld1 (.t 94), none, []⟩,
 ⟨(some 96), .fad 5 (.t 1), none, []⟩,
 ⟨(some 97), .ld1 (.t 96), none, []⟩,
 ⟨(some 98), .bsl 3 1 [(.t 91), (.t 93), (.t 95), (.t 97)], none, []⟩,
 ⟨(some 99), .app 3 1 8 (.t 89) (.t 98), none, []⟩,
 ⟨(some 100), .call (.f 21) [(.t 99)], none, []⟩,
 ⟨(some 2), .mv (.t 100), none, []⟩])
 .ret))))))),
[(.t 2)])
theorem irOk8 : convFn Tryd.prog Tryd.f8 = some ir8 := by kernel_rfl


theorem bit_tri (b : Bool) (n : Int) : Tri Tryd.prog G 20 [.bool b, .int n] [] (.int (bitI b n)) [] := by
  refine tri_W0 Tryd.func20 (by decide) irOk20 (Nat.le_of_ble_eq_true rfl) rfl ?_
  simp only [ir20, go_sem, ↓reduceIte, zA, zB, zC, zD, zE, zF, reduceCtorEq, zG, zH, zI, zJ, zK, zL, zM, zN, zO, zP]
  cases b <;> simp only [bitI, go_sem, ↓reduceIte, zA, zB, zC, zD, zE, zF, reduceCtorEq, zG, zH, zI, zJ, zK, zL, zM, zN, zO, zP]
theorem flag_or (a b c : Bool) : orI .i64 (orI .i64 (bitI a 1) (bitI b 2)) (bitI c 4) = bitI a 1 + bitI b 2 + bitI c 4 := by
  cases a <;> cases b <;> cases c <;> decide

def stBox (s : StateD) : LObj := .box 27 [nodesV s.nodes, jobsV s.jobs, .int s.goal, .int s.prior, .int s.mode, .int s.term]
def putS1 (s : StateD) (i : Nat) : St := ⟨[(1, .ptr 0 0), (3, .sl 1 (1 + 3 * i) 1 0 (1 + 3 * i)), (23, nodesV s.nodes), (24, .int s.nodes.length), (25, .int i)], [some (stBox s), some (.dat 3 1 (numR (numsN s i)))]⟩
def putS2 (s : StateD) (i : Nat) : St := ⟨[(1, .ptr 0 0), (3, .sl 1 (2 + 3 * s.nodes.length + 12 * i) 1 0 (2 + 3 * s.nodes.length + 12 * i)), (55, jobsV s.jobs), (56, .int s.jobs.length), (57, .int i)], [some (stBox s), some (.dat 3 1 (numR (numsJ s i))), some (.dat 3 1 [[i64 s.jobs.length]])]⟩
attribute [local go_sem] numR bytesV stBox

set_option maxHeartbeats 2000000 in
theorem put_tri (s : StateD) (hN : s.nodes.length ≤ 1000000) (hJ : s.jobs.length ≤ 1000000) : Tri Tryd.prog G 8 [stateV s] [] (bytesV (putI s)) [] := by
  refine tri_W Tryd.func8 (by decide) irOk8 (Nat.le_of_ble_eq_true rfl) ?_
  simp only [ir8, go_sem, ↓reduceIte, zA, zB, zC, zD, zE, zF, reduceCtorEq, zG, zH, zI, zJ, zK, zL, zM, zN, zO, zP]
  by_cases h6 : s.nodes.length ≤ 6
  case neg =>
    have hp : putI s = [] := by unfold putI; rw [if_neg (by omega)]
    simp only [decide_eq_true (show ((s.nodes.length : Nat) : Int) > 6 by omega), hp, go_sem, ↓reduceIte, zA, zB, zC, zD, zE, zF, reduceCtorEq, zG, zH, zI, zJ, zK, zL, zM, zN, zO, zP]
    exact Back0 rfl (by simp [oneOr, argR, bytesV, byteR, St.get, getE])
  by_cases h24 : s.jobs.length ≤ 24
  case neg =>
    have hp : putI s = [] := by unfold putI; rw [if_neg (by omega)]
    simp only [decide_eq_false (show ¬ ((s.nodes.length : Nat) : Int) > 6 by omega), decide_eq_true (show ((s.jobs.length : Nat) : Int) > 24 by omega), hp, go_sem, ↓reduceIte, zA, zB, zC, zD, zE, zF, reduceCtorEq, zG, zH, zI, zJ, zK, zL, zM, zN, zO, zP]
    exact Back0 rfl (by simp [oneOr, argR, bytesV, byteR, St.get, getE])
  have hp : putI s = listB (numsI s) := by unfold putI; rw [if_pos ⟨h6, h24⟩]
  simp only [decide_eq_false (show ¬ ((s.nodes.length : Nat) : Int) > 6 by omega), decide_eq_false (show ¬ ((s.jobs.length : Nat) : Int) > 24 by omega), hp, go_sem, ↓reduceIte, zA, zB, zC, zD, zE, zF, reduceCtorEq, zG, zH, zI, zJ, zK, zL, zM, zN, zO, zP]
  refine W_loopI [1, 3, 23, 24, 25] [] (fun i : Nat => i ≤ s.nodes.length) (fun i => s.nodes.length - i) (putS1 s) 0 ?_ (Nat.zero_le _) ?_
  · simp only [putS1, numsN, List.take_zero, List.flatMap_nil, Int.natCast_zero, Nat.mul_zero, go_sem, ↓reduceIte, zA, zB, zC, zD, zE, zF, reduceCtorEq, zG, zH, zI, zJ, zK, zL, zM, zN, zO, zP]
  · intro i hi
    have hnl : (numR (numsN s i)).length = 1 + 3 * i := by simp only [numR, List.length_map, numsN_len s hi]
    simp only [putS1, go_sem, ↓reduceIte, zA, zB, zC, zD, zE, zF, reduceCtorEq, zG, zH, zI, zJ, zK, zL, zM, zN, zO, zP]
    cases hlt : decide ((i : Int) < (s.nodes.length : Int)) with
    | true =>
      have hi2 : i < s.nodes.length := by have := of_decide_eq_true hlt; omega
      have hg := get_mapD (f := nodeR) zeroNode hi2
      have hsucc := numsN_succ s hi2
      generalize s.nodes.getD i zeroNode = n at *
      obtain ⟨nu, nc, nm, nv, nj⟩ := n
      simp only [nodeR] at hg
      simp only [hg, go_sem, ↓reduceIte, zA, zB, zC, zD, zE, zF, reduceCtorEq, zG, zH, zI, zJ, zK, zL, zM, zN, zO, zP]
      refine WD_calld (bit_tri nu 1) rfl rfl rfl rfl ?_; simp only [go_sem, ↓reduceIte, zA, zB, zC, zD, zE, zF, reduceCtorEq, zG, zH, zI, zJ, zK, zL, zM, zN, zO, zP]
      refine WD_calld (bit_tri nc 2) rfl rfl rfl rfl ?_; simp only [go_sem, ↓reduceIte, zA, zB, zC, zD, zE, zF, reduceCtorEq, zG, zH, zI, zJ, zK, zL, zM, zN, zO, zP]
      refine WD_calld (bit_tri nm 4) rfl rfl rfl rfl ?_; simp only [go_sem, ↓reduceIte, zA, zB, zC, zD, zE, zF, reduceCtorEq, zG, zH, zI, zJ, zK, zL, zM, zN, zO, zP]
      simp only [flag_or, go_sem, ↓reduceIte, zA, zB, zC, zD, zE, zF, reduceCtorEq, zG, zH, zI, zJ, zK, zL, zM, zN, zO, zP]
      have happ : ∀ r : List (List DV), r.length ≤ 20 → (List.map (fun n : Int => [DV.val (Value.int IntKind.i64 n)]) (numsN s i) ++ r).length * 8 ≤ 70368744177664 := fun r hr => by rw [List.length_append, List.length_map, numsN_len s hi]; omega
      rw [if_pos ⟨(numsN_len s hi).symm, happ _ (by simp)⟩]
      simp only [numsN_len s hi, go_sem, ↓reduceIte, zA, zB, zC, zD, zE, zF, reduceCtorEq, zG, zH, zI, zJ, zK, zL, zM, zN, zO, zP]
      refine W_opsD_end (by decide) ?_
      simp only [go_sem, ↓reduceIte, zA, zB, zC, zD, zE, zF, reduceCtorEq, zG, zH, zI, zJ, zK, zL, zM, zN, zO, zP]
      refine W_lpI (i + 1) ?_ ?_ (by omega) (by omega)
      · simp only [go_sem, ↓reduceIte, zA, zB, zC, zD, zE, zF, reduceCtorEq, zG, zH, zI, zJ, zK, zL, zM, zN, zO, zP]
      · simp only [putS1, hsucc, nodeNs, flagI, List.map_append, wrap_succ (show i < 9223372036854775807 by omega), show 1 + 3 * (i + 1) = 1 + 3 * i + 3 by omega, go_sem, ↓reduceIte, zA, zB, zC, zD, zE, zF, reduceCtorEq, zG, zH, zI, zJ, zK, zL, zM, zN, zO, zP]
    | false =>
    have hi2 : i = s.nodes.length := by have := of_decide_eq_false hlt; omega
    subst hi2
    simp only [go_sem, ↓reduceIte, zA, zB, zC, zD, zE, zF, reduceCtorEq, zG, zH, zI, zJ, zK, zL, zM, zN, zO, zP]
    have hN2 := numsN_len s (Nat.le_refl s.nodes.length)
    have happ : ∀ r : List (List DV), r.length ≤ 20 → (List.map (fun n : Int => [DV.val (Value.int IntKind.i64 n)]) (numsN s s.nodes.length) ++ r).length * 8 ≤ 70368744177664 := fun r hr => by rw [List.length_append, List.length_map, hN2]; omega
    rw [if_pos ⟨hN2.symm, happ _ (by simp)⟩]
    simp only [hN2, go_sem, ↓reduceIte, zA, zB, zC, zD, zE, zF, reduceCtorEq, zG, zH, zI, zJ, zK, zL, zM, zN, zO, zP]
    refine W_loopI [1, 3, 55, 56, 57] [] (fun k : Nat => k ≤ s.jobs.length) (fun k => s.jobs.length - k) (putS2 s) 0 ?_ (Nat.zero_le _) ?_
    · simp only [putS2, numsJ, List.take_zero, List.flatMap_nil, List.map_append, Int.natCast_zero, Nat.mul_zero, show 1 + 3 * s.nodes.length + 1 = 2 + 3 * s.nodes.length by omega, go_sem, ↓reduceIte, zA, zB, zC, zD, zE, zF, reduceCtorEq, zG, zH, zI, zJ, zK, zL, zM, zN, zO, zP]
    intro k hk
    have hJ2 := numsJ_len s hk
    have happ : ∀ r : List (List DV), r.length ≤ 20 → (List.map (fun n : Int => [DV.val (Value.int IntKind.i64 n)]) (numsJ s k) ++ r).length * 8 ≤ 70368744177664 := fun r hr => by rw [List.length_append, List.length_map, hJ2]; omega
    simp only [putS2, go_sem, ↓reduceIte, zA, zB, zC, zD, zE, zF, reduceCtorEq, zG, zH, zI, zJ, zK, zL, zM, zN, zO, zP]
    cases hlt : decide ((k : Int) < (s.jobs.length : Int)) with
    | true =>
      have hk2 : k < s.jobs.length := by have := of_decide_eq_true hlt; omega
      have hg := get_mapD (f := jobR) zeroJob hk2
      have hsucc := numsJ_succ s hk2
      generalize s.jobs.getD k zeroJob = j at *
      simp only [jobR] at hg
      simp only [hg, go_sem, ↓reduceIte, zA, zB, zC, zD, zE, zF, reduceCtorEq, zG, zH, zI, zJ, zK, zL, zM, zN, zO, zP]
      rw [if_pos ⟨hJ2.symm, happ _ (by simp)⟩]
      simp only [hJ2, go_sem, ↓reduceIte, zA, zB, zC, zD, zE, zF, reduceCtorEq, zG, zH, zI, zJ, zK, zL, zM, zN, zO, zP]
      refine W_lpI (k + 1) ?_ ?_ (by omega) (by omega)
      · simp only [go_sem, ↓reduceIte, zA, zB, zC, zD, zE, zF, reduceCtorEq, zG, zH, zI, zJ, zK, zL, zM, zN, zO, zP]
      · simp only [putS2, hsucc, jobNs, List.map_append, wrap_succ (show k < 9223372036854775807 by omega), show 2 + 3 * s.nodes.length + 12 * (k + 1) = 2 + 3 * s.nodes.length + 12 * k + 12 by omega, go_sem, ↓reduceIte, zA, zB, zC, zD, zE, zF, reduceCtorEq, zG, zH, zI, zJ, zK, zL, zM, zN, zO, zP]
    | false =>
    have hk2 : k = s.jobs.length := by have := of_decide_eq_false hlt; omega
    subst hk2
    simp only [go_sem, ↓reduceIte, zA, zB, zC, zD, zE, zF, reduceCtorEq, zG, zH, zI, zJ, zK, zL, zM, zN, zO, zP]
    rw [if_pos ⟨hJ2.symm, happ _ (by simp)⟩]
    simp only [hJ2, go_sem, ↓reduceIte, zA, zB, zC, zD, zE, zF, reduceCtorEq, zG, zH, zI, zJ, zK, zL, zM, zN, zO, zP]
    have hnl : (numsI s).length = 2 + 3 * s.nodes.length + 12 * s.jobs.length + 4 := by unfold numsI; rw [List.length_append, hJ2]; rfl
    refine W_callf [1] (list_tri (numsI s) (by omega)) rfl (by simp [argRs, argR, rowsAt, objL, hnl, numsI, List.map_append, List.take_of_length_le, hJ2, go_sem, ↓reduceIte, zA, zB, zC, zD, zE, zF, reduceCtorEq, zG, zH, zI, zJ, zK, zL, zM, zN, zO, zP]) (by simp [objL]) rfl ?_; simp only [go_sem, ↓reduceIte, zA, zB, zC, zD, zE, zF, reduceCtorEq, zG, zH, zI, zJ, zK, zL, zM, zN, zO, zP]
    exact Back0 rfl (by simp [oneOr, argR, bytesV, byteR, St.get, getE])
end Dv
