/- The document's numbers of a state, and its bytes. -/
import Derived.Test.YtbhdfmgphcelhaaI11
import Derived.Test.YtbhdfmgphcelhaaPB
set_option linter.unusedVariables false
set_option linter.unusedSimpArgs false
namespace Dv
open Go Go.Proofs
open Nat renaming reduceEqDiff → zA, reduceAdd → zB, reduceSub → zC, reduceMul → zD, reduceLT → zE, reduceLeDiff → zF
open Int renaming reduceLE → zG, reduceLT → zH, reduceToNat → zI, reduceBEq → zJ, reduceBNe → zK, reduceEq → zL, reduceAdd → zM, reduceSub → zN, reduceMul → zO, reduceNeg → zP
attribute [local go_sem] argEnv W_nil W_seq W_skip W_ret W_exit W_scope W_block W_blk W_reg W_regD W_cond WC_t WC_f WC_any Wx_c Wx_ops Wx_lp Wx_blk W_ops_nil W_opsD_q W_guard W_guardD WG_tt WG_ff WG_tf WG_ft WG_u WGD_tt WGD_ff WGD_tf WGD_ft WGD_u WE_some WED_some W_mv W_pick W_new W_box W_build W_bsl W_ld1 W_ldn W_st W_nck W_bin W_eqb W_not W_cvt W_fad W_fld1 W_fldn W_ixa W_ixr W_ix1 W_ixs W_len W_lens W_mkf W_ext W_app W_min W_isnp W_isns W_eqs W_neg W_ixn W_sli W_sls WD_mv WD_pick WD_new WD_box WD_build WD_bsl WD_ld1 WD_ldn WD_st WD_nck WD_bin WD_eqb WD_not WD_cvt WD_fad WD_fld1 WD_fldn WD_ixa WD_ixr WD_ix1 WD_ixs WD_len WD_lens WD_mkf WD_ext WD_app WD_min WD_isnp WD_isns WD_eqs WD_neg WD_ixn WD_sli WD_sls effF Opd.ev getE putE binV LV.int LV.bool LV.undef Go.undef LV.cells LV.toD LV.toDs splice fillL rowsOf srcRows updL objL Eff.owned nwp St.get St.obj St.put Value.oneCell' Ends adopt Ad.ap isNil St.keep St.okKeep okObj idl idlL idlO RVs.of RV.of oneOr Ends0 EndsO_iff frzs rn rnL rnO piOf eqCells eqV boundV Option.map_some Option.map_none List.append_nil List.nil_append List.cons_append List.map_nil List.map_cons List.length_nil List.length_cons List.set_cons_zero List.set_cons_succ List.take_succ_cons List.take_zero List.take_nil List.drop_succ_cons List.drop_zero List.drop_nil List.getElem?_cons_zero List.getElem?_cons_succ List.getElem?_nil List.isEmpty_nil List.isEmpty_cons List.all_cons List.all_nil List.isEmpty_nil cond_true cond_false Bool.true_and Bool.false_and Bool.and_true Bool.and_false Bool.not_true Bool.not_false Bool.or_true Bool.true_or Bool.or_false Bool.false_or true_and and_true true_or or_true Option.some.injEq LV.d.injEq DV.val.injEq Value.bool.injEq Value.int.injEq decide_true decide_false and_self Nat.zero_add Nat.add_zero if_true if_false Int.toNat_zero beq_self_eq_true Nat.zero_lt_succ Int.toNat_natCast Int.natCast_nonneg List.length_map i64 bl List.zip_cons_cons List.zip_nil_left List.zip_nil_right nwp confV stateV nodeV jobV nodesV jobsV opV msgV nodeR jobR opR msgR zeroOp zeroMsg msgsV
variable {G : Nat → Option (List DV)}

/-- dunnageref10.Numbers -/
def ir19 : Nat × C × List RV := (101,
(.seq (.reg [⟨(some 1), .box 25 (.t 0), none, []⟩,
 ⟨(some 2), .mv (.c (.val (.slice none 0 0))), none, []⟩])
 (.seq (.reg [⟨(some 9), .fad 0 (.t 1), none, []⟩,
 ⟨(some 10), .ld1 (.t 9), none, []⟩,
 ⟨(some 11), .len (.t 10), none, []⟩,
 ⟨(some 12), .bsl 3 1 [(.t 11)], none, []⟩,
 ⟨(some 3), .mv (.t 12), none, []⟩])
 (.seq (.seq (.reg [⟨(some 4), .mv (.c (.val (.int .i64 0))), none, []⟩])
 (.block 0 (.loop (.seq (.seq (.reg [⟨(some 13), .mv (.t 4), none, []⟩,
 ⟨(some 14), .fad 0 (.t 1), none, []⟩,
 ⟨(some 15), .ld1 (.t 14), none, []⟩,
 ⟨(some 16), .len (.t 15), none, []⟩,
 ⟨(some 17), .bin .lss (.t 13) (.t 16), none, []⟩])
 (.cond (.t 17) .skip
 (.exit 0)))
 (.seq (.block 1 (.seq (.reg [⟨(some 20), .fad 0 (.t 1), none, []⟩,
 ⟨(some 21), .ld1 (.t 20), none, []⟩,
 ⟨(some 22), .mv (.t 4), none, []⟩,
 ⟨(some 23), .ixa 5 (.t 21) (.t 22), none, []⟩,
 ⟨(some 24), .ldn 5 (.t 23), none, []⟩,
 ⟨(some 5), .new 42 [(.val (.bool false)), (.val (.bool false)), (.val (.bool false)), (.val (.int .i64 0)), (.val (.int .i64 0))], none, []⟩,
 ⟨none, .st 5 (.t 5) (.t 24), none, []⟩,
 ⟨(some 6), .mv (.c (.val (.int .i64 0))), none, []⟩])
 (.seq (.seq (.reg [⟨(some 25), .fad 0 (.t 5), none, []⟩,
 ⟨(some 26), .ld1 (.t 25), none, []⟩])
 (.cond (.t 26) (.reg [⟨(some 27), .mv (.t 6), none, []⟩,
 ⟨(some 28), .bin .add (.t 27) (.c (.val (.int .i64 1))), none, []⟩,
 ⟨(some 6), .mv (.t 28), none, []⟩])
 .skip))
 (.seq (.seq (.reg [⟨(some 29), .fad 1 (.t 5), none, []⟩,
 ⟨(some 30), .ld1 (.t 29), none, []⟩])
 (.cond (.t 30) (.reg [⟨(some 31), .mv (.t 6), none, []⟩,
 ⟨(some 32), .bin .add (.t 31) (.c (.val (.int .i64 2))), none, []⟩,
 ⟨(some 6), .mv (.t 32), none, []⟩])
 .skip))
 (.seq (.seq (.reg [⟨(some 33), .fad 2 (.t 5), none, []⟩,
 ⟨(some 34), .ld1 (.t 33), none, []⟩])
 (.cond (.t 34) (.reg [⟨(some 35), .mv (.t 6), none, []⟩,
 ⟨(some 36), .bin .add (.t 35) (.c (.val (.int .i64 4))), none, []⟩,
 ⟨(some 6), .mv (.t 36), none, []⟩])
 .skip))
 (.reg [⟨(some 37), .mv (.t 3), none, []⟩,
 ⟨(some 38), .mv (.t 6), none, []⟩,
 ⟨(some 39), .fad 3 (.t 5), none, []⟩,
 ⟨(some 40), .ld1 (.t 39), none, []⟩,
 ⟨(some 41), .fad 4 (.t 5), none, []⟩,
 ⟨(some 42), .ld1 (.t 41), none, []⟩,
 ⟨(some 43), .bsl 3 1 [(.t 38), (.t 40), (.t 42)], none, []⟩,
 ⟨(some 44), .app 3 1 8 (.t 37) (.t 43), none, []⟩,
 ⟨(some 3), .mv (.t 44), none, []⟩]))))))
 (.reg [⟨(some 18), .mv (.t 4), none, []⟩,
 ⟨(some 19), .bin .add (.t 18) (.c (.val (.int .i64 1))), none, []⟩,
 ⟨(some 4), .mv (.t 19), none, []⟩]))))))
 (.seq (.reg [⟨(some 45), .mv (.t 3), none, []⟩,
 ⟨(some 46), .fad 1 (.t 1), none, []⟩,
 ⟨(some 47), .ld1 (.t 46), none, []⟩,
 ⟨(some 48), .len (.t 47), none, []⟩,
 ⟨(some 49), .bsl 3 1 [(.t 48)], none, []⟩,
 ⟨(some 50), .app 3 1 8 (.t 45) (.t 49), none, []⟩,
 ⟨(some 3), .mv (.t 50), none, []⟩])
 (.seq (.seq (.reg [⟨(some 7), .mv (.c (.val (.int .i64 0))), none, []⟩])
 (.block 2 (.loop (.seq (.seq (.reg [⟨(some 51), .mv (.t 7), none, []⟩,
 ⟨(some 52), .fad 1 (.t 1), none, []⟩,
 ⟨(some 53), .ld1 (.t 52), none, []⟩,
 ⟨(some 54), .len (.t 53), none, []⟩,
 ⟨(some 55), .bin .lss (.t 51) (.t 54), none, []⟩])
 (.cond (.t 55) .skip
 (.exit 2)))
 (.seq (.block 3 (.seq (.reg [⟨(some 58), .fad 1 (.t 1), none, []⟩,
 ⟨(some 59), .ld1 (.t 58), none, []⟩,
 ⟨(some 60), .mv (.t 7), none, []⟩,
 ⟨(some 61), .ixa 12 (.t 59) (.t 60), none, []⟩,
 ⟨(some 62), .ldn 12 (.t 61), none, []⟩,
 ⟨(some 8), .new 45 [(.val (.int .i64 0)), (.val (.int .i64 0)), (.val (.int .i64 0)), (.val (.int .i64 0)), (.val (.int .i64 0)), (.val (.int .i64 0)), (.val (.int .i64 0)), (.val (.int .i64 0)), (.val (.int .i64 0)), (.val (.int .i64 0)), (.val (.int .i64 0)), (.val (.int .i64 0))], none, []⟩,
 ⟨none, .st 12 (.t 8) (.t 62), none, []⟩])
 (.reg [⟨(some 63), .mv (.t 3), none, []⟩,
 ⟨(some 64), .fad 0 (.t 8), none, []⟩,
 ⟨(some 65), .ld1 (.t 64), none, []⟩,
 ⟨(some 66), .fad 1 (.t 8), none, []⟩,
 ⟨(some 67), .ld1 (.t 66), none, []⟩,
 ⟨(some 68), .fad 2 (.t 8), none, []⟩,
 ⟨(some 69), .ld1 (.t 68), none, []⟩,
 ⟨(some 70), .fad 3 (.t 8), none, []⟩,
 ⟨(some 71), .ld1 (.t 70), none, []⟩,
 ⟨(some 72), .fad 4 (.t 8), none, []⟩,
 ⟨(some 73), .ld1 (.t 72), none, []⟩,
 ⟨(some 74), .fad 5 (.t 8), none, []⟩,
 ⟨(some 75), .ld1 (.t 74), none, []⟩,
 ⟨(some 76), .fad 6 (.t 8), none, []⟩,
 ⟨(some 77), .ld1 (.t 76), none, []⟩,
 ⟨(some 78), .fad 7 (.t 8), none, []⟩,
 ⟨(some 79), .ld1 (.t 78), none, []⟩,
 ⟨(some 80), .fad 8 (.t 8), none, []⟩,
 ⟨(some 81), .ld1 (.t 80), none, []⟩,
 ⟨(some 82), .fad 9 (.t 8), none, []⟩,
 ⟨(some 83), .ld1 (.t 82), none, []⟩,
 ⟨(some 84), .fad 10 (.t 8), none, []⟩,
 ⟨(some 85), .ld1 (.t 84), none, []⟩,
 ⟨(some 86), .fad 11 (.t 8), none, []⟩,
 ⟨(some 87), .ld1 (.t 86), none, []⟩,
 ⟨(some 88), .bsl 3 1 [(.t 65), (.t 67), (.t 69), (.t 71), (.t 73), (.t 75), (.t 77), (.t 79), (.t 81), (.t 83), (.t 85), (.t 87)], none, []⟩,
 ⟨(some 89), .app 3 1 8 (.t 63) (.t 88), none, []⟩,
 ⟨(some 3), .mv (.t 89), none, []⟩])))
 (.reg [⟨(some 56), .mv (.t 7), none, []⟩,
 ⟨(some 57), .bin .add (.t 56) (.c (.val (.int .i64 1))), none, []⟩,
 ⟨(some 7), .mv (.t 57), none, []⟩]))))))
 (.seq (.reg [⟨(some 90), .mv (.t 3), none, []⟩,
 ⟨(some 91), .fad 2 (.t 1), none, []⟩,
 ⟨(some 92), .ld1 (.t 91), none, []⟩,
 ⟨(some 93), .fad 3 (.t 1), none, []⟩,
 ⟨(some 94), .ld1 (.t 93), none, []⟩,
 ⟨(some 95), .fad 4 (.t 1), none, []⟩,
 ⟨(some 96), .ld1 (.t 95), none, []⟩,
 ⟨(some 97), .fad 5 (.t 1), none, []⟩,
 ⟨(some 98), .ld1 (.t 97), none, []⟩,
 ⟨(some 99), .bsl 3 1 [(.t 92), (.t 94), (.t 96), (.t 98)], none, []⟩,
 ⟨(some 100), .app 3 1 8 (.t 90) (.t 99), none, []⟩,
 ⟨(some 2), .mv (.t 100), none, []⟩])
 .ret)))))),
[(.t 2)])
theorem irOk19 : convFn Try.prog Try.f19 = some ir19 := by kernel_rfl
/-- dunnageref10.Put -/
def ir10 : Nat × C × List RV := (16,
(.seq (.reg [⟨(some 1), .box 25 (.t 0), none, []⟩,
 ⟨(some 2), .mv (.c (.val (.slice none 0 0))), none, []⟩])
 (.seq (.seq (.reg [⟨(some 3), .fad 0 (.t 1), none, []⟩,
 ⟨(some 4), .ld1 (.t 3), none, []⟩,
 ⟨(some 5), .len (.t 4), none, []⟩,
 ⟨(some 6), .bin .gtr (.t 5) (.c (.val (.int .i64 6))), none, []⟩,
 ⟨(some 7), .mv (.t 6), none, []⟩,
 ⟨(some 8), .fad 1 (.t 1), (some (7, false)), []⟩,
 ⟨(some 9), .ld1 (.t 8), (some (7, false)), []⟩,
 ⟨(some 10), .len (.t 9), (some (7, false)), []⟩,
 ⟨(some 11), .bin .gtr (.t 10) (.c (.val (.int .i64 24))), (some (7, false)), []⟩,
 ⟨(some 12), .pick (.t 7) (.c (.val (.bool true))) (.t 11), none, []⟩])
 (.cond (.t 12) (.seq (.reg [⟨(some 2), .mv (.c (.val (.slice none 0 0))), none, []⟩])
 .ret)
 .skip))
 (.seq (.reg [⟨(some 13), .ldn 6 (.t 1), none, []⟩,
 ⟨(some 14), .call (.f 19) [(.t 13)], none, []⟩,
 ⟨(some 15), .call (.f 18) [(.t 14)], none, []⟩,
 ⟨(some 2), .mv (.t 15), none, []⟩])
 .ret))),
[(.t 2)])
theorem irOk10 : convFn Try.prog Try.f10 = some ir10 := by kernel_rfl


def stBox1 (s : StateD) : LObj := .box 25 [nodesV s.nodes, jobsV s.jobs, .int s.goal, .int s.prior, .int s.mode, .int s.term]
def nums1 (s : StateD) (i : Nat) : St := ⟨[(1, .ptr 0 0), (3, .sl 1 (1 + 3 * i) 1 0 (1 + 3 * i)), (4, .int i)], [some (stBox1 s), some (.dat 3 1 (numR (numsN s i)))]⟩
def nums2 (s : StateD) (i : Nat) : St := ⟨[(1, .ptr 0 0), (3, .sl 1 (2 + 3 * s.nodes.length + 12 * i) 1 0 (2 + 3 * s.nodes.length + 12 * i)), (7, .int i)], [some (stBox1 s), some (.dat 3 1 (numR (numsJ s i))), some (.dat 3 1 [[i64 s.jobs.length]])]⟩
attribute [local go_sem] numR bytesV stBox1

set_option maxHeartbeats 2000000 in
theorem nums1_tri (s : StateD) (hN : s.nodes.length ≤ 100000) (hJ : s.jobs.length ≤ 100000) : Tri Try.prog G 19 [stateV s] [] (.d (.lst 1 (numR (numsI s)))) [] := by
  refine tri_W Try.func19 (by decide) irOk19 (Nat.le_of_ble_eq_true rfl) ?_
  simp only [ir19, go_sem, ↓reduceIte, zA, zB, zC, zD, zE, zF, reduceCtorEq, zG, zH, zI, zJ, zK, zL, zM, zN, zO, zP]
  refine W_loopI [1, 3, 4] [] (fun i : Nat => i ≤ s.nodes.length) (fun i => s.nodes.length - i) (nums1 s) 0 ?_ (Nat.zero_le _) ?_
  · simp only [nums1, numsN, List.take_zero, List.flatMap_nil, Int.natCast_zero, Nat.mul_zero, go_sem, ↓reduceIte, zA, zB, zC, zD, zE, zF, reduceCtorEq, zG, zH, zI, zJ, zK, zL, zM, zN, zO, zP]
  · intro i hi
    have hnl : (numR (numsN s i)).length = 1 + 3 * i := by simp only [numR, List.length_map, numsN_len s hi]
    simp only [nums1, go_sem, ↓reduceIte, zA, zB, zC, zD, zE, zF, reduceCtorEq, zG, zH, zI, zJ, zK, zL, zM, zN, zO, zP]
    cases hlt : decide ((i : Int) < (s.nodes.length : Int)) with
    | true =>
      have hi2 : i < s.nodes.length := by have := of_decide_eq_true hlt; omega
      have hg := get_mapD (f := nodeR) zeroNode hi2
      have hsucc := numsN_succ s hi2
      generalize s.nodes.getD i zeroNode = n at *
      obtain ⟨nu, nc, nm, nv, nj⟩ := n
      have happ : ∀ r : List (List DV), r.length ≤ 20 → (List.map (fun n : Int => [DV.val (Value.int IntKind.i64 n)]) (numsN s i) ++ r).length * 8 ≤ 70368744177664 := fun r hr => by rw [List.length_append, List.length_map, numsN_len s hi]; omega
      simp only [nodeR] at hg
      simp only [hg, go_sem, ↓reduceIte, zA, zB, zC, zD, zE, zF, reduceCtorEq, zG, zH, zI, zJ, zK, zL, zM, zN, zO, zP]
      cases nu <;> cases nc <;> cases nm <;> (
        simp only [show IntKind.i64.wrap 1 = 1 from rfl, show IntKind.i64.wrap 2 = 2 from rfl, show IntKind.i64.wrap 3 = 3 from rfl, show IntKind.i64.wrap 4 = 4 from rfl, show IntKind.i64.wrap 5 = 5 from rfl, show IntKind.i64.wrap 6 = 6 from rfl, show IntKind.i64.wrap 7 = 7 from rfl, go_sem, ↓reduceIte, zA, zB, zC, zD, zE, zF, reduceCtorEq, zG, zH, zI, zJ, zK, zL, zM, zN, zO, zP]
        rw [if_pos ⟨(numsN_len s hi).symm, happ _ (by simp)⟩]
        simp only [numsN_len s hi, go_sem, ↓reduceIte, zA, zB, zC, zD, zE, zF, reduceCtorEq, zG, zH, zI, zJ, zK, zL, zM, zN, zO, zP]
        refine W_lpI (i + 1) ?_ ?_ (by omega) (by omega)
        · simp only [go_sem, ↓reduceIte, zA, zB, zC, zD, zE, zF, reduceCtorEq, zG, zH, zI, zJ, zK, zL, zM, zN, zO, zP]
        · simp only [nums1, hsucc, nodeNs, flagI, bitI, Bool.false_eq_true, List.map_append, wrap_succ (show i < 9223372036854775807 by omega), show 1 + 3 * (i + 1) = 1 + 3 * i + 3 by omega, go_sem, ↓reduceIte, zA, zB, zC, zD, zE, zF, reduceCtorEq, zG, zH, zI, zJ, zK, zL, zM, zN, zO, zP])
    | false =>
    have hi2 : i = s.nodes.length := by have := of_decide_eq_false hlt; omega
    subst hi2
    simp only [go_sem, ↓reduceIte, zA, zB, zC, zD, zE, zF, reduceCtorEq, zG, zH, zI, zJ, zK, zL, zM, zN, zO, zP]
    have hN2 := numsN_len s (Nat.le_refl s.nodes.length)
    have happ : ∀ r : List (List DV), r.length ≤ 20 → (List.map (fun n : Int => [DV.val (Value.int IntKind.i64 n)]) (numsN s s.nodes.length) ++ r).length * 8 ≤ 70368744177664 := fun r hr => by rw [List.length_append, List.length_map, hN2]; omega
    rw [if_pos ⟨hN2.symm, happ _ (by simp)⟩]
    simp only [hN2, go_sem, ↓reduceIte, zA, zB, zC, zD, zE, zF, reduceCtorEq, zG, zH, zI, zJ, zK, zL, zM, zN, zO, zP]
    refine W_loopI [1, 3, 7] [] (fun k : Nat => k ≤ s.jobs.length) (fun k => s.jobs.length - k) (nums2 s) 0 ?_ (Nat.zero_le _) ?_
    · simp only [nums2, numsJ, List.take_zero, List.flatMap_nil, List.map_append, Int.natCast_zero, Nat.mul_zero, show 1 + 3 * s.nodes.length + 1 = 2 + 3 * s.nodes.length by omega, go_sem, ↓reduceIte, zA, zB, zC, zD, zE, zF, reduceCtorEq, zG, zH, zI, zJ, zK, zL, zM, zN, zO, zP]
    intro k hk
    have hJ2 := numsJ_len s hk
    have happ : ∀ r : List (List DV), r.length ≤ 20 → (List.map (fun n : Int => [DV.val (Value.int IntKind.i64 n)]) (numsJ s k) ++ r).length * 8 ≤ 70368744177664 := fun r hr => by rw [List.length_append, List.length_map, hJ2]; omega
    simp only [nums2, go_sem, ↓reduceIte, zA, zB, zC, zD, zE, zF, reduceCtorEq, zG, zH, zI, zJ, zK, zL, zM, zN, zO, zP]
    cases hlt : decide ((k : Int) < (s.jobs.length : Int)) with
    | true =>
      have hk2 : k < s.jobs.length := by have := of_decide_eq_true hlt; omega
      have hg := get_mapD (f := jobR) zeroJob hk2
      have hsucc := numsJ_succ s hk2
      generalize s.jobs.getD k zeroJob = j at *
      simp only [jobR] at hg
      simp only [hg, go_sem, ↓reduceIte, zA, zB, zC, zD, zE, zF, reduceCtorEq, zG, zH, zI, zJ, zK, zL, zM, zN, zO, zP]
      rw [if_pos ⟨hJ2.symm, happ _ (by simp)⟩]
      simp only [hJ2, go_sem, ↓reduceIte, zA, zB, zC, zD, zE, zF, reduceCtorEq, zG, zH, zI, zJ, zK, zL, zM, zN, zO, zP]
      refine W_lpI (k + 1) ?_ ?_ (by omega) (by omega)
      · simp only [go_sem, ↓reduceIte, zA, zB, zC, zD, zE, zF, reduceCtorEq, zG, zH, zI, zJ, zK, zL, zM, zN, zO, zP]
      · simp only [nums2, hsucc, jobNs, List.map_append, wrap_succ (show k < 9223372036854775807 by omega), show 2 + 3 * s.nodes.length + 12 * (k + 1) = 2 + 3 * s.nodes.length + 12 * k + 12 by omega, go_sem, ↓reduceIte, zA, zB, zC, zD, zE, zF, reduceCtorEq, zG, zH, zI, zJ, zK, zL, zM, zN, zO, zP]
    | false =>
    have hk2 : k = s.jobs.length := by have := of_decide_eq_false hlt; omega
    subst hk2
    simp only [go_sem, ↓reduceIte, zA, zB, zC, zD, zE, zF, reduceCtorEq, zG, zH, zI, zJ, zK, zL, zM, zN, zO, zP]
    rw [if_pos ⟨hJ2.symm, happ _ (by simp)⟩]
    simp only [hJ2, go_sem, ↓reduceIte, zA, zB, zC, zD, zE, zF, reduceCtorEq, zG, zH, zI, zJ, zK, zL, zM, zN, zO, zP]
    have hnl : (numsI s).length = 2 + 3 * s.nodes.length + 12 * s.jobs.length + 4 := by unfold numsI; rw [List.length_append, hJ2]; rfl
    exact BackZ [1] rfl (by simp [St.obj, objL]) (by simp [St.obj, objL, oneOr, St.get, getE, argR, rowsAt, numsI, List.take_of_length_le, hJ2])
set_option maxHeartbeats 1000000 in
theorem put1_tri (s : StateD) (hN : s.nodes.length ≤ 1000000) (hJ : s.jobs.length ≤ 1000000) : Tri Try.prog G 10 [stateV s] [] (bytesV (putI s)) [] := by
  refine tri_W Try.func10 (by decide) irOk10 (Nat.le_of_ble_eq_true rfl) ?_
  simp only [ir10, go_sem, ↓reduceIte, zA, zB, zC, zD, zE, zF, reduceCtorEq, zG, zH, zI, zJ, zK, zL, zM, zN, zO, zP]
  by_cases h6 : s.nodes.length ≤ 6
  case neg =>
    have hp : putI s = [] := by unfold putI; rw [if_neg (by omega)]
    simp only [decide_eq_true (show ((s.nodes.length : Nat) : Int) > 6 by omega), hp, go_sem, ↓reduceIte, zA, zB, zC, zD, zE, zF, reduceCtorEq, zG, zH, zI, zJ, zK, zL, zM, zN, zO, zP]
    exact Back0 rfl (by simp [oneOr, argR, bytesV, byteR, St.get, getE])
  by_cases h24 : s.jobs.length ≤ 24
  case neg =>
    have hp : putI s = [] := by unfold putI; rw [if_neg (by omega)]
    simp only [decide_eq_false (show ¬ ((s.nodes.length : Nat) : Int) > 6 by omega), decide_eq_true (show ((s.jobs.length : Nat) : Int) > 24 by omega), hp, go_sem, ↓reduceIte, zA, zB, zC, zD, zE, zF, reduceCtorEq, zG, zH, zI, zJ, zK, zL, zM, zN, zO, zP]
    exact Back0 rfl (by simp [oneOr, argR, bytesV, byteR, St.get, getE])
  have hp : putI s = listB (numsI s) := by unfold putI; rw [if_pos ⟨h6, h24⟩]
  simp only [decide_eq_false (show ¬ ((s.nodes.length : Nat) : Int) > 6 by omega), decide_eq_false (show ¬ ((s.jobs.length : Nat) : Int) > 24 by omega), hp, go_sem, ↓reduceIte, zA, zB, zC, zD, zE, zF, reduceCtorEq, zG, zH, zI, zJ, zK, zL, zM, zN, zO, zP]
  refine W_calld (nums1_tri s (by omega) (by omega)) rfl rfl rfl rfl ?_; simp only [go_sem, ↓reduceIte, zA, zB, zC, zD, zE, zF, reduceCtorEq, zG, zH, zI, zJ, zK, zL, zM, zN, zO, zP]
  have hnl : (numsI s).length = 2 + 3 * s.nodes.length + 12 * s.jobs.length + 4 := by unfold numsI; rw [List.length_append, numsJ_len s (Nat.le_refl _)]; rfl
  refine W_calld (list1_tri (numsI s) (by omega)) rfl rfl rfl rfl ?_; simp only [go_sem, ↓reduceIte, zA, zB, zC, zD, zE, zF, reduceCtorEq, zG, zH, zI, zJ, zK, zL, zM, zN, zO, zP]
  exact BackS (objs' := []) ⟨rfl, rfl⟩ rfl rfl rfl
end Dv
