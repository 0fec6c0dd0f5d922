/- Layer 9's laws: BookFrees. -/
import Derived.Test.YtjmceebhnjiikaaDoorD20
import Derived.Test.YtjmceebhnjiikaaDoorL4
set_option linter.unusedVariables false
set_option linter.unusedSimpArgs false
namespace Dv
open Go Go.Proofs
open Nat renaming reduceEqDiff → zA, reduceAdd → zB, reduceSub → zC, reduceMul → zD, reduceLT → zE, reduceLeDiff → zF
open Int renaming reduceLE → zG, reduceLT → zH, reduceToNat → zI, reduceBEq → zJ, reduceBNe → zK, reduceEq → zL, reduceAdd → zM, reduceSub → zN, reduceMul → zO, reduceNeg → zP
attribute [local go_sem] argEnv W_nil W_seq W_skip W_ret W_exit W_scope W_block W_blk W_reg W_regD W_cond WC_t WC_f WC_any Wx_c Wx_ops Wx_lp Wx_blk W_ops_nil W_opsD_q W_guard W_guardD WG_tt WG_ff WG_tf WG_ft WG_u WGD_tt WGD_ff WGD_tf WGD_ft WGD_u WE_some WED_some W_mv W_pick W_new W_box W_build W_bsl W_ld1 W_ldn W_st W_nck W_bin W_eqb W_not W_cvt W_fad W_fld1 W_fldn W_ixa W_ixr W_ix1 W_ixs W_len W_lens W_mkf W_ext W_app W_min W_isnp W_isns W_eqs W_neg W_ixn W_sli W_sls WD_mv WD_pick WD_new WD_box WD_build WD_bsl WD_ld1 WD_ldn WD_st WD_nck WD_bin WD_eqb WD_not WD_cvt WD_fad WD_fld1 WD_fldn WD_ixa WD_ixr WD_ix1 WD_ixs WD_len WD_lens WD_mkf WD_ext WD_app WD_min WD_isnp WD_isns WD_eqs WD_neg WD_ixn WD_sli WD_sls effF Opd.ev getE putE binV LV.int LV.bool LV.undef Go.undef LV.cells LV.toD LV.toDs splice fillL rowsOf srcRows updL objL Eff.owned nwp St.get St.obj St.put Value.oneCell' Ends adopt Ad.ap isNil St.keep St.okKeep okObj idl idlL idlO RVs.of RV.of oneOr Ends0 EndsO_iff frzs rn rnL rnO piOf eqCells eqV boundV Option.map_some Option.map_none List.append_nil List.nil_append List.cons_append List.map_nil List.map_cons List.length_nil List.length_cons List.set_cons_zero List.set_cons_succ List.take_succ_cons List.take_zero List.take_nil List.drop_succ_cons List.drop_zero List.drop_nil List.getElem?_cons_zero List.getElem?_cons_succ List.getElem?_nil List.isEmpty_nil List.isEmpty_cons List.all_cons List.all_nil List.isEmpty_nil cond_true cond_false Bool.true_and Bool.false_and Bool.and_true Bool.and_false Bool.not_true Bool.not_false Bool.or_true Bool.true_or Bool.or_false Bool.false_or true_and and_true true_or or_true Option.some.injEq LV.d.injEq DV.val.injEq Value.bool.injEq Value.int.injEq decide_true decide_false and_self Nat.zero_add Nat.add_zero if_true if_false Int.toNat_zero beq_self_eq_true Nat.zero_lt_succ Int.toNat_natCast Int.natCast_nonneg List.length_map i64 bl List.zip_cons_cons List.zip_nil_left List.zip_nil_right nwp confV stateV nodeV jobV nodesV jobsV opV msgV nodeR jobR opR msgR zeroOp zeroMsg
variable {G : Nat → Option (List DV)}

/-- dunnagelaw09.BookFrees -/
def ir8 : Nat × C × List RV := (65,
(.seq (.reg [⟨(some 3), .box 23 (.t 0), none, []⟩,
 ⟨(some 4), .box 27 (.t 1), none, []⟩,
 ⟨(some 5), .box 35 (.t 2), none, []⟩,
 ⟨(some 6), .mv (.c (.val (.bool false))), none, []⟩])
 (.seq (.seq (.reg [⟨(some 13), .call (.f 14) [], none, []⟩,
 ⟨(some 14), .not (.t 13), none, []⟩])
 (.cond (.t 14) (.seq (.reg [⟨(some 6), .mv (.c (.val (.bool false))), none, []⟩])
 .ret)
 .skip))
 (.seq (.seq (.reg [⟨(some 15), .ldn 6 (.t 4), none, []⟩,
 ⟨(some 16), .call (.f 15) [(.t 15)], none, []⟩,
 ⟨(some 17), .mv (.t 16), none, []⟩,
 ⟨(some 18), .ldn 9 (.t 3), (some (17, false)), []⟩,
 ⟨(some 19), .ldn 6 (.t 4), (some (17, false)), []⟩,
 ⟨(some 20), .call (.f 21) [(.t 18), (.t 19)], (some (17, false)), []⟩,
 ⟨(some 21), .not (.t 20), (some (17, false)), []⟩,
 ⟨(some 22), .pick (.t 17) (.c (.val (.bool true))) (.t 21), none, []⟩])
 (.cond (.t 22) (.seq (.reg [⟨(some 6), .mv (.c (.val (.bool true))), none, []⟩])
 .ret)
 .skip))
 (.seq (.reg [⟨(some 24), .ldn 9 (.t 3), none, []⟩,
 ⟨(some 25), .ldn 6 (.t 4), none, []⟩,
 ⟨(some 26), .ldn 7 (.t 5), none, []⟩,
 ⟨(some 27), .call (.f 23) [(.t 24), (.t 25), (.t 26)], none, []⟩,
 ⟨(some 23), .mv (.t 27), none, []⟩,
 ⟨(some 28), .ext (.t 23) 0, none, []⟩,
 ⟨(some 29), .ext (.t 23) 1, none, []⟩,
 ⟨(some 7), .new 27 [(.val (.slice none 0 0)), (.val (.slice none 0 0)), (.val (.int .i64 0)), (.val (.int .i64 0)), (.val (.int .i64 0)), (.val (.int .i64 0))], none, []⟩,
 ⟨none, .st 6 (.t 7) (.t 28), none, []⟩,
 ⟨(some 8), .mv (.t 29), none, []⟩])
 (.seq (.reg [⟨(some 9), .mv (.c (.val (.int .i64 0))), none, []⟩,
 ⟨(some 10), .mv (.c (.val (.int .i64 0))), none, []⟩])
 (.seq (.seq (.reg [⟨(some 11), .mv (.c (.val (.int .i64 0))), none, []⟩])
 (.block 0 (.loop (.seq (.seq (.reg [⟨(some 30), .mv (.t 11), none, []⟩,
 ⟨(some 31), .fad 1 (.t 7), none, []⟩,
 ⟨(some 32), .ld1 (.t 31), none, []⟩,
 ⟨(some 33), .len (.t 32), none, []⟩,
 ⟨(some 34), .bin .lss (.t 30) (.t 33), none, []⟩])
 (.cond (.t 34) .skip
 (.exit 0)))
 (.seq (.block 1 (.reg [⟨(some 37), .mv (.t 9), none, []⟩,
 ⟨(some 38), .fad 1 (.t 7), none, []⟩,
 ⟨(some 39), .ld1 (.t 38), none, []⟩,
 ⟨(some 40), .mv (.t 11), none, []⟩,
 ⟨(some 41), .ixa 12 (.t 39) (.t 40), none, []⟩,
 ⟨(some 42), .fad 8 (.t 41), none, []⟩,
 ⟨(some 43), .ld1 (.t 42), none, []⟩,
 ⟨(some 44), .call (.f 32) [(.t 43)], none, []⟩,
 ⟨(some 45), .bin .add (.t 37) (.t 44), none, []⟩,
 ⟨(some 9), .mv (.t 45), none, []⟩]))
 (.reg [⟨(some 35), .mv (.t 11), none, []⟩,
 ⟨(some 36), .bin .add (.t 35) (.c (.val (.int .i64 1))), none, []⟩,
 ⟨(some 11), .mv (.t 36), none, []⟩]))))))
 (.seq (.seq (.reg [⟨(some 12), .mv (.c (.val (.int .i64 0))), none, []⟩])
 (.block 2 (.loop (.seq (.seq (.reg [⟨(some 46), .mv (.t 12), none, []⟩,
 ⟨(some 47), .fad 0 (.t 7), none, []⟩,
 ⟨(some 48), .ld1 (.t 47), none, []⟩,
 ⟨(some 49), .len (.t 48), none, []⟩,
 ⟨(some 50), .bin .lss (.t 46) (.t 49), none, []⟩])
 (.cond (.t 50) .skip
 (.exit 2)))
 (.seq (.block 3 (.seq (.reg [⟨(some 53), .fad 0 (.t 7), none, []⟩,
 ⟨(some 54), .ld1 (.t 53), none, []⟩,
 ⟨(some 55), .mv (.t 12), none, []⟩,
 ⟨(some 56), .ixa 5 (.t 54) (.t 55), none, []⟩,
 ⟨(some 57), .fad 4 (.t 56), none, []⟩,
 ⟨(some 58), .ld1 (.t 57), none, []⟩,
 ⟨(some 59), .bin .gtr (.t 58) (.c (.val (.int .i64 0))), none, []⟩])
 (.cond (.t 59) (.reg [⟨(some 60), .mv (.t 10), none, []⟩,
 ⟨(some 61), .bin .add (.t 60) (.c (.val (.int .i64 1))), none, []⟩,
 ⟨(some 10), .mv (.t 61), none, []⟩])
 .skip)))
 (.reg [⟨(some 51), .mv (.t 12), none, []⟩,
 ⟨(some 52), .bin .add (.t 51) (.c (.val (.int .i64 1))), none, []⟩,
 ⟨(some 12), .mv (.t 52), none, []⟩]))))))
 (.seq (.reg [⟨(some 62), .mv (.t 9), none, []⟩,
 ⟨(some 63), .mv (.t 10), none, []⟩,
 ⟨(some 64), .bin .eql (.t 62) (.t 63), none, []⟩,
 ⟨(some 6), .mv (.t 64), none, []⟩])
 .ret)))))))),
[(.t 6)])
theorem irOk8 : convFn Tryd.prog Tryd.f8 = some ir8 := by kernel_rfl


def freesS1 (c : ConfD) (s : StateD) (o : OpD) (p : StateD) (k : Nat) : St := ⟨[(7, .ptr 3 0), (9, .int (sumTo (fun k => many (joA p k).nodes) k)), (10, .int 0), (11, .int k)], [some (.box 23 [.int c.nodes, .int c.queues, .int c.quota, .int c.wave, .int c.lease, .int c.retry, .int c.deadline, .int c.room, .int c.disk]), some (.box 27 [nodesV s.nodes, jobsV s.jobs, .int s.goal, .int s.prior, .int s.mode, .int s.term]), some (.box 35 [.int o.kind, .int o.a, .int o.b, .int o.c, .int o.d, .int o.e, .int o.f]), some (.box 27 [nodesV p.nodes, jobsV p.jobs, .int p.goal, .int p.prior, .int p.mode, .int p.term])]⟩
def freesS2 (c : ConfD) (s : StateD) (o : OpD) (p : StateD) (j : Int) (k : Nat) : St := ⟨[(7, .ptr 3 0), (9, .int j), (10, .int (busy (p.nodes.take k))), (12, .int k)], [some (.box 23 [.int c.nodes, .int c.queues, .int c.quota, .int c.wave, .int c.lease, .int c.retry, .int c.deadline, .int c.room, .int c.disk]), some (.box 27 [nodesV s.nodes, jobsV s.jobs, .int s.goal, .int s.prior, .int s.mode, .int s.term]), some (.box 35 [.int o.kind, .int o.a, .int o.b, .int o.c, .int o.d, .int o.e, .int o.f]), some (.box 27 [nodesV p.nodes, jobsV p.jobs, .int p.goal, .int p.prior, .int p.mode, .int p.term])]⟩
theorem sumMany_le (f : Nat → Int) (h : ∀ k, 0 ≤ f k ∧ f k ≤ 6) : ∀ k : Nat, 0 ≤ sumTo f k ∧ sumTo f k ≤ 6 * k
  | 0 => by simp [sumTo]
  | k + 1 => by
    have := sumMany_le f h k
    have := h k
    simp only [sumTo]
    omega
theorem many_le (m : Int) : 0 ≤ many m ∧ many m ≤ 6 := manyTo_le m 6
theorem bookFrees_tri (c : ConfD) (s : StateD) (o : OpD) : Tri Tryd.prog bookG 8 [confV c, stateV s, opV o] [] (.bool true) [] := by
  refine tri_W0 Tryd.func8 (by decide) irOk8 (Nat.le_of_ble_eq_true rfl) rfl ?_
  simp only [ir8, go_sem, ↓reduceIte, zA, zB, zC, zD, zE, zF, reduceCtorEq, zG, zH, zI, zJ, zK, zL, zM, zN, zO, zP]
  refine W_calld (alive9_tri) rfl rfl rfl rfl ?_; simp only [go_sem, ↓reduceIte, zA, zB, zC, zD, zE, zF, reduceCtorEq, zG, zH, zI, zJ, zK, zL, zM, zN, zO, zP]
  refine W_calld (great_tri s) rfl rfl rfl rfl ?_; simp only [go_sem, ↓reduceIte, zA, zB, zC, zD, zE, zF, reduceCtorEq, zG, zH, zI, zJ, zK, zL, zM, zN, zO, zP]
  cases hg : greatB s with
  | true => simp only [go_sem, ↓reduceIte, zA, zB, zC, zD, zE, zF, reduceCtorEq, zG, zH, zI, zJ, zK, zL, zM, zN, zO, zP]
  | false =>
  have hgr := great_not hg
  simp only [go_sem, ↓reduceIte, zA, zB, zC, zD, zE, zF, reduceCtorEq, zG, zH, zI, zJ, zK, zL, zM, zN, zO, zP]
  refine W_calld (right_tri c s) rfl rfl rfl rfl ?_; simp only [go_sem, ↓reduceIte, zA, zB, zC, zD, zE, zF, reduceCtorEq, zG, zH, zI, zJ, zK, zL, zM, zN, zO, zP]
  cases hr : rightB c s with
  | false => simp only [go_sem, ↓reduceIte, zA, zB, zC, zD, zE, zF, reduceCtorEq, zG, zH, zI, zJ, zK, zL, zM, zN, zO, zP]
  | true =>
  have hp := (right_iff c s).1 hr
  simp only [go_sem, ↓reduceIte, zA, zB, zC, zD, zE, zF, reduceCtorEq, zG, zH, zI, zJ, zK, zL, zM, zN, zO, zP]
  have hq := apply_right hp o
  have hfr := frees hq
  have hqj := hq.jobs
  have hqn := hq.len
  refine W_calld (apply_tri c s o) rfl rfl rfl rfl ?_; simp only [go_sem, ↓reduceIte, zA, zB, zC, zD, zE, zF, reduceCtorEq, zG, zH, zI, zJ, zK, zL, zM, zN, zO, zP]
  generalize applyD c s o = p at *
  refine W_loopI [7, 9, 10, 11] [] (fun k : Nat => k ≤ p.1.jobs.length) (fun k => p.1.jobs.length - k) (freesS1 c s o p.1) 0 ?_ (Nat.zero_le _) ?_
  · simp only [freesS1, go_sem, ↓reduceIte, zA, zB, zC, zD, zE, zF, reduceCtorEq, zG, zH, zI, zJ, zK, zL, zM, zN, zO, zP, sumTo, Int.natCast_zero]
  intro k hk
  simp only [freesS1, go_sem, ↓reduceIte, zA, zB, zC, zD, zE, zF, reduceCtorEq, zG, zH, zI, zJ, zK, zL, zM, zN, zO, zP]
  refine WC_split (fun h => ?_) (fun h => ?_)
  · have h := lt_of_dec h
    have hb := sumMany_le (fun k => many (joA p.1 k).nodes) (fun k => many_le _) k
    have hb2 := many_le (joA p.1 k).nodes
    have hg := get_mapD (f := jobR) zeroJob h
    have e : sumTo (fun k => many (joA p.1 k).nodes) (k + 1) = sumTo (fun k => many (joA p.1 k).nodes) k + many (joA p.1 k).nodes := rfl
    unfold joA at e hb2
    unfold joA at hb ⊢
    generalize sumTo (fun k => many (p.1.jobs.getD k zeroJob).nodes) k = q at *
    generalize hnj : p.1.jobs.getD k zeroJob = j at *
    simp only [hg, go_sem, ↓reduceIte, zA, zB, zC, zD, zE, zF, reduceCtorEq, zG, zH, zI, zJ, zK, zL, zM, zN, zO, zP]
    refine W_calld (many9_tri j.nodes) rfl rfl rfl rfl ?_; simp only [go_sem, ↓reduceIte, zA, zB, zC, zD, zE, zF, reduceCtorEq, zG, zH, zI, zJ, zK, zL, zM, zN, zO, zP]
    refine W_lpI (k + 1) ?_ ?_ (by omega) (by omega)
    · simp only [go_sem, ↓reduceIte, zA, zB, zC, zD, zE, zF, reduceCtorEq, zG, zH, zI, zJ, zK, zL, zM, zN, zO, zP]
    · simp only [freesS1, joA, go_sem, ↓reduceIte, zA, zB, zC, zD, zE, zF, reduceCtorEq, zG, zH, zI, zJ, zK, zL, zM, zN, zO, zP, wrap_succ (show k < 9223372036854775807 by omega), e, wrap_in (show -9223372036854775808 ≤ q + many j.nodes by omega) (by omega)]
  · obtain rfl := eq_of_dec h hk
    simp only [go_sem, ↓reduceIte, zA, zB, zC, zD, zE, zF, reduceCtorEq, zG, zH, zI, zJ, zK, zL, zM, zN, zO, zP, hfr]
    refine W_loopI [7, 9, 10, 12] [] (fun k : Nat => k ≤ p.1.nodes.length) (fun k => p.1.nodes.length - k) (freesS2 c s o p.1 (busy p.1.nodes)) 0 ?_ (Nat.zero_le _) ?_
    · simp only [freesS2, go_sem, ↓reduceIte, zA, zB, zC, zD, zE, zF, reduceCtorEq, zG, zH, zI, zJ, zK, zL, zM, zN, zO, zP, List.take_zero, busy, Int.natCast_zero]
    intro k hk
    simp only [freesS2, go_sem, ↓reduceIte, zA, zB, zC, zD, zE, zF, reduceCtorEq, zG, zH, zI, zJ, zK, zL, zM, zN, zO, zP]
    refine WC_split (fun h => ?_) (fun h => ?_)
    · have h := lt_of_dec h
      have hb := busy_le (p.1.nodes.take k)
      rw [List.length_take] at hb
      have hs := take_snoc p.1.nodes k zeroNode h
      have hg := get_mapD (f := nodeR) zeroNode h
      generalize p.1.nodes.getD k zeroNode = n at *
      have hd := busy_snoc n (p.1.nodes.take k)
      rw [← hs] at hd
      generalize busy (p.1.nodes.take k) = q at *
      simp only [hg, go_sem, ↓reduceIte, zA, zB, zC, zD, zE, zF, reduceCtorEq, zG, zH, zI, zJ, zK, zL, zM, zN, zO, zP]
      refine WC_split (fun hj => ?_) (fun hj => ?_) <;> simp only [hj, go_sem, ↓reduceIte, zA, zB, zC, zD, zE, zF, reduceCtorEq, zG, zH, zI, zJ, zK, zL, zM, zN, zO, zP] <;> (try simp only [beq_iff_eq, beq_eq_false_iff_ne, bne_iff_ne, ne_eq, decide_eq_true_eq, decide_eq_false_iff_not, Bool.not_true, Bool.not_false, Bool.not_eq_true, Bool.not_eq_false, bne_eq_false_iff_eq, Decidable.not_not] at hj)
      · rw [if_pos (by omega)] at hd
        refine W_lpI (k + 1) ?_ ?_ (by omega) (by omega)
        · simp only [go_sem, ↓reduceIte, zA, zB, zC, zD, zE, zF, reduceCtorEq, zG, zH, zI, zJ, zK, zL, zM, zN, zO, zP]
        · simp only [freesS2, go_sem, ↓reduceIte, zA, zB, zC, zD, zE, zF, reduceCtorEq, zG, zH, zI, zJ, zK, zL, zM, zN, zO, zP, wrap_succ (show k < 9223372036854775807 by omega), hd, wrap_in (show -9223372036854775808 ≤ q + 1 by omega) (by omega)]
      · rw [if_neg (by omega), Int.add_zero] at hd
        refine W_lpI (k + 1) ?_ ?_ (by omega) (by omega)
        · simp only [go_sem, ↓reduceIte, zA, zB, zC, zD, zE, zF, reduceCtorEq, zG, zH, zI, zJ, zK, zL, zM, zN, zO, zP]
        · simp only [freesS2, go_sem, ↓reduceIte, zA, zB, zC, zD, zE, zF, reduceCtorEq, zG, zH, zI, zJ, zK, zL, zM, zN, zO, zP, wrap_succ (show k < 9223372036854775807 by omega), hd]
    · obtain rfl := eq_of_dec h hk
      simp only [List.take_length, go_sem, ↓reduceIte, zA, zB, zC, zD, zE, zF, reduceCtorEq, zG, zH, zI, zJ, zK, zL, zM, zN, zO, zP]
end Dv
