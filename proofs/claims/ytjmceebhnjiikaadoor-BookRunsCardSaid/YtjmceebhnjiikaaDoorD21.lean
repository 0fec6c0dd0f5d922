/- Layer 9's laws: BookRuns. -/
import Derived.Test.YtjmceebhnjiikaaDoorD20
set_option linter.unusedVariables false
set_option linter.unusedSimpArgs false
namespace Dv
open Go Go.Proofs
open Nat renaming reduceEqDiff → zA, reduceAdd → zB, reduceSub → zC, reduceMul → zD, reduceLT → zE, reduceLeDiff → zF
open Int renaming reduceLE → zG, reduceLT → zH, reduceToNat → zI, reduceBEq → zJ, reduceBNe → zK, reduceEq → zL, reduceAdd → zM, reduceSub → zN, reduceMul → zO, reduceNeg → zP
attribute [local go_sem] argEnv W_nil W_seq W_skip W_ret W_exit W_scope W_block W_blk W_reg W_regD W_cond WC_t WC_f WC_any Wx_c Wx_ops Wx_lp Wx_blk W_ops_nil W_opsD_q W_guard W_guardD WG_tt WG_ff WG_tf WG_ft WG_u WGD_tt WGD_ff WGD_tf WGD_ft WGD_u WE_some WED_some W_mv W_pick W_new W_box W_build W_bsl W_ld1 W_ldn W_st W_nck W_bin W_eqb W_not W_cvt W_fad W_fld1 W_fldn W_ixa W_ixr W_ix1 W_ixs W_len W_lens W_mkf W_ext W_app W_min W_isnp W_isns W_eqs W_neg W_ixn W_sli W_sls WD_mv WD_pick WD_new WD_box WD_build WD_bsl WD_ld1 WD_ldn WD_st WD_nck WD_bin WD_eqb WD_not WD_cvt WD_fad WD_fld1 WD_fldn WD_ixa WD_ixr WD_ix1 WD_ixs WD_len WD_lens WD_mkf WD_ext WD_app WD_min WD_isnp WD_isns WD_eqs WD_neg WD_ixn WD_sli WD_sls effF Opd.ev getE putE binV LV.int LV.bool LV.undef Go.undef LV.cells LV.toD LV.toDs splice fillL rowsOf srcRows updL objL Eff.owned nwp St.get St.obj St.put Value.oneCell' Ends adopt Ad.ap isNil St.keep St.okKeep okObj idl idlL idlO RVs.of RV.of oneOr Ends0 EndsO_iff frzs rn rnL rnO piOf eqCells eqV boundV Option.map_some Option.map_none List.append_nil List.nil_append List.cons_append List.map_nil List.map_cons List.length_nil List.length_cons List.set_cons_zero List.set_cons_succ List.take_succ_cons List.take_zero List.take_nil List.drop_succ_cons List.drop_zero List.drop_nil List.getElem?_cons_zero List.getElem?_cons_succ List.getElem?_nil List.isEmpty_nil List.isEmpty_cons List.all_cons List.all_nil List.isEmpty_nil cond_true cond_false Bool.true_and Bool.false_and Bool.and_true Bool.and_false Bool.not_true Bool.not_false Bool.or_true Bool.true_or Bool.or_false Bool.false_or true_and and_true true_or or_true Option.some.injEq LV.d.injEq DV.val.injEq Value.bool.injEq Value.int.injEq decide_true decide_false and_self Nat.zero_add Nat.add_zero if_true if_false Int.toNat_zero beq_self_eq_true Nat.zero_lt_succ Int.toNat_natCast Int.natCast_nonneg List.length_map i64 bl List.zip_cons_cons List.zip_nil_left List.zip_nil_right nwp confV stateV nodeV jobV nodesV jobsV opV msgV nodeR jobR opR msgR zeroOp zeroMsg
variable {G : Nat → Option (List DV)}

/-- dunnagelaw09.BookRuns -/
def ir5 : Nat × C × List RV := (109,
(.seq (.reg [⟨(some 3), .box 23 (.t 0), none, []⟩,
 ⟨(some 6), .mv (.c (.val (.bool false))), none, []⟩])
 (.seq (.seq (.reg [⟨(some 15), .call (.f 14) [], none, []⟩,
 ⟨(some 16), .not (.t 15), none, []⟩])
 (.cond (.t 16) (.seq (.reg [⟨(some 6), .mv (.c (.val (.bool false))), none, []⟩])
 .ret)
 .skip))
 (.seq (.seq (.reg [⟨(some 17), .mv (.t 1), none, []⟩,
 ⟨(some 18), .len (.t 17), none, []⟩,
 ⟨(some 19), .bin .gtr (.t 18) (.c (.val (.int .i64 200))), none, []⟩,
 ⟨(some 20), .mv (.t 19), none, []⟩,
 ⟨(some 21), .ldn 9 (.t 3), (some (20, false)), []⟩,
 ⟨(some 22), .call (.f 17) [(.t 21)], (some (20, false)), []⟩,
 ⟨(some 23), .not (.t 22), (some (20, false)), []⟩,
 ⟨(some 24), .pick (.t 20) (.c (.val (.bool true))) (.t 23), none, []⟩])
 (.cond (.t 24) (.seq (.reg [⟨(some 6), .mv (.c (.val (.bool true))), none, []⟩])
 .ret)
 .skip))
 (.seq (.regD [⟨(some 25), .ldn 9 (.t 3), none, []⟩,
 ⟨(some 26), .call (.f 19) [(.t 25)], none, [0]⟩,
 ⟨(some 27), .ldn 9 (.t 3), none, []⟩,
 ⟨(some 28), .call (.f 20) [(.t 27)], none, [2, 1, 0]⟩,
 ⟨(some 7), .new 27 [(.val (.slice none 0 0)), (.val (.slice none 0 0)), (.val (.int .i64 0)), (.val (.int .i64 0)), (.val (.int .i64 0)), (.val (.int .i64 0))], none, []⟩,
 ⟨(some 8), .new 27 [(.val (.slice none 0 0)), (.val (.slice none 0 0)), (.val (.int .i64 0)), (.val (.int .i64 0)), (.val (.int .i64 0)), (.val (.int .i64 0))], none, []⟩,
 ⟨none, .st 6 (.t 7) (.t 26), none, [4, 1, 0, 3, 2, 5]⟩,
 ⟨none, .st 6 (.t 8) (.t 28), none, [5, 3, 2, 1, 0, 6, 4]⟩])
 (.seq (.seq (.reg [⟨(some 9), .mv (.c (.val (.int .i64 0))), none, []⟩])
 (.block 0 (.loop (.seq (.seq (.reg [⟨(some 29), .mv (.t 9), none, []⟩,
 ⟨(some 30), .mv (.t 1), none, []⟩,
 ⟨(some 31), .len (.t 30), none, []⟩,
 ⟨(some 32), .bin .lss (.t 29) (.t 31), none, []⟩])
 (.cond (.t 32) .skip
 (.exit 0)))
 (.seq (.block 1 (.seq (.regD [⟨(some 36), .ldn 9 (.t 3), none, []⟩,
 ⟨(some 37), .ldn 6 (.t 7), none, []⟩,
 ⟨(some 38), .mv (.t 1), none, []⟩,
 ⟨(some 39), .mv (.t 9), none, []⟩,
 ⟨(some 40), .ixa 7 (.t 38) (.t 39), none, [2, 3]⟩,
 ⟨(some 41), .ldn 7 (.t 40), none, [4, 2, 3]⟩,
 ⟨(some 42), .call (.f 23) [(.t 36), (.t 37), (.t 41)], none, [0, 1, 5, 4, 2, 3]⟩,
 ⟨(some 35), .mv (.t 42), none, [6, 0, 1, 5, 4, 2, 3]⟩,
 ⟨(some 43), .ext (.t 35) 0, none, [7, 6, 0, 1, 5, 4, 2, 3]⟩,
 ⟨(some 44), .ext (.t 35) 1, none, [7, 6, 0, 1, 5, 4, 2, 3]⟩,
 ⟨(some 10), .new 27 [(.val (.slice none 0 0)), (.val (.slice none 0 0)), (.val (.int .i64 0)), (.val (.int .i64 0)), (.val (.int .i64 0)), (.val (.int .i64 0))], none, []⟩,
 ⟨none, .st 6 (.t 10) (.t 43), none, [10, 8, 7, 6, 0, 1, 5, 4, 2, 3]⟩,
 ⟨(some 11), .mv (.t 44), none, [9, 7, 6, 0, 1, 5, 4, 2, 3, 11, 10, 8]⟩])
 (.seq (.regD [⟨(some 46), .ldn 9 (.t 3), none, []⟩,
 ⟨(some 47), .ldn 6 (.t 8), none, []⟩,
 ⟨(some 48), .mv (.t 1), none, []⟩,
 ⟨(some 49), .mv (.t 9), none, []⟩,
 ⟨(some 50), .ixa 7 (.t 48) (.t 49), none, [2, 3]⟩,
 ⟨(some 51), .ldn 7 (.t 50), none, [4, 2, 3]⟩,
 ⟨(some 52), .call (.f 24) [(.t 46), (.t 47), (.t 51)], none, [0, 1, 5, 4, 2, 3]⟩,
 ⟨(some 45), .mv (.t 52), none, [6, 0, 1, 5, 4, 2, 3]⟩,
 ⟨(some 53), .ext (.t 45) 0, none, [7, 6, 0, 1, 5, 4, 2, 3]⟩,
 ⟨(some 54), .ext (.t 45) 1, none, [7, 6, 0, 1, 5, 4, 2, 3]⟩,
 ⟨(some 12), .new 27 [(.val (.slice none 0 0)), (.val (.slice none 0 0)), (.val (.int .i64 0)), (.val (.int .i64 0)), (.val (.int .i64 0)), (.val (.int .i64 0))], none, []⟩,
 ⟨none, .st 6 (.t 12) (.t 53), none, [10, 8, 7, 6, 0, 1, 5, 4, 2, 3]⟩,
 ⟨(some 13), .mv (.t 54), none, [9, 7, 6, 0, 1, 5, 4, 2, 3, 11, 10, 8]⟩])
 (.seq (.seq (.regD [⟨(some 55), .mv (.t 11), none, []⟩,
 ⟨(some 56), .mv (.t 13), none, []⟩,
 ⟨(some 57), .bin .neq (.t 55) (.t 56), none, [0, 1]⟩,
 ⟨(some 58), .mv (.t 57), none, [2, 0, 1]⟩,
 ⟨(some 59), .ldn 6 (.t 10), (some (58, false)), [3, 2, 0, 1]⟩,
 ⟨(some 60), .ldn 6 (.t 12), (some (58, false)), [3, 2, 0, 1]⟩,
 ⟨(some 61), .call (.f 18) [(.t 59), (.t 60)], (some (58, false)), [4, 3, 2, 0, 1, 5]⟩,
 ⟨(some 62), .not (.t 61), (some (58, false)), [6, 4, 3, 2, 0, 1, 5]⟩,
 ⟨(some 63), .pick (.t 58) (.c (.val (.bool true))) (.t 62), none, [3, 2, 0, 1, 7, 6, 4, 5]⟩,
 ⟨(some 64), .mv (.t 63), none, [8, 3, 2, 0, 1, 7, 6, 4, 5]⟩,
 ⟨(some 65), .ldn 6 (.t 10), (some (64, false)), [9, 8, 3, 2, 0, 1, 7, 6, 4, 5]⟩,
 ⟨(some 66), .call (.f 25) [(.t 65)], (some (64, false)), [10, 9, 8, 3, 2, 0, 1, 7, 6, 4, 5]⟩,
 ⟨(some 67), .ldn 6 (.t 12), (some (64, false)), [9, 8, 3, 2, 0, 1, 7, 6, 4, 5]⟩,
 ⟨(some 68), .call (.f 26) [(.t 67)], (some (64, false)), [12, 9, 8, 3, 2, 0, 1, 7, 6, 4, 5, 11, 10]⟩,
 ⟨(some 69), .bin .neq (.t 66) (.t 68), (some (64, false)), [11, 10, 9, 8, 3, 2, 0, 1, 7, 6, 4, 5, 13, 12]⟩,
 ⟨(some 70), .pick (.t 64) (.c (.val (.bool true))) (.t 69), none, [9, 8, 3, 2, 0, 1, 7, 6, 4, 5, 14, 11, 10, 13, 12]⟩,
 ⟨(some 71), .mv (.t 70), none, [15, 9, 8, 3, 2, 0, 1, 7, 6, 4, 5, 14, 11, 10, 13, 12]⟩,
 ⟨(some 72), .ldn 6 (.t 10), (some (71, false)), [16, 15, 9, 8, 3, 2, 0, 1, 7, 6, 4, 5, 14, 11, 10, 13, 12]⟩,
 ⟨(some 73), .mv (.t 2), (some (71, false)), [16, 15, 9, 8, 3, 2, 0, 1, 7, 6, 4, 5, 14, 11, 10, 13, 12]⟩,
 ⟨(some 74), .call (.f 27) [(.t 72), (.t 73)], (some (71, false)), [17, 16, 15, 9, 8, 3, 2, 0, 1, 7, 6, 4, 5, 14, 11, 10, 13, 12, 18]⟩,
 ⟨(some 75), .ldn 6 (.t 12), (some (71, false)), [16, 15, 9, 8, 3, 2, 0, 1, 7, 6, 4, 5, 14, 11, 10, 13, 12]⟩,
 ⟨(some 76), .mv (.t 2), (some (71, false)), [16, 15, 9, 8, 3, 2, 0, 1, 7, 6, 4, 5, 14, 11, 10, 13, 12]⟩,
 ⟨(some 77), .call (.f 28) [(.t 75), (.t 76)], (some (71, false)), [20, 16, 15, 9, 8, 3, 2, 0, 1, 7, 6, 4, 5, 14, 11, 10, 13, 12, 21, 19, 17, 18]⟩,
 ⟨(some 78), .bin .neq (.t 74) (.t 77), (some (71, false)), [19, 17, 16, 15, 9, 8, 3, 2, 0, 1, 7, 6, 4, 5, 14, 11, 10, 13, 12, 18, 22, 20, 21]⟩,
 ⟨(some 79), .pick (.t 71) (.c (.val (.bool true))) (.t 78), none, [16, 15, 9, 8, 3, 2, 0, 1, 7, 6, 4, 5, 14, 11, 10, 13, 12, 23, 19, 17, 18, 22, 20, 21]⟩,
 ⟨(some 80), .mv (.t 79), none, [24, 16, 15, 9, 8, 3, 2, 0, 1, 7, 6, 4, 5, 14, 11, 10, 13, 12, 23, 19, 17, 18, 22, 20, 21]⟩,
 ⟨(some 81), .ldn 6 (.t 10), (some (80, false)), [25, 24, 16, 15, 9, 8, 3, 2, 0, 1, 7, 6, 4, 5, 14, 11, 10, 13, 12, 23, 19, 17, 18, 22, 20, 21]⟩,
 ⟨(some 82), .call (.f 29) [(.t 81)], (some (80, false)), [26, 25, 24, 16, 15, 9, 8, 3, 2, 0, 1, 7, 6, 4, 5, 14, 11, 10, 13, 12, 23, 19, 17, 18, 22, 20, 21]⟩,
 ⟨(some 83), .ldn 6 (.t 12), (some (80, false)), [25, 24, 16, 15, 9, 8, 3, 2, 0, 1, 7, 6, 4, 5, 14, 11, 10, 13, 12, 23, 19, 17, 18, 22, 20, 21]⟩,
 ⟨(some 84), .call (.f 18) [(.t 82), (.t 83)], (some (80, false)), [27, 26, 25, 24, 16, 15, 9, 8, 3, 2, 0, 1, 7, 6, 4, 5, 14, 11, 10, 13, 12, 23, 19, 17, 18, 22, 20, 21, 28]⟩,
 ⟨(some 85), .not (.t 84), (some (80, false)), [29, 27, 26, 25, 24, 16, 15, 9, 8, 3, 2, 0, 1, 7, 6, 4, 5, 14, 11, 10, 13, 12, 23, 19, 17, 18, 22, 20, 21, 28]⟩,
 ⟨(some 86), .pick (.t 80) (.c (.val (.bool true))) (.t 85), none, [25, 24, 16, 15, 9, 8, 3, 2, 0, 1, 7, 6, 4, 5, 14, 11, 10, 13, 12, 23, 19, 17, 18, 22, 20, 21, 30, 29, 27, 26, 28]⟩])
 (.cond (.t 86) (.seq (.reg [⟨(some 6), .mv (.c (.val (.bool false))), none, []⟩])
 .ret)
 .skip))
 (.seq (.seq (.reg [⟨(some 14), .mv (.c (.val (.int .i64 0))), none, []⟩])
 (.block 2 (.loop (.seq (.seq (.reg [⟨(some 87), .mv (.t 14), none, []⟩,
 ⟨(some 88), .fad 0 (.t 12), none, []⟩,
 ⟨(some 89), .ld1 (.t 88), none, []⟩,
 ⟨(some 90), .len (.t 89), none, []⟩,
 ⟨(some 91), .bin .lss (.t 87) (.t 90), none, []⟩])
 (.cond (.t 91) .skip
 (.exit 2)))
 (.seq (.block 3 (.seq (.regD [⟨(some 94), .fad 0 (.t 10), none, []⟩,
 ⟨(some 95), .ld1 (.t 94), none, [0]⟩,
 ⟨(some 96), .mv (.t 14), none, []⟩,
 ⟨(some 97), .ixa 5 (.t 95) (.t 96), none, [1, 0, 2]⟩,
 ⟨(some 98), .ldn 5 (.t 97), none, [3, 1, 0, 2]⟩,
 ⟨(some 99), .call (.f 30) [(.t 98)], none, [4, 3, 1, 0, 2]⟩,
 ⟨(some 100), .fad 0 (.t 12), none, []⟩,
 ⟨(some 101), .ld1 (.t 100), none, [6]⟩,
 ⟨(some 102), .mv (.t 14), none, []⟩,
 ⟨(some 103), .ixa 5 (.t 101) (.t 102), none, [7, 6, 8]⟩,
 ⟨(some 104), .ldn 5 (.t 103), none, [9, 7, 6, 8]⟩,
 ⟨(some 105), .call (.f 31) [(.t 104)], none, [10, 9, 7, 6, 8, 5, 4, 3, 1, 0, 2]⟩,
 ⟨(some 106), .eqb true (.t 99) (.t 105), none, [5, 4, 3, 1, 0, 2, 11, 10, 9, 7, 6, 8]⟩])
 (.cond (.t 106) (.seq (.reg [⟨(some 6), .mv (.c (.val (.bool false))), none, []⟩])
 .ret)
 .skip)))
 (.reg [⟨(some 92), .mv (.t 14), none, []⟩,
 ⟨(some 93), .bin .add (.t 92) (.c (.val (.int .i64 1))), none, []⟩,
 ⟨(some 14), .mv (.t 93), none, []⟩]))))))
 (.seq (.reg [⟨(some 107), .ldn 6 (.t 10), none, []⟩,
 ⟨none, .st 6 (.t 7) (.t 107), none, []⟩])
 (.reg [⟨(some 108), .ldn 6 (.t 12), none, []⟩,
 ⟨none, .st 6 (.t 8) (.t 108), none, []⟩])))))))
 (.reg [⟨(some 33), .mv (.t 9), none, []⟩,
 ⟨(some 34), .bin .add (.t 33) (.c (.val (.int .i64 1))), none, []⟩,
 ⟨(some 9), .mv (.t 34), none, []⟩]))))))
 (.seq (.reg [⟨(some 6), .mv (.c (.val (.bool true))), none, []⟩])
 .ret)))))),
[(.t 6)])
theorem irOk5 : convFn Tryd.prog Tryd.f5 = some ir5 := by kernel_rfl


def opsL (l : List OpD) : LV := .d (.lst 7 (l.map opR))
theorem new_right {c : ConfD} (h : mayB c = true) : RightP c (newD c) := by
  have hn := mayB_nodes h
  have hq := mayB_spec h
  have h4 : 0 ≤ c.quota := by
    have := h
    unfold mayB at this
    simp only [Bool.and_eq_true] at this
    exact (within_t this.1.1.1.1.1.1.2).1
  have e : newD c = ⟨List.replicate c.nodes.toNat node1, [], 1, 1, 0, 0⟩ := if_pos h
  have hg : ∀ i, i < c.nodes.toNat → (List.replicate c.nodes.toNat node1).getD i zeroNode = node1 := fun i hi => by simp [List.getD, hi]
  rw [e]
  refine ⟨h, by simp; omega, by simp, by dsimp only; omega, by dsimp only; omega, by dsimp only; omega, by dsimp only; omega, fun k hk => by simp at hk, fun k hk => by simp at hk, fun k hk => by simp at hk, fun i hi => ?_, fun i hi => ?_, fun i hi hm => ?_, fun i hi h0 => ?_, fun i k hi hk => by simp at hk, fun q hq => by simpa [drainsL] using h4⟩
  all_goals
    dsimp only [List.length_replicate] at hi
    simp only [List.length_replicate] at hi
  · unfold noA; rw [hg i hi]; decide
  · unfold noA; rw [hg i hi]; simp [node1]
  · unfold noA at hm; rw [hg i hi] at hm; cases hm
  · unfold noA at h0; rw [hg i hi] at h0; exact absurd rfl h0

def runsS1 (c : ConfD) (l : List OpD) (queue : Int) (iu : Nat × StateD) : St := ⟨[(1, opsL l), (2, .int queue), (3, .ptr 0 0), (7, .ptr 1 0), (8, .ptr 2 0), (9, .int iu.1)],
  [some (.box 23 [.int c.nodes, .int c.queues, .int c.quota, .int c.wave, .int c.lease, .int c.retry, .int c.deadline, .int c.room, .int c.disk]),
   some (.box 27 [nodesV iu.2.nodes, jobsV iu.2.jobs, .int iu.2.goal, .int iu.2.prior, .int iu.2.mode, .int iu.2.term]),
   some (.box 27 [nodesV iu.2.nodes, jobsV iu.2.jobs, .int iu.2.goal, .int iu.2.prior, .int iu.2.mode, .int iu.2.term])]⟩
def runsS2 (c : ConfD) (l : List OpD) (queue : Int) (i : Nat) (u p : StateD) (k : Nat) : St := ⟨[(1, opsL l), (2, .int queue), (3, .ptr 0 0), (7, .ptr 1 0), (8, .ptr 2 0), (9, .int i), (10, .ptr 3 0), (12, .ptr 4 0), (14, .int k)],
  [some (.box 23 [.int c.nodes, .int c.queues, .int c.quota, .int c.wave, .int c.lease, .int c.retry, .int c.deadline, .int c.room, .int c.disk]),
   some (.box 27 [nodesV u.nodes, jobsV u.jobs, .int u.goal, .int u.prior, .int u.mode, .int u.term]),
   some (.box 27 [nodesV u.nodes, jobsV u.jobs, .int u.goal, .int u.prior, .int u.mode, .int u.term]),
   some (.box 27 [nodesV p.nodes, jobsV p.jobs, .int p.goal, .int p.prior, .int p.mode, .int p.term]),
   some (.box 27 [nodesV p.nodes, jobsV p.jobs, .int p.goal, .int p.prior, .int p.mode, .int p.term]),
   some (.dat 48 5 (p.nodes.map nodeR)), some (.dat 52 12 (p.jobs.map jobR))]⟩
theorem bookRuns_tri (c : ConfD) (l : List OpD) (queue : Int) : Tri Tryd.prog bookG 5 [confV c, opsL l, .int queue] [] (.bool true) [] := by
  refine tri_W0 Tryd.func5 (by decide) irOk5 (Nat.le_of_ble_eq_true rfl) rfl ?_
  simp only [ir5, opsL, go_sem, ↓reduceIte, zA, zB, zC, zD, zE, zF, reduceCtorEq, zG, zH, zI, zJ, zK, zL, zM, zN, zO, zP]
  refine W_calld (alive9_tri) rfl rfl rfl rfl ?_; simp only [go_sem, ↓reduceIte, zA, zB, zC, zD, zE, zF, reduceCtorEq, zG, zH, zI, zJ, zK, zL, zM, zN, zO, zP]
  refine WG_split (fun hl => ?_) (fun hl => ?_) <;> simp only [hl, go_sem, ↓reduceIte, zA, zB, zC, zD, zE, zF, reduceCtorEq, zG, zH, zI, zJ, zK, zL, zM, zN, zO, zP] <;> (try simp only [beq_iff_eq, beq_eq_false_iff_ne, bne_iff_ne, ne_eq, decide_eq_true_eq, decide_eq_false_iff_not, Bool.not_true, Bool.not_false, Bool.not_eq_true, Bool.not_eq_false, bne_eq_false_iff_eq, Decidable.not_not] at hl)
  refine W_calld (may9_tri c) rfl rfl rfl rfl ?_; simp only [go_sem, ↓reduceIte, zA, zB, zC, zD, zE, zF, reduceCtorEq, zG, zH, zI, zJ, zK, zL, zM, zN, zO, zP]
  cases hm : mayB c with
  | false => simp only [go_sem, ↓reduceIte, zA, zB, zC, zD, zE, zF, reduceCtorEq, zG, zH, zI, zJ, zK, zL, zM, zN, zO, zP]
  | true =>
  have hl : l.length ≤ 200 := by omega
  simp only [go_sem, ↓reduceIte, zA, zB, zC, zD, zE, zF, reduceCtorEq, zG, zH, zI, zJ, zK, zL, zM, zN, zO, zP]
  refine WD_calld (new_tri c) rfl rfl rfl rfl ?_; simp only [go_sem, ↓reduceIte, zA, zB, zC, zD, zE, zF, reduceCtorEq, zG, zH, zI, zJ, zK, zL, zM, zN, zO, zP]
  refine WD_calld (new9_tri c) rfl rfl rfl rfl ?_; simp only [go_sem, ↓reduceIte, zA, zB, zC, zD, zE, zF, reduceCtorEq, zG, zH, zI, zJ, zK, zL, zM, zN, zO, zP]
  refine W_opsD_end rfl ?_
  simp only [go_sem, ↓reduceIte, zA, zB, zC, zD, zE, zF, reduceCtorEq, zG, zH, zI, zJ, zK, zL, zM, zN, zO, zP]
  refine W_loopI [1, 2, 3, 7, 8, 9] [] (fun iu : Nat × StateD => iu.1 ≤ l.length ∧ RightP c iu.2) (fun iu => l.length - iu.1) (runsS1 c l queue) (0, newD c) ?_ ⟨Nat.zero_le _, new_right hm⟩ ?_
  · simp only [runsS1, opsL, go_sem, ↓reduceIte, zA, zB, zC, zD, zE, zF, reduceCtorEq, zG, zH, zI, zJ, zK, zL, zM, zN, zO, zP, Int.natCast_zero]
  rintro ⟨i, u⟩ ⟨hi, hu⟩
  dsimp only at hi hu
  simp only [runsS1, opsL, go_sem, ↓reduceIte, zA, zB, zC, zD, zE, zF, reduceCtorEq, zG, zH, zI, zJ, zK, zL, zM, zN, zO, zP]
  refine WC_split (fun h => ?_) (fun h => ?_)
  · have h := lt_of_dec h
    have hg := get_mapD (f := opR) zeroOp h
    generalize l.getD i zeroOp = o at *
    have hp := apply_right hu o
    have hpl := hp.len
    have hpj := hp.jobs
    simp only [hg, go_sem, ↓reduceIte, zA, zB, zC, zD, zE, zF, reduceCtorEq, zG, zH, zI, zJ, zK, zL, zM, zN, zO, zP]
    refine WD_calld (apply_tri c u o) rfl rfl rfl rfl ?_; simp only [go_sem, ↓reduceIte, zA, zB, zC, zD, zE, zF, reduceCtorEq, zG, zH, zI, zJ, zK, zL, zM, zN, zO, zP]
    refine W_opsD_end rfl ?_
    simp only [hg, go_sem, ↓reduceIte, zA, zB, zC, zD, zE, zF, reduceCtorEq, zG, zH, zI, zJ, zK, zL, zM, zN, zO, zP]
    refine WD_calld (apply9_tri c u o hu) rfl rfl rfl rfl ?_; simp only [go_sem, ↓reduceIte, zA, zB, zC, zD, zE, zF, reduceCtorEq, zG, zH, zI, zJ, zK, zL, zM, zN, zO, zP]
    rw [← apply_ref hu o]
    generalize applyD c u o = p at *
    refine W_opsD_end rfl ?_
    simp only [go_sem, ↓reduceIte, zA, zB, zC, zD, zE, zF, reduceCtorEq, zG, zH, zI, zJ, zK, zL, zM, zN, zO, zP]
    simp only [bne_self_eq_false, go_sem, ↓reduceIte, zA, zB, zC, zD, zE, zF, reduceCtorEq, zG, zH, zI, zJ, zK, zL, zM, zN, zO, zP]
    refine WD_calld (same9_tri p.1 p.1 (by omega) (by omega)) rfl rfl rfl rfl ?_; simp only [go_sem, ↓reduceIte, zA, zB, zC, zD, zE, zF, reduceCtorEq, zG, zH, zI, zJ, zK, zL, zM, zN, zO, zP]
    refine WD_calld (meant_tri p.1) rfl rfl rfl rfl ?_; simp only [go_sem, ↓reduceIte, zA, zB, zC, zD, zE, zF, reduceCtorEq, zG, zH, zI, zJ, zK, zL, zM, zN, zO, zP]
    refine WD_calld (meant9_tri p.1) rfl rfl rfl rfl ?_; simp only [go_sem, ↓reduceIte, zA, zB, zC, zD, zE, zF, reduceCtorEq, zG, zH, zI, zJ, zK, zL, zM, zN, zO, zP]
    simp only [bne_self_eq_false, go_sem, ↓reduceIte, zA, zB, zC, zD, zE, zF, reduceCtorEq, zG, zH, zI, zJ, zK, zL, zM, zN, zO, zP]
    refine WD_calld (drains_tri p.1 queue (by omega)) rfl rfl rfl rfl ?_; simp only [go_sem, ↓reduceIte, zA, zB, zC, zD, zE, zF, reduceCtorEq, zG, zH, zI, zJ, zK, zL, zM, zN, zO, zP]
    refine WD_calld (drains9_tri p.1 queue (by omega)) rfl rfl rfl rfl ?_; simp only [go_sem, ↓reduceIte, zA, zB, zC, zD, zE, zF, reduceCtorEq, zG, zH, zI, zJ, zK, zL, zM, zN, zO, zP]
    simp only [bne_self_eq_false, go_sem, ↓reduceIte, zA, zB, zC, zD, zE, zF, reduceCtorEq, zG, zH, zI, zJ, zK, zL, zM, zN, zO, zP]
    refine WD_calln (copy_tri p.1 (by omega) (by omega)) rfl rfl rfl ?_
    simp only [go_sem, ↓reduceIte, zA, zB, zC, zD, zE, zF, reduceCtorEq, zG, zH, zI, zJ, zK, zL, zM, zN, zO, zP]
    refine WD_callz [5, 6] (same9_tri p.1 p.1 (by omega) (by omega)) rfl (by simp [argRs, argR, rowsAt, objL, List.take_of_length_le, go_sem, ↓reduceIte, zA, zB, zC, zD, zE, zF, reduceCtorEq, zG, zH, zI, zJ, zK, zL, zM, zN, zO, zP]) (by simp [objL]) rfl rfl ?_; simp only [go_sem, ↓reduceIte, zA, zB, zC, zD, zE, zF, reduceCtorEq, zG, zH, zI, zJ, zK, zL, zM, zN, zO, zP]
    refine W_opsD_end rfl ?_
    simp only [go_sem, ↓reduceIte, zA, zB, zC, zD, zE, zF, reduceCtorEq, zG, zH, zI, zJ, zK, zL, zM, zN, zO, zP]
    refine W_loopI [1, 2, 3, 7, 8, 9, 10, 12, 14] [] (fun k : Nat => k ≤ p.1.nodes.length) (fun k => p.1.nodes.length - k) (runsS2 c l queue i u p.1) 0 ?_ (Nat.zero_le _) ?_
    · simp only [runsS2, opsL, go_sem, ↓reduceIte, zA, zB, zC, zD, zE, zF, reduceCtorEq, zG, zH, zI, zJ, zK, zL, zM, zN, zO, zP, Int.natCast_zero]
    intro k hk
    simp only [runsS2, opsL, go_sem, ↓reduceIte, zA, zB, zC, zD, zE, zF, reduceCtorEq, zG, zH, zI, zJ, zK, zL, zM, zN, zO, zP]
    refine WC_split (fun h2 => ?_) (fun h2 => ?_)
    · have h2 := lt_of_dec h2
      have hgn := get_mapD (f := nodeR) zeroNode h2
      generalize p.1.nodes.getD k zeroNode = n at *
      simp only [hgn, go_sem, ↓reduceIte, zA, zB, zC, zD, zE, zF, reduceCtorEq, zG, zH, zI, zJ, zK, zL, zM, zN, zO, zP]
      refine WD_calld (free_tri n) rfl rfl rfl rfl ?_; simp only [go_sem, ↓reduceIte, zA, zB, zC, zD, zE, zF, reduceCtorEq, zG, zH, zI, zJ, zK, zL, zM, zN, zO, zP]
      simp only [hgn, go_sem, ↓reduceIte, zA, zB, zC, zD, zE, zF, reduceCtorEq, zG, zH, zI, zJ, zK, zL, zM, zN, zO, zP]
      refine WD_calld (free9_tri n) rfl rfl rfl rfl ?_; simp only [go_sem, ↓reduceIte, zA, zB, zC, zD, zE, zF, reduceCtorEq, zG, zH, zI, zJ, zK, zL, zM, zN, zO, zP]
      refine W_lpI (k + 1) ?_ ?_ (by omega) (by omega)
      · simp only [go_sem, ↓reduceIte, zA, zB, zC, zD, zE, zF, reduceCtorEq, zG, zH, zI, zJ, zK, zL, zM, zN, zO, zP]
      · simp only [runsS2, opsL, go_sem, ↓reduceIte, zA, zB, zC, zD, zE, zF, reduceCtorEq, zG, zH, zI, zJ, zK, zL, zM, zN, zO, zP, wrap_succ (show k < 9223372036854775807 by omega)]
    · simp only [go_sem, ↓reduceIte, zA, zB, zC, zD, zE, zF, reduceCtorEq, zG, zH, zI, zJ, zK, zL, zM, zN, zO, zP]
      refine W_lpI (i + 1, p.1) ?_ ?_ ⟨by dsimp only; omega, hp⟩ (by dsimp only; omega)
      · simp only [go_sem, ↓reduceIte, zA, zB, zC, zD, zE, zF, reduceCtorEq, zG, zH, zI, zJ, zK, zL, zM, zN, zO, zP]
      · simp only [runsS1, opsL, go_sem, ↓reduceIte, zA, zB, zC, zD, zE, zF, reduceCtorEq, zG, zH, zI, zJ, zK, zL, zM, zN, zO, zP, wrap_succ (show i < 9223372036854775807 by omega)]
  · simp only [go_sem, ↓reduceIte, zA, zB, zC, zD, zE, zF, reduceCtorEq, zG, zH, zI, zJ, zK, zL, zM, zN, zO, zP]
end Dv
