/- Layer 9's laws: BookKeeps. -/
import Derived.Test.YtjmceebhnjiikaaDoorD20
import Derived.Test.YtjmceebhnjiikaaDoorL4
set_option linter.unusedVariables false
set_option linter.unusedSimpArgs false
namespace Dv
open Go Go.Proofs
open Nat renaming reduceEqDiff → zA, reduceAdd → zB, reduceSub → zC, reduceMul → zD, reduceLT → zE, reduceLeDiff → zF
open Int renaming reduceLE → zG, reduceLT → zH, reduceToNat → zI, reduceBEq → zJ, reduceBNe → zK, reduceEq → zL, reduceAdd → zM, reduceSub → zN, reduceMul → zO, reduceNeg → zP
attribute [local go_sem] argEnv W_nil W_seq W_skip W_ret W_exit W_scope W_block W_blk W_reg W_regD W_cond WC_t WC_f WC_any Wx_c Wx_ops Wx_lp Wx_blk W_ops_nil W_opsD_q W_guard W_guardD WG_tt WG_ff WG_tf WG_ft WG_u WGD_tt WGD_ff WGD_tf WGD_ft WGD_u WE_some WED_some W_mv W_pick W_new W_box W_build W_bsl W_ld1 W_ldn W_st W_nck W_bin W_eqb W_not W_cvt W_fad W_fld1 W_fldn W_ixa W_ixr W_ix1 W_ixs W_len W_lens W_mkf W_ext W_app W_min W_isnp W_isns W_eqs W_neg W_ixn W_sli W_sls WD_mv WD_pick WD_new WD_box WD_build WD_bsl WD_ld1 WD_ldn WD_st WD_nck WD_bin WD_eqb WD_not WD_cvt WD_fad WD_fld1 WD_fldn WD_ixa WD_ixr WD_ix1 WD_ixs WD_len WD_lens WD_mkf WD_ext WD_app WD_min WD_isnp WD_isns WD_eqs WD_neg WD_ixn WD_sli WD_sls effF Opd.ev getE putE binV LV.int LV.bool LV.undef Go.undef LV.cells LV.toD LV.toDs splice fillL rowsOf srcRows updL objL Eff.owned nwp St.get St.obj St.put Value.oneCell' Ends adopt Ad.ap isNil St.keep St.okKeep okObj idl idlL idlO RVs.of RV.of oneOr Ends0 EndsO_iff frzs rn rnL rnO piOf eqCells eqV boundV Option.map_some Option.map_none List.append_nil List.nil_append List.cons_append List.map_nil List.map_cons List.length_nil List.length_cons List.set_cons_zero List.set_cons_succ List.take_succ_cons List.take_zero List.take_nil List.drop_succ_cons List.drop_zero List.drop_nil List.getElem?_cons_zero List.getElem?_cons_succ List.getElem?_nil List.isEmpty_nil List.isEmpty_cons List.all_cons List.all_nil List.isEmpty_nil cond_true cond_false Bool.true_and Bool.false_and Bool.and_true Bool.and_false Bool.not_true Bool.not_false Bool.or_true Bool.true_or Bool.or_false Bool.false_or true_and and_true true_or or_true Option.some.injEq LV.d.injEq DV.val.injEq Value.bool.injEq Value.int.injEq decide_true decide_false and_self Nat.zero_add Nat.add_zero if_true if_false Int.toNat_zero beq_self_eq_true Nat.zero_lt_succ Int.toNat_natCast Int.natCast_nonneg List.length_map i64 bl List.zip_cons_cons List.zip_nil_left List.zip_nil_right nwp confV stateV nodeV jobV nodesV jobsV opV msgV nodeR jobR opR msgR zeroOp zeroMsg
variable {G : Nat → Option (List DV)}

/-- dunnagelaw09.BookKeeps -/
def ir7 : Nat × C × List RV := (140,
(.seq (.reg [⟨(some 3), .box 23 (.t 0), none, []⟩,
 ⟨(some 4), .box 27 (.t 1), none, []⟩,
 ⟨(some 6), .mv (.c (.val (.bool false))), none, []⟩])
 (.seq (.seq (.reg [⟨(some 13), .call (.f 14) [], none, []⟩,
 ⟨(some 14), .not (.t 13), none, []⟩])
 (.cond (.t 14) (.seq (.reg [⟨(some 6), .mv (.c (.val (.bool false))), none, []⟩])
 .ret)
 .skip))
 (.seq (.seq (.reg [⟨(some 15), .ldn 6 (.t 4), none, []⟩,
 ⟨(some 16), .call (.f 15) [(.t 15)], none, []⟩,
 ⟨(some 17), .mv (.t 16), none, []⟩,
 ⟨(some 18), .mv (.t 2), (some (17, false)), []⟩,
 ⟨(some 19), .len (.t 18), (some (17, false)), []⟩,
 ⟨(some 20), .bin .gtr (.t 19) (.c (.val (.int .i64 200))), (some (17, false)), []⟩,
 ⟨(some 21), .pick (.t 17) (.c (.val (.bool true))) (.t 20), none, []⟩,
 ⟨(some 22), .mv (.t 21), none, []⟩,
 ⟨(some 23), .ldn 9 (.t 3), (some (22, false)), []⟩,
 ⟨(some 24), .ldn 6 (.t 4), (some (22, false)), []⟩,
 ⟨(some 25), .call (.f 21) [(.t 23), (.t 24)], (some (22, false)), []⟩,
 ⟨(some 26), .not (.t 25), (some (22, false)), []⟩,
 ⟨(some 27), .pick (.t 22) (.c (.val (.bool true))) (.t 26), none, []⟩])
 (.cond (.t 27) (.seq (.reg [⟨(some 6), .mv (.c (.val (.bool true))), none, []⟩])
 .ret)
 .skip))
 (.seq (.seq (.reg [⟨(some 7), .mv (.c (.val (.int .i64 0))), none, []⟩])
 (.block 0 (.loop (.seq (.seq (.reg [⟨(some 28), .mv (.t 7), none, []⟩,
 ⟨(some 29), .mv (.t 2), none, []⟩,
 ⟨(some 30), .len (.t 29), none, []⟩,
 ⟨(some 31), .bin .lss (.t 28) (.t 30), none, []⟩])
 (.cond (.t 31) .skip
 (.exit 0)))
 (.seq (.block 1 (.seq (.regD [⟨(some 35), .ldn 9 (.t 3), none, []⟩,
 ⟨(some 36), .ldn 6 (.t 4), none, []⟩,
 ⟨(some 37), .mv (.t 2), none, []⟩,
 ⟨(some 38), .mv (.t 7), none, []⟩,
 ⟨(some 39), .ixa 7 (.t 37) (.t 38), none, [2, 3]⟩,
 ⟨(some 40), .ldn 7 (.t 39), none, [4, 2, 3]⟩,
 ⟨(some 41), .call (.f 23) [(.t 35), (.t 36), (.t 40)], none, [0, 1, 5, 4, 2, 3]⟩,
 ⟨(some 34), .mv (.t 41), none, [6, 0, 1, 5, 4, 2, 3]⟩,
 ⟨(some 42), .ext (.t 34) 0, none, [7, 6, 0, 1, 5, 4, 2, 3]⟩,
 ⟨(some 43), .ext (.t 34) 1, none, [7, 6, 0, 1, 5, 4, 2, 3]⟩,
 ⟨(some 8), .new 27 [(.val (.slice none 0 0)), (.val (.slice none 0 0)), (.val (.int .i64 0)), (.val (.int .i64 0)), (.val (.int .i64 0)), (.val (.int .i64 0))], none, []⟩,
 ⟨none, .st 6 (.t 8) (.t 42), none, [10, 8, 7, 6, 0, 1, 5, 4, 2, 3]⟩,
 ⟨(some 9), .mv (.t 43), none, [9, 7, 6, 0, 1, 5, 4, 2, 3, 11, 10, 8]⟩])
 (.seq (.seq (.reg [⟨(some 44), .fad 1 (.t 8), none, []⟩,
 ⟨(some 45), .ld1 (.t 44), none, []⟩,
 ⟨(some 46), .len (.t 45), none, []⟩,
 ⟨(some 47), .fad 1 (.t 4), none, []⟩,
 ⟨(some 48), .ld1 (.t 47), none, []⟩,
 ⟨(some 49), .len (.t 48), none, []⟩,
 ⟨(some 50), .bin .lss (.t 46) (.t 49), none, []⟩,
 ⟨(some 51), .mv (.t 50), none, []⟩,
 ⟨(some 52), .fad 5 (.t 8), (some (51, false)), []⟩,
 ⟨(some 53), .ld1 (.t 52), (some (51, false)), []⟩,
 ⟨(some 54), .fad 5 (.t 4), (some (51, false)), []⟩,
 ⟨(some 55), .ld1 (.t 54), (some (51, false)), []⟩,
 ⟨(some 56), .bin .lss (.t 53) (.t 55), (some (51, false)), []⟩,
 ⟨(some 57), .pick (.t 51) (.c (.val (.bool true))) (.t 56), none, []⟩])
 (.cond (.t 57) (.seq (.reg [⟨(some 6), .mv (.c (.val (.bool false))), none, []⟩])
 .ret)
 .skip))
 (.seq (.seq (.reg [⟨(some 10), .mv (.c (.val (.int .i64 0))), none, []⟩])
 (.block 2 (.loop (.seq (.seq (.reg [⟨(some 58), .mv (.t 10), none, []⟩,
 ⟨(some 59), .fad 1 (.t 4), none, []⟩,
 ⟨(some 60), .ld1 (.t 59), none, []⟩,
 ⟨(some 61), .len (.t 60), none, []⟩,
 ⟨(some 62), .bin .lss (.t 58) (.t 61), none, []⟩])
 (.cond (.t 62) .skip
 (.exit 2)))
 (.seq (.block 3 (.seq (.regD [⟨(some 65), .fad 1 (.t 4), none, []⟩,
 ⟨(some 66), .ld1 (.t 65), none, [0]⟩,
 ⟨(some 67), .mv (.t 10), none, []⟩,
 ⟨(some 68), .ixa 12 (.t 66) (.t 67), none, [1, 0, 2]⟩,
 ⟨(some 69), .ldn 12 (.t 68), none, [3, 1, 0, 2]⟩,
 ⟨(some 70), .fad 1 (.t 8), none, []⟩,
 ⟨(some 71), .ld1 (.t 70), none, [5]⟩,
 ⟨(some 72), .mv (.t 10), none, []⟩,
 ⟨(some 73), .ixa 12 (.t 71) (.t 72), none, [6, 5, 7]⟩,
 ⟨(some 74), .ldn 12 (.t 73), none, [8, 6, 5, 7]⟩,
 ⟨(some 11), .new 52 [(.val (.int .i64 0)), (.val (.int .i64 0)), (.val (.int .i64 0)), (.val (.int .i64 0)), (.val (.int .i64 0)), (.val (.int .i64 0)), (.val (.int .i64 0)), (.val (.int .i64 0)), (.val (.int .i64 0)), (.val (.int .i64 0)), (.val (.int .i64 0)), (.val (.int .i64 0))], none, []⟩,
 ⟨(some 12), .new 52 [(.val (.int .i64 0)), (.val (.int .i64 0)), (.val (.int .i64 0)), (.val (.int .i64 0)), (.val (.int .i64 0)), (.val (.int .i64 0)), (.val (.int .i64 0)), (.val (.int .i64 0)), (.val (.int .i64 0)), (.val (.int .i64 0)), (.val (.int .i64 0)), (.val (.int .i64 0))], none, []⟩,
 ⟨none, .st 12 (.t 11) (.t 69), none, [10, 4, 3, 1, 0, 2, 11]⟩,
 ⟨none, .st 12 (.t 12) (.t 74), none, [11, 9, 8, 6, 5, 7, 12, 10, 4, 3, 1, 0, 2]⟩])
 (.seq (.reg [⟨(some 75), .fad 0 (.t 11), none, []⟩,
 ⟨(some 76), .ld1 (.t 75), none, []⟩,
 ⟨(some 77), .fad 0 (.t 12), none, []⟩,
 ⟨(some 78), .ld1 (.t 77), none, []⟩,
 ⟨(some 79), .bin .neq (.t 76) (.t 78), none, []⟩,
 ⟨(some 80), .mv (.t 79), none, []⟩,
 ⟨(some 81), .fad 1 (.t 11), (some (80, false)), []⟩,
 ⟨(some 82), .ld1 (.t 81), (some (80, false)), []⟩,
 ⟨(some 83), .fad 1 (.t 12), (some (80, false)), []⟩,
 ⟨(some 84), .ld1 (.t 83), (some (80, false)), []⟩,
 ⟨(some 85), .bin .neq (.t 82) (.t 84), (some (80, false)), []⟩,
 ⟨(some 86), .pick (.t 80) (.c (.val (.bool true))) (.t 85), none, []⟩,
 ⟨(some 87), .mv (.t 86), none, []⟩,
 ⟨(some 88), .fad 2 (.t 11), (some (87, false)), []⟩,
 ⟨(some 89), .ld1 (.t 88), (some (87, false)), []⟩,
 ⟨(some 90), .fad 2 (.t 12), (some (87, false)), []⟩,
 ⟨(some 91), .ld1 (.t 90), (some (87, false)), []⟩,
 ⟨(some 92), .bin .neq (.t 89) (.t 91), (some (87, false)), []⟩,
 ⟨(some 93), .pick (.t 87) (.c (.val (.bool true))) (.t 92), none, []⟩,
 ⟨(some 94), .mv (.t 93), none, []⟩,
 ⟨(some 95), .fad 3 (.t 11), (some (94, false)), []⟩,
 ⟨(some 96), .ld1 (.t 95), (some (94, false)), []⟩,
 ⟨(some 97), .fad 3 (.t 12), (some (94, false)), []⟩,
 ⟨(some 98), .ld1 (.t 97), (some (94, false)), []⟩,
 ⟨(some 99), .bin .neq (.t 96) (.t 98), (some (94, false)), []⟩,
 ⟨(some 100), .pick (.t 94) (.c (.val (.bool true))) (.t 99), none, []⟩,
 ⟨(some 101), .mv (.t 100), none, []⟩,
 ⟨(some 102), .fad 4 (.t 11), (some (101, false)), []⟩,
 ⟨(some 103), .ld1 (.t 102), (some (101, false)), []⟩,
 ⟨(some 104), .fad 4 (.t 12), (some (101, false)), []⟩,
 ⟨(some 105), .ld1 (.t 104), (some (101, false)), []⟩,
 ⟨(some 106), .bin .neq (.t 103) (.t 105), (some (101, false)), []⟩,
 ⟨(some 107), .pick (.t 101) (.c (.val (.bool true))) (.t 106), none, []⟩,
 ⟨(some 108), .mv (.t 107), none, []⟩,
 ⟨(some 109), .fad 5 (.t 11), (some (108, false)), []⟩,
 ⟨(some 110), .ld1 (.t 109), (some (108, false)), []⟩,
 ⟨(some 111), .fad 5 (.t 12), (some (108, false)), []⟩,
 ⟨(some 112), .ld1 (.t 111), (some (108, false)), []⟩,
 ⟨(some 113), .bin .neq (.t 110) (.t 112), (some (108, false)), []⟩,
 ⟨(some 114), .pick (.t 108) (.c (.val (.bool true))) (.t 113), none, []⟩,
 ⟨(some 115), .mv (.t 114), none, []⟩,
 ⟨(some 116), .fad 7 (.t 12), (some (115, false)), []⟩,
 ⟨(some 117), .ld1 (.t 116), (some (115, false)), []⟩,
 ⟨(some 118), .fad 7 (.t 11), (some (115, false)), []⟩,
 ⟨(some 119), .ld1 (.t 118), (some (115, false)), []⟩,
 ⟨(some 120), .bin .lss (.t 117) (.t 119), (some (115, false)), []⟩,
 ⟨(some 121), .pick (.t 115) (.c (.val (.bool true))) (.t 120), none, []⟩,
 ⟨(some 122), .mv (.t 121), none, []⟩,
 ⟨(some 123), .fad 11 (.t 12), (some (122, false)), []⟩,
 ⟨(some 124), .ld1 (.t 123), (some (122, false)), []⟩,
 ⟨(some 125), .fad 11 (.t 11), (some (122, false)), []⟩,
 ⟨(some 126), .ld1 (.t 125), (some (122, false)), []⟩,
 ⟨(some 127), .bin .lss (.t 124) (.t 126), (some (122, false)), []⟩,
 ⟨(some 128), .pick (.t 122) (.c (.val (.bool true))) (.t 127), none, []⟩,
 ⟨(some 129), .mv (.t 128), none, []⟩,
 ⟨(some 130), .fad 6 (.t 11), (some (129, false)), []⟩,
 ⟨(some 131), .ld1 (.t 130), (some (129, false)), []⟩,
 ⟨(some 132), .bin .eql (.t 131) (.c (.val (.int .i64 4))), (some (129, false)), []⟩,
 ⟨(some 133), .mv (.t 132), (some (129, false)), []⟩,
 ⟨(some 134), .ldn 12 (.t 12), (some (133, true)), []⟩,
 ⟨(some 135), .ldn 12 (.t 11), (some (133, true)), []⟩,
 ⟨(some 136), .eqs true [0, 0, 0, 0, 0, 0, 0, 0, 0, 0, 0, 0] (.t 134) (.t 135), (some (133, true)), []⟩,
 ⟨(some 137), .pick (.t 133) (.t 136) (.c (.val (.bool false))), (some (129, false)), []⟩,
 ⟨(some 138), .pick (.t 129) (.c (.val (.bool true))) (.t 137), none, []⟩])
 (.cond (.t 138) (.seq (.reg [⟨(some 6), .mv (.c (.val (.bool false))), none, []⟩])
 .ret)
 .skip))))
 (.reg [⟨(some 63), .mv (.t 10), none, []⟩,
 ⟨(some 64), .bin .add (.t 63) (.c (.val (.int .i64 1))), none, []⟩,
 ⟨(some 10), .mv (.t 64), none, []⟩]))))))
 (.reg [⟨(some 139), .ldn 6 (.t 8), none, []⟩,
 ⟨none, .st 6 (.t 4) (.t 139), none, []⟩])))))
 (.reg [⟨(some 32), .mv (.t 7), none, []⟩,
 ⟨(some 33), .bin .add (.t 32) (.c (.val (.int .i64 1))), none, []⟩,
 ⟨(some 7), .mv (.t 33), none, []⟩]))))))
 (.seq (.reg [⟨(some 6), .mv (.c (.val (.bool true))), none, []⟩])
 .ret))))),
[(.t 6)])
theorem irOk7 : convFn Tryd.prog Tryd.f7 = some ir7 := by kernel_rfl


def opsL5 (l : List OpD) : LV := .d (.lst 7 (l.map opR))
def keepsS1 (c : ConfD) (l : List OpD) (iu : Nat × StateD) : St := ⟨[(2, opsL5 l), (3, .ptr 0 0), (4, .ptr 1 0), (7, .int iu.1)], [some (.box 23 [.int c.nodes, .int c.queues, .int c.quota, .int c.wave, .int c.lease, .int c.retry, .int c.deadline, .int c.room, .int c.disk]), some (.box 27 [nodesV iu.2.nodes, jobsV iu.2.jobs, .int iu.2.goal, .int iu.2.prior, .int iu.2.mode, .int iu.2.term])]⟩
def keepsS2 (c : ConfD) (l : List OpD) (i : Nat) (u p : StateD) (k : Nat) : St := ⟨[(2, opsL5 l), (3, .ptr 0 0), (4, .ptr 1 0), (7, .int i), (8, .ptr 2 0), (10, .int k)], [some (.box 23 [.int c.nodes, .int c.queues, .int c.quota, .int c.wave, .int c.lease, .int c.retry, .int c.deadline, .int c.room, .int c.disk]), some (.box 27 [nodesV u.nodes, jobsV u.jobs, .int u.goal, .int u.prior, .int u.mode, .int u.term]), some (.box 27 [nodesV p.nodes, jobsV p.jobs, .int p.goal, .int p.prior, .int p.mode, .int p.term])]⟩
theorem bookKeeps_tri (c : ConfD) (s : StateD) (l : List OpD) : Tri Tryd.prog bookG 7 [confV c, stateV s, opsL5 l] [] (.bool true) [] := by
  refine tri_W0 Tryd.func7 (by decide) irOk7 (Nat.le_of_ble_eq_true rfl) rfl ?_
  simp only [ir7, opsL5, go_sem, ↓reduceIte, zA, zB, zC, zD, zE, zF, reduceCtorEq, zG, zH, zI, zJ, zK, zL, zM, zN, zO, zP]
  refine W_calld (alive9_tri) rfl rfl rfl rfl ?_; simp only [go_sem, ↓reduceIte, zA, zB, zC, zD, zE, zF, reduceCtorEq, zG, zH, zI, zJ, zK, zL, zM, zN, zO, zP]
  refine W_calld (great_tri s) rfl rfl rfl rfl ?_; simp only [go_sem, ↓reduceIte, zA, zB, zC, zD, zE, zF, reduceCtorEq, zG, zH, zI, zJ, zK, zL, zM, zN, zO, zP]
  cases hg : greatB s with
  | true => simp only [go_sem, ↓reduceIte, zA, zB, zC, zD, zE, zF, reduceCtorEq, zG, zH, zI, zJ, zK, zL, zM, zN, zO, zP]
  | false =>
  have hgr := great_not hg
  simp only [go_sem, ↓reduceIte, zA, zB, zC, zD, zE, zF, reduceCtorEq, zG, zH, zI, zJ, zK, zL, zM, zN, zO, zP]
  cases hl : decide ((l.length : Int) > 200) with
  | true => simp only [go_sem, ↓reduceIte, zA, zB, zC, zD, zE, zF, reduceCtorEq, zG, zH, zI, zJ, zK, zL, zM, zN, zO, zP]
  | false =>
  have hl2 : l.length ≤ 200 := by have := of_decide_eq_false hl; omega
  simp only [go_sem, ↓reduceIte, zA, zB, zC, zD, zE, zF, reduceCtorEq, zG, zH, zI, zJ, zK, zL, zM, zN, zO, zP]
  refine W_calld (right_tri c s) rfl rfl rfl rfl ?_; simp only [go_sem, ↓reduceIte, zA, zB, zC, zD, zE, zF, reduceCtorEq, zG, zH, zI, zJ, zK, zL, zM, zN, zO, zP]
  cases hr : rightB c s with
  | false => simp only [go_sem, ↓reduceIte, zA, zB, zC, zD, zE, zF, reduceCtorEq, zG, zH, zI, zJ, zK, zL, zM, zN, zO, zP]
  | true =>
  have hp := (right_iff c s).1 hr
  simp only [go_sem, ↓reduceIte, zA, zB, zC, zD, zE, zF, reduceCtorEq, zG, zH, zI, zJ, zK, zL, zM, zN, zO, zP]
  refine W_loopI [2, 3, 4, 7] [] (fun iu : Nat × StateD => iu.1 ≤ l.length ∧ RightP c iu.2) (fun iu => l.length - iu.1) (keepsS1 c l) (0, s) ?_ ⟨Nat.zero_le _, hp⟩ ?_
  · simp only [keepsS1, opsL5, go_sem, ↓reduceIte, zA, zB, zC, zD, zE, zF, reduceCtorEq, zG, zH, zI, zJ, zK, zL, zM, zN, zO, zP, Int.natCast_zero]
  rintro ⟨i, u⟩ ⟨hi, hu⟩
  dsimp only at hi hu
  simp only [keepsS1, opsL5, go_sem, ↓reduceIte, zA, zB, zC, zD, zE, zF, reduceCtorEq, zG, zH, zI, zJ, zK, zL, zM, zN, zO, zP]
  refine WC_split (fun h => ?_) (fun h => ?_)
  · have h := lt_of_dec h
    have hgo := get_mapD (f := opR) zeroOp h
    generalize l.getD i zeroOp = o at *
    have hq := apply_right hu o
    obtain ⟨k1, k2, k3⟩ := apply_keeps hu o
    have huj := hu.jobs
    simp only [hgo, go_sem, ↓reduceIte, zA, zB, zC, zD, zE, zF, reduceCtorEq, zG, zH, zI, zJ, zK, zL, zM, zN, zO, zP]
    refine WD_calld (apply_tri c u o) rfl rfl rfl rfl ?_; simp only [go_sem, ↓reduceIte, zA, zB, zC, zD, zE, zF, reduceCtorEq, zG, zH, zI, zJ, zK, zL, zM, zN, zO, zP]
    refine W_opsD_end rfl ?_
    generalize applyD c u o = p at *
    have b1 : decide ((p.1.jobs.length : Int) < (u.jobs.length : Int)) = false := by simp; omega
    have b2 : decide (p.1.term < u.term) = false := by simp; omega
    simp only [b1, b2, go_sem, ↓reduceIte, zA, zB, zC, zD, zE, zF, reduceCtorEq, zG, zH, zI, zJ, zK, zL, zM, zN, zO, zP]
    refine W_loopI [2, 3, 4, 7, 8, 10] [] (fun k : Nat => k ≤ u.jobs.length) (fun k => u.jobs.length - k) (keepsS2 c l i u p.1) 0 ?_ (Nat.zero_le _) ?_
    · simp only [keepsS2, opsL5, go_sem, ↓reduceIte, zA, zB, zC, zD, zE, zF, reduceCtorEq, zG, zH, zI, zJ, zK, zL, zM, zN, zO, zP, Int.natCast_zero]
    intro k hk
    simp only [keepsS2, opsL5, go_sem, ↓reduceIte, zA, zB, zC, zD, zE, zF, reduceCtorEq, zG, zH, zI, zJ, zK, zL, zM, zN, zO, zP]
    refine WC_split (fun h2 => ?_) (fun h2 => ?_)
    · have h2 := lt_of_dec h2
      have hga := get_mapD (f := jobR) zeroJob h2
      have hgb := get_mapD (f := jobR) zeroJob (show k < p.1.jobs.length by omega)
      have hkp := k3 k h2
      unfold joA at hkp
      generalize u.jobs.getD k zeroJob = a at *
      generalize p.1.jobs.getD k zeroJob = b at *
      obtain ⟨⟨f1, f2, f3, f4, f5, f6⟩, f7, f8, f9⟩ := hkp
      have g7 : decide (b.inc < a.inc) = false := by simp; omega
      have g8 : decide (b.epoch < a.epoch) = false := by simp; omega
      have hjd := job_dec b a
      simp only [Bool.and_true] at hjd
      simp only [hga, hgb, go_sem, ↓reduceIte, zA, zB, zC, zD, zE, zF, reduceCtorEq, zG, zH, zI, zJ, zK, zL, zM, zN, zO, zP]
      refine W_opsD_end rfl ?_
      simp only [f1, f2, f3, f4, f5, f6, g7, g8, bne_self_eq_false, go_sem, ↓reduceIte, zA, zB, zC, zD, zE, zF, reduceCtorEq, zG, zH, zI, zJ, zK, zL, zM, zN, zO, zP]
      cases h4 : (a.phase == 4) with
      | false =>
        simp only [h4, go_sem, ↓reduceIte, zA, zB, zC, zD, zE, zF, reduceCtorEq, zG, zH, zI, zJ, zK, zL, zM, zN, zO, zP]
        refine W_lpI (k + 1) ?_ ?_ (by omega) (by omega)
        · simp only [go_sem, ↓reduceIte, zA, zB, zC, zD, zE, zF, reduceCtorEq, zG, zH, zI, zJ, zK, zL, zM, zN, zO, zP]
        · simp only [keepsS2, opsL5, go_sem, ↓reduceIte, zA, zB, zC, zD, zE, zF, reduceCtorEq, zG, zH, zI, zJ, zK, zL, zM, zN, zO, zP, wrap_succ (show k < 9223372036854775807 by omega)]
      | true =>
        have hba : b = a := f9 (by simpa using h4)
        subst hba
        simp only [h4, hjd, beq_self_eq_true, Bool.and_self, go_sem, ↓reduceIte, zA, zB, zC, zD, zE, zF, reduceCtorEq, zG, zH, zI, zJ, zK, zL, zM, zN, zO, zP]
        refine W_lpI (k + 1) ?_ ?_ (by omega) (by omega)
        · simp only [go_sem, ↓reduceIte, zA, zB, zC, zD, zE, zF, reduceCtorEq, zG, zH, zI, zJ, zK, zL, zM, zN, zO, zP]
        · simp only [keepsS2, opsL5, go_sem, ↓reduceIte, zA, zB, zC, zD, zE, zF, reduceCtorEq, zG, zH, zI, zJ, zK, zL, zM, zN, zO, zP, wrap_succ (show k < 9223372036854775807 by omega)]
    · simp only [go_sem, ↓reduceIte, zA, zB, zC, zD, zE, zF, reduceCtorEq, zG, zH, zI, zJ, zK, zL, zM, zN, zO, zP]
      refine W_lpI (i + 1, p.1) ?_ ?_ ⟨by dsimp only; omega, hq⟩ (by dsimp only; omega)
      · simp only [go_sem, ↓reduceIte, zA, zB, zC, zD, zE, zF, reduceCtorEq, zG, zH, zI, zJ, zK, zL, zM, zN, zO, zP]
      · simp only [keepsS1, opsL5, go_sem, ↓reduceIte, zA, zB, zC, zD, zE, zF, reduceCtorEq, zG, zH, zI, zJ, zK, zL, zM, zN, zO, zP, wrap_succ (show i < 9223372036854775807 by omega)]
  · simp only [go_sem, ↓reduceIte, zA, zB, zC, zD, zE, zF, reduceCtorEq, zG, zH, zI, zJ, zK, zL, zM, zN, zO, zP]
end Dv
