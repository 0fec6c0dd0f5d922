/- Layer 9's laws: BookAlone. -/
import Derived.Test.YtjmceebhnjiikaaDoorD20
import Derived.Test.YtjmceebhnjiikaaDoorL4
set_option linter.unusedVariables false
set_option linter.unusedSimpArgs false
namespace Dv
open Go Go.Proofs
open Nat renaming reduceEqDiff → zA, reduceAdd → zB, reduceSub → zC, reduceMul → zD, reduceLT → zE, reduceLeDiff → zF
open Int renaming reduceLE → zG, reduceLT → zH, reduceToNat → zI, reduceBEq → zJ, reduceBNe → zK, reduceEq → zL, reduceAdd → zM, reduceSub → zN, reduceMul → zO, reduceNeg → zP
attribute [local go_sem] argEnv W_nil W_seq W_skip W_ret W_exit W_scope W_block W_blk W_reg W_regD W_cond WC_t WC_f WC_any Wx_c Wx_ops Wx_lp Wx_blk W_ops_nil W_opsD_q W_guard W_guardD WG_tt WG_ff WG_tf WG_ft WG_u WGD_tt WGD_ff WGD_tf WGD_ft WGD_u WE_some WED_some W_mv W_pick W_new W_box W_build W_bsl W_ld1 W_ldn W_st W_nck W_bin W_eqb W_not W_cvt W_fad W_fld1 W_fldn W_ixa W_ixr W_ix1 W_ixs W_len W_lens W_mkf W_ext W_app W_min W_isnp W_isns W_eqs W_neg W_ixn W_sli W_sls WD_mv WD_pick WD_new WD_box WD_build WD_bsl WD_ld1 WD_ldn WD_st WD_nck WD_bin WD_eqb WD_not WD_cvt WD_fad WD_fld1 WD_fldn WD_ixa WD_ixr WD_ix1 WD_ixs WD_len WD_lens WD_mkf WD_ext WD_app WD_min WD_isnp WD_isns WD_eqs WD_neg WD_ixn WD_sli WD_sls effF Opd.ev getE putE binV LV.int LV.bool LV.undef Go.undef LV.cells LV.toD LV.toDs splice fillL rowsOf srcRows updL objL Eff.owned nwp St.get St.obj St.put Value.oneCell' Ends adopt Ad.ap isNil St.keep St.okKeep okObj idl idlL idlO RVs.of RV.of oneOr Ends0 EndsO_iff frzs rn rnL rnO piOf eqCells eqV boundV Option.map_some Option.map_none List.append_nil List.nil_append List.cons_append List.map_nil List.map_cons List.length_nil List.length_cons List.set_cons_zero List.set_cons_succ List.take_succ_cons List.take_zero List.take_nil List.drop_succ_cons List.drop_zero List.drop_nil List.getElem?_cons_zero List.getElem?_cons_succ List.getElem?_nil List.isEmpty_nil List.isEmpty_cons List.all_cons List.all_nil List.isEmpty_nil cond_true cond_false Bool.true_and Bool.false_and Bool.and_true Bool.and_false Bool.not_true Bool.not_false Bool.or_true Bool.true_or Bool.or_false Bool.false_or true_and and_true true_or or_true Option.some.injEq LV.d.injEq DV.val.injEq Value.bool.injEq Value.int.injEq decide_true decide_false and_self Nat.zero_add Nat.add_zero if_true if_false Int.toNat_zero beq_self_eq_true Nat.zero_lt_succ Int.toNat_natCast Int.natCast_nonneg List.length_map i64 bl List.zip_cons_cons List.zip_nil_left List.zip_nil_right nwp confV stateV nodeV jobV nodesV jobsV opV msgV nodeR jobR opR msgR zeroOp zeroMsg
variable {G : Nat → Option (List DV)}

/-- dunnagelaw09.BookAlone -/
def ir10 : Nat × C × List RV := (137,
(.seq (.reg [⟨(some 3), .box 23 (.t 0), none, []⟩,
 ⟨(some 4), .box 27 (.t 1), none, []⟩,
 ⟨(some 5), .box 35 (.t 2), none, []⟩,
 ⟨(some 6), .mv (.c (.val (.bool false))), none, []⟩])
 (.seq (.seq (.reg [⟨(some 15), .call (.f 14) [], none, []⟩,
 ⟨(some 16), .not (.t 15), none, []⟩])
 (.cond (.t 16) (.seq (.reg [⟨(some 6), .mv (.c (.val (.bool false))), none, []⟩])
 .ret)
 .skip))
 (.seq (.seq (.reg [⟨(some 17), .ldn 6 (.t 4), none, []⟩,
 ⟨(some 18), .call (.f 15) [(.t 17)], none, []⟩,
 ⟨(some 19), .mv (.t 18), none, []⟩,
 ⟨(some 20), .ldn 9 (.t 3), (some (19, false)), []⟩,
 ⟨(some 21), .ldn 6 (.t 4), (some (19, false)), []⟩,
 ⟨(some 22), .call (.f 21) [(.t 20), (.t 21)], (some (19, false)), []⟩,
 ⟨(some 23), .not (.t 22), (some (19, false)), []⟩,
 ⟨(some 24), .pick (.t 19) (.c (.val (.bool true))) (.t 23), none, []⟩,
 ⟨(some 25), .mv (.t 24), none, []⟩,
 ⟨(some 26), .fad 0 (.t 5), (some (25, false)), []⟩,
 ⟨(some 27), .ld1 (.t 26), (some (25, false)), []⟩,
 ⟨(some 28), .bin .lss (.t 27) (.c (.val (.int .i64 1))), (some (25, false)), []⟩,
 ⟨(some 29), .pick (.t 25) (.c (.val (.bool true))) (.t 28), none, []⟩,
 ⟨(some 30), .mv (.t 29), none, []⟩,
 ⟨(some 31), .fad 0 (.t 5), (some (30, false)), []⟩,
 ⟨(some 32), .ld1 (.t 31), (some (30, false)), []⟩,
 ⟨(some 33), .bin .gtr (.t 32) (.c (.val (.int .i64 21))), (some (30, false)), []⟩,
 ⟨(some 34), .pick (.t 30) (.c (.val (.bool true))) (.t 33), none, []⟩])
 (.cond (.t 34) (.seq (.reg [⟨(some 6), .mv (.c (.val (.bool true))), none, []⟩])
 .ret)
 .skip))
 (.seq (.reg [⟨(some 36), .ldn 9 (.t 3), none, []⟩,
 ⟨(some 37), .ldn 6 (.t 4), none, []⟩,
 ⟨(some 38), .ldn 7 (.t 5), none, []⟩,
 ⟨(some 39), .call (.f 23) [(.t 36), (.t 37), (.t 38)], none, []⟩,
 ⟨(some 35), .mv (.t 39), none, []⟩,
 ⟨(some 40), .ext (.t 35) 0, none, []⟩,
 ⟨(some 41), .ext (.t 35) 1, none, []⟩,
 ⟨(some 7), .new 27 [(.val (.slice none 0 0)), (.val (.slice none 0 0)), (.val (.int .i64 0)), (.val (.int .i64 0)), (.val (.int .i64 0)), (.val (.int .i64 0))], none, []⟩,
 ⟨none, .st 6 (.t 7) (.t 40), none, []⟩,
 ⟨(some 8), .mv (.t 41), none, []⟩])
 (.seq (.seq (.reg [⟨(some 42), .mv (.t 8), none, []⟩,
 ⟨(some 43), .bin .neq (.t 42) (.c (.val (.int .i64 0))), none, []⟩])
 (.cond (.t 43) (.seq (.reg [⟨(some 44), .ldn 6 (.t 4), none, []⟩,
 ⟨(some 45), .ldn 6 (.t 7), none, []⟩,
 ⟨(some 46), .call (.f 18) [(.t 44), (.t 45)], none, []⟩,
 ⟨(some 6), .mv (.t 46), none, []⟩])
 .ret)
 .skip))
 (.seq (.reg [⟨(some 9), .mv (.c (.val (.int .i64 0))), none, []⟩])
 (.seq (.seq (.reg [⟨(some 10), .mv (.c (.val (.int .i64 0))), none, []⟩])
 (.block 0 (.loop (.seq (.seq (.reg [⟨(some 47), .mv (.t 10), none, []⟩,
 ⟨(some 48), .fad 1 (.t 4), none, []⟩,
 ⟨(some 49), .ld1 (.t 48), none, []⟩,
 ⟨(some 50), .len (.t 49), none, []⟩,
 ⟨(some 51), .bin .lss (.t 47) (.t 50), none, []⟩])
 (.cond (.t 51) .skip
 (.exit 0)))
 (.seq (.block 1 (.seq (.regD [⟨(some 54), .fad 1 (.t 4), none, []⟩,
 ⟨(some 55), .ld1 (.t 54), none, [0]⟩,
 ⟨(some 56), .mv (.t 10), none, []⟩,
 ⟨(some 57), .ixa 12 (.t 55) (.t 56), none, [1, 0, 2]⟩,
 ⟨(some 58), .ldn 12 (.t 57), none, [3, 1, 0, 2]⟩,
 ⟨(some 59), .fad 1 (.t 7), none, []⟩,
 ⟨(some 60), .ld1 (.t 59), none, [5]⟩,
 ⟨(some 61), .mv (.t 10), none, []⟩,
 ⟨(some 62), .ixa 12 (.t 60) (.t 61), none, [6, 5, 7]⟩,
 ⟨(some 63), .ldn 12 (.t 62), none, [8, 6, 5, 7]⟩,
 ⟨(some 64), .eqs true [0, 0, 0, 0, 0, 0, 0, 0, 0, 0, 0, 0] (.t 58) (.t 63), none, [4, 3, 1, 0, 2, 9, 8, 6, 5, 7]⟩])
 (.cond (.t 64) (.reg [⟨(some 65), .mv (.t 9), none, []⟩,
 ⟨(some 66), .bin .add (.t 65) (.c (.val (.int .i64 1))), none, []⟩,
 ⟨(some 9), .mv (.t 66), none, []⟩])
 .skip)))
 (.reg [⟨(some 52), .mv (.t 10), none, []⟩,
 ⟨(some 53), .bin .add (.t 52) (.c (.val (.int .i64 1))), none, []⟩,
 ⟨(some 10), .mv (.t 53), none, []⟩]))))))
 (.seq (.reg [⟨(some 11), .mv (.c (.val (.int .i64 0))), none, []⟩])
 (.seq (.seq (.reg [⟨(some 12), .mv (.c (.val (.int .i64 0))), none, []⟩])
 (.block 2 (.loop (.seq (.seq (.reg [⟨(some 67), .mv (.t 12), none, []⟩,
 ⟨(some 68), .fad 0 (.t 4), none, []⟩,
 ⟨(some 69), .ld1 (.t 68), none, []⟩,
 ⟨(some 70), .len (.t 69), none, []⟩,
 ⟨(some 71), .bin .lss (.t 67) (.t 70), none, []⟩])
 (.cond (.t 71) .skip
 (.exit 2)))
 (.seq (.block 3 (.seq (.regD [⟨(some 74), .fad 0 (.t 4), none, []⟩,
 ⟨(some 75), .ld1 (.t 74), none, [0]⟩,
 ⟨(some 76), .mv (.t 12), none, []⟩,
 ⟨(some 77), .ixa 5 (.t 75) (.t 76), none, [1, 0, 2]⟩,
 ⟨(some 78), .ldn 5 (.t 77), none, [3, 1, 0, 2]⟩,
 ⟨(some 79), .fad 0 (.t 7), none, []⟩,
 ⟨(some 80), .ld1 (.t 79), none, [5]⟩,
 ⟨(some 81), .mv (.t 12), none, []⟩,
 ⟨(some 82), .ixa 5 (.t 80) (.t 81), none, [6, 5, 7]⟩,
 ⟨(some 83), .ldn 5 (.t 82), none, [8, 6, 5, 7]⟩,
 ⟨(some 13), .new 48 [(.val (.bool false)), (.val (.bool false)), (.val (.bool false)), (.val (.int .i64 0)), (.val (.int .i64 0))], none, []⟩,
 ⟨(some 14), .new 48 [(.val (.bool false)), (.val (.bool false)), (.val (.bool false)), (.val (.int .i64 0)), (.val (.int .i64 0))], none, []⟩,
 ⟨none, .st 5 (.t 13) (.t 78), none, [10, 4, 3, 1, 0, 2, 11]⟩,
 ⟨none, .st 5 (.t 14) (.t 83), none, [11, 9, 8, 6, 5, 7, 12, 10, 4, 3, 1, 0, 2]⟩])
 (.seq (.reg [⟨(some 84), .fad 0 (.t 13), none, []⟩,
 ⟨(some 85), .ld1 (.t 84), none, []⟩,
 ⟨(some 86), .fad 0 (.t 14), none, []⟩,
 ⟨(some 87), .ld1 (.t 86), none, []⟩,
 ⟨(some 88), .eqb true (.t 85) (.t 87), none, []⟩,
 ⟨(some 89), .mv (.t 88), none, []⟩,
 ⟨(some 90), .fad 1 (.t 13), (some (89, false)), []⟩,
 ⟨(some 91), .ld1 (.t 90), (some (89, false)), []⟩,
 ⟨(some 92), .fad 1 (.t 14), (some (89, false)), []⟩,
 ⟨(some 93), .ld1 (.t 92), (some (89, false)), []⟩,
 ⟨(some 94), .eqb true (.t 91) (.t 93), (some (89, false)), []⟩,
 ⟨(some 95), .pick (.t 89) (.c (.val (.bool true))) (.t 94), none, []⟩,
 ⟨(some 96), .mv (.t 95), none, []⟩,
 ⟨(some 97), .fad 2 (.t 13), (some (96, false)), []⟩,
 ⟨(some 98), .ld1 (.t 97), (some (96, false)), []⟩,
 ⟨(some 99), .fad 2 (.t 14), (some (96, false)), []⟩,
 ⟨(some 100), .ld1 (.t 99), (some (96, false)), []⟩,
 ⟨(some 101), .eqb true (.t 98) (.t 100), (some (96, false)), []⟩,
 ⟨(some 102), .pick (.t 96) (.c (.val (.bool true))) (.t 101), none, []⟩,
 ⟨(some 103), .mv (.t 102), none, []⟩,
 ⟨(some 104), .fad 3 (.t 13), (some (103, false)), []⟩,
 ⟨(some 105), .ld1 (.t 104), (some (103, false)), []⟩,
 ⟨(some 106), .fad 3 (.t 14), (some (103, false)), []⟩,
 ⟨(some 107), .ld1 (.t 106), (some (103, false)), []⟩,
 ⟨(some 108), .bin .neq (.t 105) (.t 107), (some (103, false)), []⟩,
 ⟨(some 109), .pick (.t 103) (.c (.val (.bool true))) (.t 108), none, []⟩])
 (.cond (.t 109) (.reg [⟨(some 110), .mv (.t 11), none, []⟩,
 ⟨(some 111), .bin .add (.t 110) (.c (.val (.int .i64 1))), none, []⟩,
 ⟨(some 11), .mv (.t 111), none, []⟩])
 .skip))))
 (.reg [⟨(some 72), .mv (.t 12), none, []⟩,
 ⟨(some 73), .bin .add (.t 72) (.c (.val (.int .i64 1))), none, []⟩,
 ⟨(some 12), .mv (.t 73), none, []⟩]))))))
 (.seq (.reg [⟨(some 112), .mv (.t 9), none, []⟩,
 ⟨(some 113), .bin .leq (.t 112) (.c (.val (.int .i64 1))), none, []⟩,
 ⟨(some 114), .mv (.t 113), none, []⟩,
 ⟨(some 115), .mv (.t 11), (some (114, true)), []⟩,
 ⟨(some 116), .bin .leq (.t 115) (.c (.val (.int .i64 1))), (some (114, true)), []⟩,
 ⟨(some 117), .pick (.t 114) (.t 116) (.c (.val (.bool false))), none, []⟩,
 ⟨(some 118), .mv (.t 117), none, []⟩,
 ⟨(some 119), .fad 1 (.t 7), (some (118, true)), []⟩,
 ⟨(some 120), .ld1 (.t 119), (some (118, true)), []⟩,
 ⟨(some 121), .len (.t 120), (some (118, true)), []⟩,
 ⟨(some 122), .fad 1 (.t 4), (some (118, true)), []⟩,
 ⟨(some 123), .ld1 (.t 122), (some (118, true)), []⟩,
 ⟨(some 124), .len (.t 123), (some (118, true)), []⟩,
 ⟨(some 125), .bin .add (.t 124) (.c (.val (.int .i64 1))), (some (118, true)), []⟩,
 ⟨(some 126), .bin .leq (.t 121) (.t 125), (some (118, true)), []⟩,
 ⟨(some 127), .pick (.t 118) (.t 126) (.c (.val (.bool false))), none, []⟩,
 ⟨(some 128), .mv (.t 127), none, []⟩,
 ⟨(some 129), .fad 0 (.t 7), (some (128, true)), []⟩,
 ⟨(some 130), .ld1 (.t 129), (some (128, true)), []⟩,
 ⟨(some 131), .len (.t 130), (some (128, true)), []⟩,
 ⟨(some 132), .fad 0 (.t 4), (some (128, true)), []⟩,
 ⟨(some 133), .ld1 (.t 132), (some (128, true)), []⟩,
 ⟨(some 134), .len (.t 133), (some (128, true)), []⟩,
 ⟨(some 135), .bin .eql (.t 131) (.t 134), (some (128, true)), []⟩,
 ⟨(some 136), .pick (.t 128) (.t 135) (.c (.val (.bool false))), none, []⟩,
 ⟨(some 6), .mv (.t 136), none, []⟩])
 .ret)))))))))),
[(.t 6)])
theorem irOk10 : convFn Tryd.prog Tryd.f10 = some ir10 := by kernel_rfl


def aloneS1 (c : ConfD) (s : StateD) (o : OpD) (p : StateD) (k : Nat) : St := ⟨[(4, .ptr 1 0), (7, .ptr 3 0), (9, .int (diffTo (joA s) (joA p) k)), (10, .int k)], [some (.box 23 [.int c.nodes, .int c.queues, .int c.quota, .int c.wave, .int c.lease, .int c.retry, .int c.deadline, .int c.room, .int c.disk]), some (.box 27 [nodesV s.nodes, jobsV s.jobs, .int s.goal, .int s.prior, .int s.mode, .int s.term]), some (.box 35 [.int o.kind, .int o.a, .int o.b, .int o.c, .int o.d, .int o.e, .int o.f]), some (.box 27 [nodesV p.nodes, jobsV p.jobs, .int p.goal, .int p.prior, .int p.mode, .int p.term])]⟩
def aloneS2 (c : ConfD) (s : StateD) (o : OpD) (p : StateD) (j : Int) (k : Nat) : St := ⟨[(4, .ptr 1 0), (7, .ptr 3 0), (9, .int j), (11, .int (diffTo (fun i => flagsN (noA s i)) (fun i => flagsN (noA p i)) k)), (12, .int k)], [some (.box 23 [.int c.nodes, .int c.queues, .int c.quota, .int c.wave, .int c.lease, .int c.retry, .int c.deadline, .int c.room, .int c.disk]), some (.box 27 [nodesV s.nodes, jobsV s.jobs, .int s.goal, .int s.prior, .int s.mode, .int s.term]), some (.box 35 [.int o.kind, .int o.a, .int o.b, .int o.c, .int o.d, .int o.e, .int o.f]), some (.box 27 [nodesV p.nodes, jobsV p.jobs, .int p.goal, .int p.prior, .int p.mode, .int p.term])]⟩
theorem bookAlone_tri (c : ConfD) (s : StateD) (o : OpD) : Tri Tryd.prog bookG 10 [confV c, stateV s, opV o] [] (.bool true) [] := by
  refine tri_W0 Tryd.func10 (by decide) irOk10 (Nat.le_of_ble_eq_true rfl) rfl ?_
  simp only [ir10, go_sem, ↓reduceIte, zA, zB, zC, zD, zE, zF, reduceCtorEq, zG, zH, zI, zJ, zK, zL, zM, zN, zO, zP]
  refine W_calld (alive9_tri) rfl rfl rfl rfl ?_; simp only [go_sem, ↓reduceIte, zA, zB, zC, zD, zE, zF, reduceCtorEq, zG, zH, zI, zJ, zK, zL, zM, zN, zO, zP]
  refine W_calld (great_tri s) rfl rfl rfl rfl ?_; simp only [go_sem, ↓reduceIte, zA, zB, zC, zD, zE, zF, reduceCtorEq, zG, zH, zI, zJ, zK, zL, zM, zN, zO, zP]
  cases hg : greatB s with
  | true => simp only [go_sem, ↓reduceIte, zA, zB, zC, zD, zE, zF, reduceCtorEq, zG, zH, zI, zJ, zK, zL, zM, zN, zO, zP]
  | false =>
  have hgr := great_not hg
  simp only [go_sem, ↓reduceIte, zA, zB, zC, zD, zE, zF, reduceCtorEq, zG, zH, zI, zJ, zK, zL, zM, zN, zO, zP]
  refine W_calld (right_tri c s) rfl rfl rfl rfl ?_; simp only [go_sem, ↓reduceIte, zA, zB, zC, zD, zE, zF, reduceCtorEq, zG, zH, zI, zJ, zK, zL, zM, zN, zO, zP]
  cases hr : rightB c s with
  | false => simp only [go_sem, ↓reduceIte, zA, zB, zC, zD, zE, zF, reduceCtorEq, zG, zH, zI, zJ, zK, zL, zM, zN, zO, zP]
  | true =>
  have hp := (right_iff c s).1 hr
  simp only [go_sem, ↓reduceIte, zA, zB, zC, zD, zE, zF, reduceCtorEq, zG, zH, zI, zJ, zK, zL, zM, zN, zO, zP]
  refine WG_split (fun hn1 => ?_) (fun hn1 => ?_) <;> simp only [hn1, go_sem, ↓reduceIte, zA, zB, zC, zD, zE, zF, reduceCtorEq, zG, zH, zI, zJ, zK, zL, zM, zN, zO, zP] <;> (try simp only [beq_iff_eq, beq_eq_false_iff_ne, bne_iff_ne, ne_eq, decide_eq_true_eq, decide_eq_false_iff_not, Bool.not_true, Bool.not_false, Bool.not_eq_true, Bool.not_eq_false, bne_eq_false_iff_eq, Decidable.not_not] at hn1)
  refine WC_split (fun hn2 => ?_) (fun hn2 => ?_) <;> simp only [hn2, go_sem, ↓reduceIte, zA, zB, zC, zD, zE, zF, reduceCtorEq, zG, zH, zI, zJ, zK, zL, zM, zN, zO, zP] <;> (try simp only [beq_iff_eq, beq_eq_false_iff_ne, bne_iff_ne, ne_eq, decide_eq_true_eq, decide_eq_false_iff_not, Bool.not_true, Bool.not_false, Bool.not_eq_true, Bool.not_eq_false, bne_eq_false_iff_eq, Decidable.not_not] at hn2)
  have hq := apply_right hp o
  obtain ⟨hst, hsame⟩ := apply_step hp o
  have hpl := hp.len
  have hpj := hp.jobs
  refine W_calld (apply_tri c s o) rfl rfl rfl rfl ?_; simp only [go_sem, ↓reduceIte, zA, zB, zC, zD, zE, zF, reduceCtorEq, zG, zH, zI, zJ, zK, zL, zM, zN, zO, zP]
  generalize applyD c s o = p at *
  cases he : (p.2 != 0) with
  | true =>
    have hpu : p.1 = s := hsame (by simpa using he)
    simp only [he, go_sem, ↓reduceIte, zA, zB, zC, zD, zE, zF, reduceCtorEq, zG, zH, zI, zJ, zK, zL, zM, zN, zO, zP]
    refine W_calld (same9_tri s p.1 (by omega) (by omega)) rfl rfl rfl rfl ?_; simp only [go_sem, ↓reduceIte, zA, zB, zC, zD, zE, zF, reduceCtorEq, zG, zH, zI, zJ, zK, zL, zM, zN, zO, zP]
    simp only [hpu, decide_true]
  | false =>
  obtain ⟨a1, a2, a3, a4⟩ := step_alone (hst (by simpa using he))
  simp only [he, go_sem, ↓reduceIte, zA, zB, zC, zD, zE, zF, reduceCtorEq, zG, zH, zI, zJ, zK, zL, zM, zN, zO, zP]
  have hqj : p.1.jobs.length ≤ 24 := hq.jobs
  have hlj : s.jobs.length ≤ p.1.jobs.length := (step_keeps (hst (by simpa using he))).1
  refine W_loopI [4, 7, 9, 10] [] (fun k : Nat => k ≤ s.jobs.length) (fun k => s.jobs.length - k) (aloneS1 c s o p.1) 0 ?_ (Nat.zero_le _) ?_
  · simp only [aloneS1, go_sem, ↓reduceIte, zA, zB, zC, zD, zE, zF, reduceCtorEq, zG, zH, zI, zJ, zK, zL, zM, zN, zO, zP, diffTo, Int.natCast_zero]
  intro k hk
  simp only [aloneS1, go_sem, ↓reduceIte, zA, zB, zC, zD, zE, zF, reduceCtorEq, zG, zH, zI, zJ, zK, zL, zM, zN, zO, zP]
  refine WC_split (fun h => ?_) (fun h => ?_)
  · have h := lt_of_dec h
    have hb := diffTo_le (joA s) (joA p.1) k
    have e : diffTo (joA s) (joA p.1) (k + 1) = diffTo (joA s) (joA p.1) k + if joA s k = joA p.1 k then 0 else 1 := rfl
    have hga : (s.jobs.map jobR)[k]? = some (jobR (joA s k)) := get_mapD (f := jobR) zeroJob h
    have hgb : (p.1.jobs.map jobR)[k]? = some (jobR (joA p.1 k)) := get_mapD (f := jobR) zeroJob (show k < p.1.jobs.length by omega)
    generalize hda : diffTo (joA s) (joA p.1) k = d at *
    generalize hdb : diffTo (joA s) (joA p.1) (k + 1) = d' at *
    generalize joA s k = a at *
    generalize joA p.1 k = b at *
    have hjd := job_dec a b
    simp only [Bool.and_true] at hjd
    simp only [hga, hgb, hjd, go_sem, ↓reduceIte, zA, zB, zC, zD, zE, zF, reduceCtorEq, zG, zH, zI, zJ, zK, zL, zM, zN, zO, zP]
    cases hab : decide (a = b) with
    | true =>
      rw [if_pos (of_decide_eq_true hab), Int.add_zero] at e
      simp only [hab, go_sem, ↓reduceIte, zA, zB, zC, zD, zE, zF, reduceCtorEq, zG, zH, zI, zJ, zK, zL, zM, zN, zO, zP]
      refine W_lpI (k + 1) ?_ ?_ (by omega) (by omega)
      · simp only [go_sem, ↓reduceIte, zA, zB, zC, zD, zE, zF, reduceCtorEq, zG, zH, zI, zJ, zK, zL, zM, zN, zO, zP]
      · simp only [aloneS1, hdb, e, go_sem, ↓reduceIte, zA, zB, zC, zD, zE, zF, reduceCtorEq, zG, zH, zI, zJ, zK, zL, zM, zN, zO, zP, wrap_succ (show k < 9223372036854775807 by omega)]
    | false =>
      rw [if_neg (of_decide_eq_false hab)] at e
      simp only [hab, go_sem, ↓reduceIte, zA, zB, zC, zD, zE, zF, reduceCtorEq, zG, zH, zI, zJ, zK, zL, zM, zN, zO, zP]
      refine W_lpI (k + 1) ?_ ?_ (by omega) (by omega)
      · simp only [go_sem, ↓reduceIte, zA, zB, zC, zD, zE, zF, reduceCtorEq, zG, zH, zI, zJ, zK, zL, zM, zN, zO, zP]
      · simp only [aloneS1, hdb, e, go_sem, ↓reduceIte, zA, zB, zC, zD, zE, zF, reduceCtorEq, zG, zH, zI, zJ, zK, zL, zM, zN, zO, zP, wrap_succ (show k < 9223372036854775807 by omega), wrap_in (show -9223372036854775808 ≤ d + 1 by omega) (by omega)]
  · obtain rfl := eq_of_dec h hk
    generalize diffTo (joA s) (joA p.1) s.jobs.length = d1 at *
    simp only [go_sem, ↓reduceIte, zA, zB, zC, zD, zE, zF, reduceCtorEq, zG, zH, zI, zJ, zK, zL, zM, zN, zO, zP]
    refine W_loopI [4, 7, 9, 11, 12] [] (fun k : Nat => k ≤ s.nodes.length) (fun k => s.nodes.length - k) (aloneS2 c s o p.1 d1) 0 ?_ (Nat.zero_le _) ?_
    · simp only [aloneS2, go_sem, ↓reduceIte, zA, zB, zC, zD, zE, zF, reduceCtorEq, zG, zH, zI, zJ, zK, zL, zM, zN, zO, zP, diffTo, Int.natCast_zero]
    clear hk
    intro k hk
    simp only [aloneS2, go_sem, ↓reduceIte, zA, zB, zC, zD, zE, zF, reduceCtorEq, zG, zH, zI, zJ, zK, zL, zM, zN, zO, zP]
    refine WC_split (fun h => ?_) (fun h => ?_)
    · have h := lt_of_dec h
      have hb := diffTo_le (fun i => flagsN (noA s i)) (fun i => flagsN (noA p.1 i)) k
      have e : diffTo (fun i => flagsN (noA s i)) (fun i => flagsN (noA p.1 i)) (k + 1) = diffTo (fun i => flagsN (noA s i)) (fun i => flagsN (noA p.1 i)) k + if flagsN (noA s k) = flagsN (noA p.1 k) then 0 else 1 := rfl
      have hga : (s.nodes.map nodeR)[k]? = some (nodeR (noA s k)) := get_mapD (f := nodeR) zeroNode h
      have hgb : (p.1.nodes.map nodeR)[k]? = some (nodeR (noA p.1 k)) := get_mapD (f := nodeR) zeroNode (show k < p.1.nodes.length by omega)
      generalize hda : diffTo (fun i => flagsN (noA s i)) (fun i => flagsN (noA p.1 i)) k = d at *
      generalize hdb : diffTo (fun i => flagsN (noA s i)) (fun i => flagsN (noA p.1 i)) (k + 1) = d' at *
      generalize noA s k = a at *
      generalize noA p.1 k = b at *
      simp only [hga, hgb, go_sem, ↓reduceIte, zA, zB, zC, zD, zE, zF, reduceCtorEq, zG, zH, zI, zJ, zK, zL, zM, zN, zO, zP]
      refine W_opsD_end rfl ?_
      simp only [go_sem, ↓reduceIte, zA, zB, zC, zD, zE, zF, reduceCtorEq, zG, zH, zI, zJ, zK, zL, zM, zN, zO, zP]
      have go0 : flagsN a = flagsN b → d' = d := fun h => by rw [if_pos h, Int.add_zero] at e; exact e
      have go1 : flagsN a ≠ flagsN b → d' = d + 1 := fun h => by rw [if_neg h] at e; exact e
      clear e
      obtain ⟨a1, a2, a3, a4, a5⟩ := a
      obtain ⟨b1, b2, b3, b4, b5⟩ := b
      simp only [flagsN, Prod.mk.injEq, ne_eq] at go0 go1
      cases h1 : (a1 == b1) <;> cases h2 : (a2 == b2) <;> cases h3 : (a3 == b3) <;> cases h4 : (a4 == b4) <;> simp only [h1, h2, h3, h4, bne, go_sem, ↓reduceIte, zA, zB, zC, zD, zE, zF, reduceCtorEq, zG, zH, zI, zJ, zK, zL, zM, zN, zO, zP]
      all_goals
        first
          | (refine W_lpI (k + 1) ?_ ?_ (by omega) (by omega)
             · simp only [go_sem, ↓reduceIte, zA, zB, zC, zD, zE, zF, reduceCtorEq, zG, zH, zI, zJ, zK, zL, zM, zN, zO, zP]
             · simp only [aloneS2, hdb, go0 ⟨beq_iff_eq.1 h1, beq_iff_eq.1 h2, beq_iff_eq.1 h3, beq_iff_eq.1 h4⟩, go_sem, ↓reduceIte, zA, zB, zC, zD, zE, zF, reduceCtorEq, zG, zH, zI, zJ, zK, zL, zM, zN, zO, zP, wrap_succ (show k < 9223372036854775807 by omega)])
          | (refine W_lpI (k + 1) ?_ ?_ (by omega) (by omega)
             · simp only [go_sem, ↓reduceIte, zA, zB, zC, zD, zE, zF, reduceCtorEq, zG, zH, zI, zJ, zK, zL, zM, zN, zO, zP]
             · simp only [aloneS2, hdb, go1 (fun hh => by first | exact beq_eq_false_iff_ne.1 h1 hh.1 | exact beq_eq_false_iff_ne.1 h2 hh.2.1 | exact beq_eq_false_iff_ne.1 h3 hh.2.2.1 | exact beq_eq_false_iff_ne.1 h4 hh.2.2.2), go_sem, ↓reduceIte, zA, zB, zC, zD, zE, zF, reduceCtorEq, zG, zH, zI, zJ, zK, zL, zM, zN, zO, zP, wrap_succ (show k < 9223372036854775807 by omega), wrap_in (show -9223372036854775808 ≤ d + 1 by omega) (by omega)])
    · obtain rfl := eq_of_dec h hk
      have c1 : decide (d1 ≤ 1) = true := by simp; omega
      have c2 : decide (diffTo (fun i => flagsN (noA s i)) (fun i => flagsN (noA p.1 i)) s.nodes.length ≤ 1) = true := by simp; omega
      have c4 : ((p.1.nodes.length : Int) == (s.nodes.length : Int)) = true := by simp; omega
      have hws : IntKind.i64.wrap ((s.jobs.length : Int) + 1) = ((s.jobs.length + 1 : Nat) : Int) := wrap_succ (by omega)
      have c3 : decide ((p.1.jobs.length : Int) ≤ ((s.jobs.length + 1 : Nat) : Int)) = true := by simp; omega
      simp only [c1, c2, hws, c3, c4, go_sem, ↓reduceIte, zA, zB, zC, zD, zE, zF, reduceCtorEq, zG, zH, zI, zJ, zK, zL, zM, zN, zO, zP]
end Dv
