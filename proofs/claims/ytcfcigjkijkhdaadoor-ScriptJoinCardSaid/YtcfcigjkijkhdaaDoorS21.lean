/- The scripts' statements: a text joined of two; words with a blank more. -/
import Derived.Test.YtcfcigjkijkhdaaDoorS19
set_option linter.unusedVariables false
set_option linter.unusedSimpArgs false
namespace Dv
open Go Go.Proofs
open Nat renaming reduceEqDiff → zA, reduceAdd → zB, reduceSub → zC, reduceMul → zD, reduceLT → zE, reduceLeDiff → zF
open Int renaming reduceLE → zG, reduceLT → zH, reduceToNat → zI, reduceBEq → zJ, reduceBNe → zK, reduceEq → zL, reduceAdd → zM, reduceSub → zN, reduceMul → zO, reduceNeg → zP
attribute [local go_sem] argEnv W_nil W_seq W_skip W_ret W_exit W_scope W_block W_blk W_reg W_regD W_cond WC_t WC_f WC_any Wx_c Wx_ops Wx_lp Wx_blk W_ops_nil W_opsD_q W_guard W_guardD WG_tt WG_ff WG_tf WG_ft WG_u WGD_tt WGD_ff WGD_tf WGD_ft WGD_u WE_some WED_some W_more W_mv W_pick W_new W_box W_build W_bsl W_ld1 W_ldn W_st W_nck W_bin W_eqb W_not W_cvt W_fad W_fld1 W_fldn W_ixa W_ixr W_ix1 W_ixs W_len W_lens W_mkf W_ext W_app W_min W_isnp W_isns W_eqs W_neg W_ixn W_sli W_sls WD_more WD_mv WD_pick WD_new WD_box WD_build WD_bsl WD_ld1 WD_ldn WD_st WD_nck WD_bin WD_eqb WD_not WD_cvt WD_fad WD_fld1 WD_fldn WD_ixa WD_ixr WD_ix1 WD_ixs WD_len WD_lens WD_mkf WD_ext WD_app WD_min WD_isnp WD_isns WD_eqs WD_neg WD_ixn WD_sli WD_sls effF effM bytesOf Opd.ev getE putE binV LV.int LV.bool LV.undef Go.undef LV.cells LV.toD LV.toDs splice fillL rowsOf boxOf srcRows updL objL Eff.owned nwp St.get St.obj St.put Value.oneCell' Ends adopt Ad.ap isNil St.keep St.okKeep okObj idl idlL idlO RVs.of RV.of oneOr Ends0 EndsO_iff frzs rn rnL rnO piOf eqCells eqV boundV Option.map_some Option.map_none List.append_nil List.nil_append List.cons_append List.map_nil List.map_cons List.length_nil List.length_cons List.set_cons_zero List.set_cons_succ List.take_succ_cons List.take_zero List.take_nil List.drop_succ_cons List.drop_zero List.drop_nil List.getElem?_cons_zero List.getElem?_cons_succ List.getElem?_nil List.isEmpty_nil List.isEmpty_cons List.all_cons List.all_nil List.isEmpty_nil cond_true cond_false Bool.true_and Bool.false_and Bool.and_true Bool.and_false Bool.not_true Bool.not_false Bool.or_true Bool.true_or Bool.or_false Bool.false_or true_and and_true true_or or_true Option.some.injEq LV.d.injEq DV.val.injEq Value.bool.injEq Value.int.injEq decide_true decide_false and_self Nat.zero_add Nat.add_zero if_true if_false Int.toNat_zero beq_self_eq_true Nat.zero_lt_succ Int.toNat_natCast Int.natCast_nonneg List.length_map i64 bl List.zip_cons_cons List.zip_nil_left List.zip_nil_right nwp confV stateV nodeV jobV nodesV jobsV opV msgV nodeR jobR opR msgR zeroOp zeroMsg msgsV
variable {G : Nat → Option (List DV)}

/-- dunnagelaw23.ScriptJoin -/
def ir6 : Nat × C × List RV := (121,
(.seq (.reg [⟨(some 4), .mv (.c (.val (.bool false))), none, []⟩])
 (.seq (.seq (.reg [⟨(some 19), .call (.f 7) [], none, []⟩,
 ⟨(some 20), .not (.t 19), none, []⟩])
 (.cond (.t 20) (.seq (.reg [⟨(some 4), .mv (.c (.val (.bool false))), none, []⟩])
 .ret)
 .skip))
 (.seq (.seq (.reg [⟨(some 21), .mv (.t 0), none, []⟩,
 ⟨(some 22), .lens (.t 21), none, []⟩,
 ⟨(some 23), .bin .gtr (.t 22) (.c (.val (.int .i64 1000))), none, []⟩,
 ⟨(some 24), .mv (.t 23), none, []⟩,
 ⟨(some 25), .mv (.t 1), (some (24, false)), []⟩,
 ⟨(some 26), .lens (.t 25), (some (24, false)), []⟩,
 ⟨(some 27), .bin .gtr (.t 26) (.c (.val (.int .i64 1000))), (some (24, false)), []⟩,
 ⟨(some 28), .pick (.t 24) (.c (.val (.bool true))) (.t 27), none, []⟩])
 (.cond (.t 28) (.seq (.reg [⟨(some 4), .mv (.c (.val (.bool true))), none, []⟩])
 .ret)
 .skip))
 (.seq (.reg [⟨(some 30), .mv (.t 0), none, []⟩,
 ⟨(some 31), .bin .add (.t 30) (.c (.val (.string ⟨#[10]⟩))), none, []⟩,
 ⟨(some 32), .call (.f 14) [(.t 31)], none, []⟩,
 ⟨(some 29), .mv (.t 32), none, []⟩,
 ⟨(some 33), .ext (.t 29) 0, none, []⟩,
 ⟨(some 34), .ext (.t 29) 1, none, []⟩,
 ⟨(some 5), .mv (.t 33), none, []⟩,
 ⟨(some 6), .mv (.t 34), none, []⟩])
 (.seq (.reg [⟨(some 36), .mv (.t 1), none, []⟩,
 ⟨(some 37), .call (.f 14) [(.t 36)], none, []⟩,
 ⟨(some 35), .mv (.t 37), none, []⟩,
 ⟨(some 38), .ext (.t 35) 0, none, []⟩,
 ⟨(some 39), .ext (.t 35) 1, none, []⟩,
 ⟨(some 7), .mv (.t 38), none, []⟩,
 ⟨(some 8), .mv (.t 39), none, []⟩])
 (.seq (.reg [⟨(some 41), .mv (.t 0), none, []⟩,
 ⟨(some 42), .bin .add (.t 41) (.c (.val (.string ⟨#[10]⟩))), none, []⟩,
 ⟨(some 43), .mv (.t 1), none, []⟩,
 ⟨(some 44), .bin .add (.t 42) (.t 43), none, []⟩,
 ⟨(some 45), .call (.f 14) [(.t 44)], none, []⟩,
 ⟨(some 40), .mv (.t 45), none, []⟩,
 ⟨(some 46), .ext (.t 40) 0, none, []⟩,
 ⟨(some 47), .ext (.t 40) 1, none, []⟩,
 ⟨(some 9), .mv (.t 46), none, []⟩,
 ⟨(some 10), .mv (.t 47), none, []⟩])
 (.seq (.seq (.reg [⟨(some 48), .mv (.t 9), none, []⟩,
 ⟨(some 49), .len (.t 48), none, []⟩,
 ⟨(some 50), .mv (.t 5), none, []⟩,
 ⟨(some 51), .len (.t 50), none, []⟩,
 ⟨(some 52), .mv (.t 7), none, []⟩,
 ⟨(some 53), .len (.t 52), none, []⟩,
 ⟨(some 54), .bin .add (.t 51) (.t 53), none, []⟩,
 ⟨(some 55), .bin .neq (.t 49) (.t 54), none, []⟩,
 ⟨(some 56), .mv (.t 55), none, []⟩,
 ⟨(some 57), .mv (.t 10), (some (56, false)), []⟩,
 ⟨(some 58), .len (.t 57), (some (56, false)), []⟩,
 ⟨(some 59), .mv (.t 6), (some (56, false)), []⟩,
 ⟨(some 60), .len (.t 59), (some (56, false)), []⟩,
 ⟨(some 61), .mv (.t 8), (some (56, false)), []⟩,
 ⟨(some 62), .len (.t 61), (some (56, false)), []⟩,
 ⟨(some 63), .bin .add (.t 60) (.t 62), (some (56, false)), []⟩,
 ⟨(some 64), .bin .neq (.t 58) (.t 63), (some (56, false)), []⟩,
 ⟨(some 65), .pick (.t 56) (.c (.val (.bool true))) (.t 64), none, []⟩])
 (.cond (.t 65) (.seq (.reg [⟨(some 4), .mv (.c (.val (.bool false))), none, []⟩])
 .ret)
 .skip))
 (.seq (.seq (.reg [⟨(some 11), .mv (.c (.val (.int .i64 0))), none, []⟩])
 (.block 0 (.loop (.seq (.seq (.reg [⟨(some 66), .mv (.t 11), none, []⟩,
 ⟨(some 67), .mv (.t 9), none, []⟩,
 ⟨(some 68), .len (.t 67), none, []⟩,
 ⟨(some 69), .bin .lss (.t 66) (.t 68), none, []⟩])
 (.cond (.t 69) .skip
 (.exit 0)))
 (.seq (.block 1 (.seq (.reg [⟨(some 72), .build [(.val (.int .i64 0)), (.val (.int .i64 0)), (.val (.int .i64 0)), (.val (.int .i64 0)), (.val (.int .i64 0)), (.val (.int .i64 0)), (.val (.int .i64 0)), (.val (.int .i64 0)), (.val (.int .i64 0)), (.val (.int .i64 0))] [], none, []⟩,
 ⟨(some 12), .new 25 [(.val (.int .i64 0)), (.val (.int .i64 0)), (.val (.int .i64 0)), (.val (.int .i64 0)), (.val (.int .i64 0)), (.val (.int .i64 0)), (.val (.int .i64 0)), (.val (.int .i64 0)), (.val (.int .i64 0)), (.val (.int .i64 0))], none, []⟩,
 ⟨none, .st 10 (.t 12) (.t 72), none, []⟩])
 (.seq (.seq (.reg [⟨(some 73), .mv (.t 11), none, []⟩,
 ⟨(some 74), .mv (.t 5), none, []⟩,
 ⟨(some 75), .len (.t 74), none, []⟩,
 ⟨(some 76), .bin .lss (.t 73) (.t 75), none, []⟩])
 (.cond (.t 76) (.reg [⟨(some 77), .mv (.t 5), none, []⟩,
 ⟨(some 78), .mv (.t 11), none, []⟩,
 ⟨(some 79), .ixa 10 (.t 77) (.t 78), none, []⟩,
 ⟨(some 80), .ldn 10 (.t 79), none, []⟩,
 ⟨none, .st 10 (.t 12) (.t 80), none, []⟩])
 (.reg [⟨(some 81), .mv (.t 7), none, []⟩,
 ⟨(some 82), .mv (.t 11), none, []⟩,
 ⟨(some 83), .mv (.t 5), none, []⟩,
 ⟨(some 84), .len (.t 83), none, []⟩,
 ⟨(some 85), .bin .sub (.t 82) (.t 84), none, []⟩,
 ⟨(some 86), .ixa 10 (.t 81) (.t 85), none, []⟩,
 ⟨(some 87), .ldn 10 (.t 86), none, []⟩,
 ⟨none, .st 10 (.t 12) (.t 87), none, []⟩])))
 (.seq (.regD [⟨(some 88), .mv (.t 9), none, []⟩,
 ⟨(some 89), .mv (.t 11), none, []⟩,
 ⟨(some 90), .ixa 10 (.t 88) (.t 89), none, [0, 1]⟩,
 ⟨(some 91), .ldn 10 (.t 90), none, [2, 0, 1]⟩,
 ⟨(some 92), .ldn 10 (.t 12), none, []⟩,
 ⟨(some 93), .eqs true [0, 0, 0, 0, 0, 0, 0, 0, 0, 0] (.t 91) (.t 92), none, [3, 2, 0, 1, 4]⟩])
 (.cond (.t 93) (.seq (.reg [⟨(some 4), .mv (.c (.val (.bool false))), none, []⟩])
 .ret)
 .skip)))))
 (.reg [⟨(some 70), .mv (.t 11), none, []⟩,
 ⟨(some 71), .bin .add (.t 70) (.c (.val (.int .i64 1))), none, []⟩,
 ⟨(some 11), .mv (.t 71), none, []⟩]))))))
 (.seq (.seq (.reg [⟨(some 13), .mv (.c (.val (.int .i64 0))), none, []⟩])
 (.block 2 (.loop (.seq (.seq (.reg [⟨(some 94), .mv (.t 13), none, []⟩,
 ⟨(some 95), .mv (.t 9), none, []⟩,
 ⟨(some 96), .len (.t 95), none, []⟩,
 ⟨(some 97), .bin .lss (.t 94) (.t 96), none, []⟩])
 (.cond (.t 97) .skip
 (.exit 2)))
 (.seq (.block 3 (.seq (.reg [⟨(some 100), .mv (.t 9), none, []⟩,
 ⟨(some 101), .mv (.t 13), none, []⟩,
 ⟨(some 102), .ixa 10 (.t 100) (.t 101), none, []⟩,
 ⟨(some 103), .ldn 10 (.t 102), none, []⟩,
 ⟨(some 104), .call (.f 12) [(.t 103)], none, []⟩,
 ⟨(some 14), .mv (.t 104), none, []⟩])
 (.seq (.reg [⟨(some 106), .mv (.t 14), none, []⟩,
 ⟨(some 107), .bin .add (.t 106) (.c (.val (.string ⟨#[32]⟩))), none, []⟩,
 ⟨(some 108), .call (.f 8) [(.t 107)], none, []⟩,
 ⟨(some 105), .mv (.t 108), none, []⟩,
 ⟨(some 109), .ext (.t 105) 0, none, []⟩,
 ⟨(some 110), .ext (.t 105) 1, none, []⟩,
 ⟨(some 15), .new 25 [(.val (.int .i64 0)), (.val (.int .i64 0)), (.val (.int .i64 0)), (.val (.int .i64 0)), (.val (.int .i64 0)), (.val (.int .i64 0)), (.val (.int .i64 0)), (.val (.int .i64 0)), (.val (.int .i64 0)), (.val (.int .i64 0))], none, []⟩,
 ⟨none, .st 10 (.t 15) (.t 109), none, []⟩,
 ⟨(some 16), .mv (.t 110), none, []⟩])
 (.seq (.reg [⟨(some 112), .mv (.t 14), none, []⟩,
 ⟨(some 113), .bin .add (.c (.val (.string ⟨#[32]⟩))) (.t 112), none, []⟩,
 ⟨(some 114), .call (.f 8) [(.t 113)], none, []⟩,
 ⟨(some 111), .mv (.t 114), none, []⟩,
 ⟨(some 115), .ext (.t 111) 0, none, []⟩,
 ⟨(some 116), .ext (.t 111) 1, none, []⟩,
 ⟨(some 17), .new 25 [(.val (.int .i64 0)), (.val (.int .i64 0)), (.val (.int .i64 0)), (.val (.int .i64 0)), (.val (.int .i64 0)), (.val (.int .i64 0)), (.val (.int .i64 0)), (.val (.int .i64 0)), (.val (.int .i64 0)), (.val (.int .i64 0))], none, []⟩,
 ⟨none, .st 10 (.t 17) (.t 115), none, []⟩,
 ⟨(some 18), .mv (.t 116), none, []⟩])
 (.seq (.reg [⟨(some 117), .mv (.t 16), none, []⟩,
 ⟨(some 118), .mv (.t 117), none, []⟩,
 ⟨(some 119), .mv (.t 18), (some (118, false)), []⟩,
 ⟨(some 120), .pick (.t 118) (.c (.val (.bool true))) (.t 119), none, []⟩])
 (.cond (.t 120) (.seq (.reg [⟨(some 4), .mv (.c (.val (.bool false))), none, []⟩])
 .ret)
 .skip))))))
 (.reg [⟨(some 98), .mv (.t 13), none, []⟩,
 ⟨(some 99), .bin .add (.t 98) (.c (.val (.int .i64 1))), none, []⟩,
 ⟨(some 13), .mv (.t 99), none, []⟩]))))))
 (.seq (.reg [⟨(some 4), .mv (.c (.val (.bool true))), none, []⟩])
 .ret)))))))))),
[(.t 4)])
theorem irOk6 : convFn Tryd.prog Tryd.f6 = some ir6 := by kernel_rfl

attribute [local go_sem] optEnt resP entsV

theorem numR_len (l : List Int) : (numR l).length = l.length := by simp [numR]
def jnS (x y : List EntD) (i : Nat) : St := ⟨[(5, entsV x), (7, entsV y), (9, entsV (x ++ y)), (11, .int i)], []⟩
def jn2S (z : List EntD) (i : Nat) : St := ⟨[(9, entsV z), (13, .int i)], []⟩
set_option maxHeartbeats 4000000 in
theorem sJoin_law (h : OG G) (a b : ByteArray) : Tri Tryd.prog G 6 [.d (.val (.string a)), .d (.val (.string b))] [] (.bool true) [] := by
  refine tri_W0 Tryd.func6 (by decide) irOk6 (Nat.le_of_ble_eq_true rfl) rfl ?_
  simp only [ir6, go_sem, ↓reduceIte, zA, zB, zC, zD, zE, zF, reduceCtorEq, zG, zH, zI, zJ, zK, zL, zM, zN, zO, zP]
  refine W_calld (alive23_tri h) rfl rfl rfl rfl ?_; simp only [go_sem, ↓reduceIte, zA, zB, zC, zD, zE, zF, reduceCtorEq, zG, zH, zI, zJ, zK, zL, zM, zN, zO, zP]
  by_cases h1 : a.size ≤ 1000
  case neg => simp only [decide_eq_true (show ((a.size : Nat) : Int) > 1000 by omega), go_sem, ↓reduceIte, zA, zB, zC, zD, zE, zF, reduceCtorEq, zG, zH, zI, zJ, zK, zL, zM, zN, zO, zP]
  by_cases h2 : b.size ≤ 1000
  case neg => simp only [decide_eq_false (show ¬ ((a.size : Nat) : Int) > 1000 by omega), decide_eq_true (show ((b.size : Nat) : Int) > 1000 by omega), go_sem, ↓reduceIte, zA, zB, zC, zD, zE, zF, reduceCtorEq, zG, zH, zI, zJ, zK, zL, zM, zN, zO, zP]
  simp only [decide_eq_false (show ¬ ((a.size : Nat) : Int) > 1000 by omega), decide_eq_false (show ¬ ((b.size : Nat) : Int) > 1000 by omega), go_sem, ↓reduceIte, zA, zB, zC, zD, zE, zF, reduceCtorEq, zG, zH, zI, zJ, zK, zL, zM, zN, zO, zP]
  have c1 : (⟨#[10]⟩ : ByteArray).size = 1 := rfl
  have s1 : (a ++ ⟨#[10]⟩ : ByteArray).size = a.size + 1 := by rw [ByteArray.size_append, c1]
  have s2 : (a ++ ⟨#[10]⟩ ++ b : ByteArray).size = a.size + 1 + b.size := by rw [ByteArray.size_append, s1]
  have hA := Go.Proofs.parse_tri h (a ++ ⟨#[10]⟩) (by omega)
  have hB := Go.Proofs.parse_tri h b (by omega)
  have hC := Go.Proofs.parse_tri h (a ++ ⟨#[10]⟩ ++ b) (by omega)
  obtain ⟨p1, p2⟩ := parse_len (a ++ ⟨#[10]⟩)
  obtain ⟨q1, q2⟩ := parse_len b
  obtain ⟨j1, j2⟩ := parse_join a b
  have hr : ∀ e ∈ (parseS (a ++ ⟨#[10]⟩ ++ b)).1, entOkB e = true := fun e he => parse_right he
  have u1 : a.size + (#[10] : Array UInt8).size ≤ 9223372036854775807 := by show a.size + 1 ≤ _; omega
  have u2 : a.size + (#[10] : Array UInt8).size + b.size ≤ 9223372036854775807 := by show a.size + 1 + b.size ≤ _; omega
  generalize (parseS (a ++ ⟨#[10]⟩)) = r at *
  generalize (parseS b) = p at *
  generalize (parseS (a ++ ⟨#[10]⟩ ++ b)) = q at *
  obtain ⟨x, wx⟩ := r
  obtain ⟨y, wy⟩ := p
  obtain ⟨z, wz⟩ := q
  dsimp only at j1 j2 p1 p2 q1 q2 hr
  subst j1
  simp only [u1, if_true, go_sem, ↓reduceIte, zA, zB, zC, zD, zE, zF, reduceCtorEq, zG, zH, zI, zJ, zK, zL, zM, zN, zO, zP]
  refine W_calld hA rfl rfl rfl rfl ?_
  simp only [go_sem, ↓reduceIte, zA, zB, zC, zD, zE, zF, reduceCtorEq, zG, zH, zI, zJ, zK, zL, zM, zN, zO, zP]
  refine W_calld hB rfl rfl rfl rfl ?_
  simp only [u1, u2, if_true, go_sem, ↓reduceIte, zA, zB, zC, zD, zE, zF, reduceCtorEq, zG, zH, zI, zJ, zK, zL, zM, zN, zO, zP]
  refine W_calld hC rfl rfl rfl rfl ?_
  simp only [go_sem, ↓reduceIte, zA, zB, zC, zD, zE, zF, reduceCtorEq, zG, zH, zI, zJ, zK, zL, zM, zN, zO, zP]
  have hxl := entRows_len x
  have hyl := entRows_len y
  have hzl := entRows_len (x ++ y)
  rw [List.length_append] at hzl
  simp only [hxl, hyl, hzl, numR_len, j2, Int.natCast_add, go_sem, ↓reduceIte, zA, zB, zC, zD, zE, zF, reduceCtorEq, zG, zH, zI, zJ, zK, zL, zM, zN, zO, zP]
  have w1 : IntKind.i64.wrap ((x.length : Int) + (y.length : Int)) = (x.length : Int) + (y.length : Int) := wrap_in (by omega) (by omega)
  have w2 : IntKind.i64.wrap ((wx.length : Int) + (wy.length : Int)) = (wx.length : Int) + (wy.length : Int) := wrap_in (by omega) (by omega)
  simp only [w1, w2, numR_len, j2, Int.natCast_add, bne_self_eq_false, go_sem, ↓reduceIte, zA, zB, zC, zD, zE, zF, reduceCtorEq, zG, zH, zI, zJ, zK, zL, zM, zN, zO, zP]
  refine W_loopI [5, 7, 9, 11] [] (fun i : Nat => i ≤ x.length + y.length) (fun i => x.length + y.length - i) (jnS x y) 0 ?_ (Nat.zero_le _) ?_
  · simp only [jnS, Int.natCast_zero, go_sem, ↓reduceIte, zA, zB, zC, zD, zE, zF, reduceCtorEq, zG, zH, zI, zJ, zK, zL, zM, zN, zO, zP]
  intro i hi
  simp only [jnS, hzl, go_sem, ↓reduceIte, zA, zB, zC, zD, zE, zF, reduceCtorEq, zG, zH, zI, zJ, zK, zL, zM, zN, zO, zP]
  by_cases hlt : i < x.length + y.length
  case pos =>
    have hg9 : (entRows (x ++ y))[i]? = some (entR ((x ++ y).getD i zeroEnt)) := get_mapD (f := entR) zeroEnt (by rw [List.length_append]; exact hlt)
    simp only [decide_eq_true (show ((i : Nat) : Int) < ((x.length + y.length : Nat) : Int) by omega), hxl, go_sem, ↓reduceIte, zA, zB, zC, zD, zE, zF, reduceCtorEq, zG, zH, zI, zJ, zK, zL, zM, zN, zO, zP]
    by_cases hx : i < x.length
    case pos =>
      have hg5 : (entRows x)[i]? = some (entR ((x ++ y).getD i zeroEnt)) := by
        rw [List.getD_eq_getElem?_getD, List.getElem?_append_left hx, ← List.getD_eq_getElem?_getD]; exact get_mapD (f := entR) zeroEnt hx
      generalize (x ++ y).getD i zeroEnt = e at hg9 hg5
      simp only [entR] at hg9 hg5
      simp only [decide_eq_true (show ((i : Nat) : Int) < ((x.length : Nat) : Int) by omega), hg5, hg9, go_sem, ↓reduceIte, zA, zB, zC, zD, zE, zF, reduceCtorEq, zG, zH, zI, zJ, zK, zL, zM, zN, zO, zP]
      refine W_lpI (i + 1) ?_ ?_ (by omega) (by omega)
      · simp only [go_sem, ↓reduceIte, zA, zB, zC, zD, zE, zF, reduceCtorEq, zG, zH, zI, zJ, zK, zL, zM, zN, zO, zP]
      · simp only [jnS, wrap_succ (show i < 9223372036854775807 by omega), go_sem, ↓reduceIte, zA, zB, zC, zD, zE, zF, reduceCtorEq, zG, zH, zI, zJ, zK, zL, zM, zN, zO, zP]
    case neg =>
      have hg7 : (entRows y)[i - x.length]? = some (entR ((x ++ y).getD i zeroEnt)) := by
        rw [List.getD_eq_getElem?_getD, List.getElem?_append_right (by omega), ← List.getD_eq_getElem?_getD]; exact get_mapD (f := entR) zeroEnt (by omega)
      generalize (x ++ y).getD i zeroEnt = e at hg9 hg7
      simp only [entR] at hg9 hg7
      have w3 : IntKind.i64.wrap ((i : Int) - (x.length : Int)) = ((i - x.length : Nat) : Int) := by rw [wrap_in (by omega) (by omega)]; omega
      simp only [decide_eq_false (show ¬ ((i : Nat) : Int) < ((x.length : Nat) : Int) by omega), w3, hxl, hg7, hg9, go_sem, ↓reduceIte, zA, zB, zC, zD, zE, zF, reduceCtorEq, zG, zH, zI, zJ, zK, zL, zM, zN, zO, zP]
      refine W_lpI (i + 1) ?_ ?_ (by omega) (by omega)
      · simp only [go_sem, ↓reduceIte, zA, zB, zC, zD, zE, zF, reduceCtorEq, zG, zH, zI, zJ, zK, zL, zM, zN, zO, zP]
      · simp only [jnS, wrap_succ (show i < 9223372036854775807 by omega), go_sem, ↓reduceIte, zA, zB, zC, zD, zE, zF, reduceCtorEq, zG, zH, zI, zJ, zK, zL, zM, zN, zO, zP]
  case neg =>
    simp only [decide_eq_false (show ¬ ((i : Nat) : Int) < ((x.length + y.length : Nat) : Int) by omega), go_sem, ↓reduceIte, zA, zB, zC, zD, zE, zF, reduceCtorEq, zG, zH, zI, zJ, zK, zL, zM, zN, zO, zP]
    generalize hz : x ++ y = z at *
    have hzz : z.length = x.length + y.length := by rw [← hz, List.length_append]
    rw [← hzz] at hzl
    refine W_loopI [9, 13] [] (fun i : Nat => i ≤ z.length) (fun i => z.length - i) (jn2S z) 0 ?_ (Nat.zero_le _) ?_
    · simp only [jn2S, Int.natCast_zero, go_sem, ↓reduceIte, zA, zB, zC, zD, zE, zF, reduceCtorEq, zG, zH, zI, zJ, zK, zL, zM, zN, zO, zP]
    intro k hk
    simp only [jn2S, hzl, go_sem, ↓reduceIte, zA, zB, zC, zD, zE, zF, reduceCtorEq, zG, zH, zI, zJ, zK, zL, zM, zN, zO, zP]
    by_cases hlt2 : k < z.length
    case neg =>
      simp only [decide_eq_false (show ¬ ((k : Nat) : Int) < ((z.length : Nat) : Int) by omega), go_sem, ↓reduceIte, zA, zB, zC, zD, zE, zF, reduceCtorEq, zG, zH, zI, zJ, zK, zL, zM, zN, zO, zP]
    have hg := get_mapD (f := entR) zeroEnt hlt2
    have hg : (entRows z)[k]? = some (entR (z.getD k zeroEnt)) := hg
    have hok : entOkB (z.getD k zeroEnt) = true := hr _ (by rw [List.getD_eq_getElem?_getD, List.getElem?_eq_getElem hlt2]; exact List.getElem_mem hlt2)
    generalize z.getD k zeroEnt = e at hg hok
    have hws := wordsE_size e
    simp only [entR] at hg
    simp only [decide_eq_true (show ((k : Nat) : Int) < ((z.length : Nat) : Int) by omega), hg, go_sem, ↓reduceIte, zA, zB, zC, zD, zE, zF, reduceCtorEq, zG, zH, zI, zJ, zK, zL, zM, zN, zO, zP]
    have c32 : (⟨#[32]⟩ : ByteArray).size = 1 := rfl
    have hE1 := h.entry (wordsE e ++ ⟨#[32]⟩) (by rw [ByteArray.size_append, c32]; omega)
    rw [blank_behind hok] at hE1
    have hE2 := h.entry (⟨#[32]⟩ ++ wordsE e) (by rw [ByteArray.size_append, c32]; omega)
    rw [blank_ahead hok] at hE2
    have v1 : (wordsE e).size + (#[32] : Array UInt8).size ≤ 9223372036854775807 := by show (wordsE e).size + 1 ≤ _; omega
    have v2 : (#[32] : Array UInt8).size + (wordsE e).size ≤ 9223372036854775807 := by show 1 + (wordsE e).size ≤ _; omega
    refine W_calld (entWords_tri h e) rfl rfl rfl rfl ?_; simp only [go_sem, ↓reduceIte, zA, zB, zC, zD, zE, zF, reduceCtorEq, zG, zH, zI, zJ, zK, zL, zM, zN, zO, zP]
    generalize wordsE e = q at *
    simp only [v1, if_true, go_sem, ↓reduceIte, zA, zB, zC, zD, zE, zF, reduceCtorEq, zG, zH, zI, zJ, zK, zL, zM, zN, zO, zP]
    refine W_calld hE1 rfl rfl rfl rfl ?_
    simp only [Option.isSome_none, Option.getD_none, zeroEnt, zeroOp, v2, if_true, go_sem, ↓reduceIte, zA, zB, zC, zD, zE, zF, reduceCtorEq, zG, zH, zI, zJ, zK, zL, zM, zN, zO, zP]
    refine W_calld hE2 rfl rfl rfl rfl ?_
    simp only [Option.isSome_none, Option.getD_none, zeroEnt, zeroOp, go_sem, ↓reduceIte, zA, zB, zC, zD, zE, zF, reduceCtorEq, zG, zH, zI, zJ, zK, zL, zM, zN, zO, zP]
    refine W_lpI (k + 1) ?_ ?_ (by omega) (by omega)
    · simp only [go_sem, ↓reduceIte, zA, zB, zC, zD, zE, zF, reduceCtorEq, zG, zH, zI, zJ, zK, zL, zM, zN, zO, zP]
    · simp only [jn2S, wrap_succ (show k < 9223372036854775807 by omega), go_sem, ↓reduceIte, zA, zB, zC, zD, zE, zF, reduceCtorEq, zG, zH, zI, zJ, zK, zL, zM, zN, zO, zP]
end Dv
