/- The ops' statements: few. -/
import Derived.Test.YtehbfgkhcmepbaaDoorO13
import Derived.Test.YtehbfgkhcmepbaaDoorO14
set_option linter.unusedVariables false
set_option linter.unusedSimpArgs false
namespace Dv
open Go Go.Proofs
open Nat renaming reduceEqDiff → zA, reduceAdd → zB, reduceSub → zC, reduceMul → zD, reduceLT → zE, reduceLeDiff → zF
open Int renaming reduceLE → zG, reduceLT → zH, reduceToNat → zI, reduceBEq → zJ, reduceBNe → zK, reduceEq → zL, reduceAdd → zM, reduceSub → zN, reduceMul → zO, reduceNeg → zP
attribute [local go_sem] argEnv W_nil W_seq W_skip W_ret W_exit W_scope W_block W_blk W_reg W_regD W_cond WC_t WC_f WC_any Wx_c Wx_ops Wx_lp Wx_blk W_ops_nil W_opsD_q W_guard W_guardD WG_tt WG_ff WG_tf WG_ft WG_u WGD_tt WGD_ff WGD_tf WGD_ft WGD_u WE_some WED_some W_more W_mv W_pick W_new W_box W_build W_bsl W_ld1 W_ldn W_st W_nck W_bin W_eqb W_not W_cvt W_fad W_fld1 W_fldn W_ixa W_ixr W_ix1 W_ixs W_len W_lens W_mkf W_ext W_app W_min W_isnp W_isns W_eqs W_neg W_ixn W_sli W_sls WD_more WD_mv WD_pick WD_new WD_box WD_build WD_bsl WD_ld1 WD_ldn WD_st WD_nck WD_bin WD_eqb WD_not WD_cvt WD_fad WD_fld1 WD_fldn WD_ixa WD_ixr WD_ix1 WD_ixs WD_len WD_lens WD_mkf WD_ext WD_app WD_min WD_isnp WD_isns WD_eqs WD_neg WD_ixn WD_sli WD_sls effF effM bytesOf Opd.ev getE putE binV LV.int LV.bool LV.undef Go.undef LV.cells LV.toD LV.toDs splice fillL rowsOf srcRows updL objL Eff.owned nwp St.get St.obj St.put Value.oneCell' Ends adopt Ad.ap isNil St.keep St.okKeep okObj idl idlL idlO RVs.of RV.of oneOr Ends0 EndsO_iff frzs rn rnL rnO piOf eqCells eqV boundV Option.map_some Option.map_none List.append_nil List.nil_append List.cons_append List.map_nil List.map_cons List.length_nil List.length_cons List.set_cons_zero List.set_cons_succ List.take_succ_cons List.take_zero List.take_nil List.drop_succ_cons List.drop_zero List.drop_nil List.getElem?_cons_zero List.getElem?_cons_succ List.getElem?_nil List.isEmpty_nil List.isEmpty_cons List.all_cons List.all_nil List.isEmpty_nil cond_true cond_false Bool.true_and Bool.false_and Bool.and_true Bool.and_false Bool.not_true Bool.not_false Bool.or_true Bool.true_or Bool.or_false Bool.false_or true_and and_true true_or or_true Option.some.injEq LV.d.injEq DV.val.injEq Value.bool.injEq Value.int.injEq decide_true decide_false and_self Nat.zero_add Nat.add_zero if_true if_false Int.toNat_zero beq_self_eq_true Nat.zero_lt_succ Int.toNat_natCast Int.natCast_nonneg List.length_map i64 bl List.zip_cons_cons List.zip_nil_left List.zip_nil_right nwp confV stateV nodeV jobV nodesV jobsV opV msgV nodeR jobR opR msgR zeroOp zeroMsg msgsV
variable {G : Nat → Option (List DV)}

/-- dunnagelaw08.OpsFew -/
def ir7 : Nat × C × List RV := (62,
(.seq (.reg [⟨(some 1), .box 23 (.t 0), none, []⟩,
 ⟨(some 2), .mv (.c (.val (.bool false))), none, []⟩])
 (.seq (.seq (.reg [⟨(some 6), .call (.f 8) [], none, []⟩,
 ⟨(some 7), .not (.t 6), none, []⟩])
 (.cond (.t 7) (.seq (.reg [⟨(some 2), .mv (.c (.val (.bool false))), none, []⟩])
 .ret)
 .skip))
 (.seq (.regD [⟨(some 8), .ldn 7 (.t 1), none, []⟩,
 ⟨(some 9), .call (.f 14) [(.t 8)], none, [0]⟩,
 ⟨(some 10), .ldn 7 (.t 1), none, []⟩,
 ⟨(some 11), .call (.f 20) [(.t 10)], none, [2, 1, 0]⟩,
 ⟨(some 3), .mv (.t 9), none, [1, 0, 3, 2]⟩,
 ⟨(some 4), .mv (.t 11), none, [3, 2, 1, 0, 4]⟩])
 (.seq (.seq (.reg [⟨(some 12), .ldn 7 (.t 1), none, []⟩,
 ⟨(some 13), .call (.f 11) [(.t 12)], none, []⟩,
 ⟨(some 14), .not (.t 13), none, []⟩])
 (.cond (.t 14) (.seq (.reg [⟨(some 15), .mv (.t 3), none, []⟩,
 ⟨(some 16), .len (.t 15), none, []⟩,
 ⟨(some 17), .mv (.t 4), none, []⟩,
 ⟨(some 18), .lens (.t 17), none, []⟩,
 ⟨(some 19), .bin .add (.t 16) (.t 18), none, []⟩,
 ⟨(some 20), .bin .eql (.t 19) (.c (.val (.int .i64 0))), none, []⟩,
 ⟨(some 2), .mv (.t 20), none, []⟩])
 .ret)
 .skip))
 (.seq (.seq (.reg [⟨(some 5), .mv (.c (.val (.int .i64 0))), none, []⟩])
 (.block 0 (.loop (.seq (.seq (.reg [⟨(some 21), .mv (.t 5), none, []⟩,
 ⟨(some 22), .mv (.t 4), none, []⟩,
 ⟨(some 23), .lens (.t 22), none, []⟩,
 ⟨(some 24), .bin .lss (.t 21) (.t 23), none, []⟩])
 (.cond (.t 24) .skip
 (.exit 0)))
 (.seq (.block 1 (.seq (.reg [⟨(some 27), .mv (.t 4), none, []⟩,
 ⟨(some 28), .mv (.t 5), none, []⟩,
 ⟨(some 29), .ixs (.t 27) (.t 28), none, []⟩,
 ⟨(some 30), .bin .eql (.t 29) (.c (.val (.int .u8 32))), none, []⟩,
 ⟨(some 31), .mv (.t 30), none, []⟩,
 ⟨(some 32), .mv (.t 5), (some (31, true)), []⟩,
 ⟨(some 33), .bin .eql (.t 32) (.c (.val (.int .i64 0))), (some (31, true)), []⟩,
 ⟨(some 34), .mv (.t 33), (some (31, true)), []⟩,
 ⟨(some 35), .mv (.t 5), (some (34, false)), []⟩,
 ⟨(some 36), .mv (.t 4), (some (34, false)), []⟩,
 ⟨(some 37), .lens (.t 36), (some (34, false)), []⟩,
 ⟨(some 38), .bin .sub (.t 37) (.c (.val (.int .i64 1))), (some (34, false)), []⟩,
 ⟨(some 39), .bin .eql (.t 35) (.t 38), (some (34, false)), []⟩,
 ⟨(some 40), .pick (.t 34) (.c (.val (.bool true))) (.t 39), (some (31, true)), []⟩,
 ⟨(some 41), .mv (.t 40), (some (31, true)), []⟩,
 ⟨(some 42), .mv (.t 4), (some (41, false)), []⟩,
 ⟨(some 43), .mv (.t 5), (some (41, false)), []⟩,
 ⟨(some 44), .bin .add (.t 43) (.c (.val (.int .i64 1))), (some (41, false)), []⟩,
 ⟨(some 45), .ixs (.t 42) (.t 44), (some (41, false)), []⟩,
 ⟨(some 46), .bin .eql (.t 45) (.c (.val (.int .u8 32))), (some (41, false)), []⟩,
 ⟨(some 47), .pick (.t 41) (.c (.val (.bool true))) (.t 46), (some (31, true)), []⟩,
 ⟨(some 48), .pick (.t 31) (.t 47) (.c (.val (.bool false))), none, []⟩])
 (.cond (.t 48) (.seq (.reg [⟨(some 2), .mv (.c (.val (.bool false))), none, []⟩])
 .ret)
 .skip)))
 (.reg [⟨(some 25), .mv (.t 5), none, []⟩,
 ⟨(some 26), .bin .add (.t 25) (.c (.val (.int .i64 1))), none, []⟩,
 ⟨(some 5), .mv (.t 26), none, []⟩]))))))
 (.seq (.reg [⟨(some 49), .mv (.t 3), none, []⟩,
 ⟨(some 50), .len (.t 49), none, []⟩,
 ⟨(some 51), .bin .geq (.t 50) (.c (.val (.int .i64 2))), none, []⟩,
 ⟨(some 52), .mv (.t 51), none, []⟩,
 ⟨(some 53), .mv (.t 3), (some (52, true)), []⟩,
 ⟨(some 54), .len (.t 53), (some (52, true)), []⟩,
 ⟨(some 55), .bin .leq (.t 54) (.c (.val (.int .i64 25))), (some (52, true)), []⟩,
 ⟨(some 56), .pick (.t 52) (.t 55) (.c (.val (.bool false))), none, []⟩,
 ⟨(some 57), .mv (.t 56), none, []⟩,
 ⟨(some 58), .mv (.t 4), (some (57, true)), []⟩,
 ⟨(some 59), .lens (.t 58), (some (57, true)), []⟩,
 ⟨(some 60), .bin .geq (.t 59) (.c (.val (.int .i64 2))), (some (57, true)), []⟩,
 ⟨(some 61), .pick (.t 57) (.t 60) (.c (.val (.bool false))), none, []⟩,
 ⟨(some 2), .mv (.t 61), none, []⟩])
 .ret)))))),
[(.t 2)])
theorem irOk7 : convFn Tryd.prog Tryd.f7 = some ir7 := by kernel_rfl

attribute [local go_sem] u8 bytesV optOp
set_option maxHeartbeats 4000000 in
def fewOS (o : OpD) (i : Nat) : St := ⟨[(1, .ptr 0 0), (3, bytesV (putO o)), (4, .d (.val (.string (textO o)))), (5, .int i)], [some (.box 23 [.int o.kind, .int o.a, .int o.b, .int o.c, .int o.d, .int o.e, .int o.f])]⟩
theorem few_law (h : OG G) (o : OpD) : Tri Tryd.prog G 7 [opV o] [] (.bool true) [] := by
  have hlb : (byteR (putO o)).length = (putO o).length := by simp [byteR]
  refine tri_W0 Tryd.func7 (by decide) irOk7 (Nat.le_of_ble_eq_true rfl) rfl ?_
  simp only [ir7, go_sem, ↓reduceIte, zA, zB, zC, zD, zE, zF, reduceCtorEq, zG, zH, zI, zJ, zK, zL, zM, zN, zO, zP]
  refine W_calld (alive8_tri h) rfl rfl rfl rfl ?_; simp only [go_sem, ↓reduceIte, zA, zB, zC, zD, zE, zF, reduceCtorEq, zG, zH, zI, zJ, zK, zL, zM, zN, zO, zP]
  refine WD_calld (h.put o) rfl rfl rfl rfl ?_; simp only [go_sem, ↓reduceIte, zA, zB, zC, zD, zE, zF, reduceCtorEq, zG, zH, zI, zJ, zK, zL, zM, zN, zO, zP]
  refine WD_calld (h.text o) rfl rfl rfl rfl ?_; simp only [go_sem, ↓reduceIte, zA, zB, zC, zD, zE, zF, reduceCtorEq, zG, zH, zI, zJ, zK, zL, zM, zN, zO, zP]
  refine W_calld (h.right o) rfl rfl rfl rfl ?_; simp only [go_sem, ↓reduceIte, zA, zB, zC, zD, zE, zF, reduceCtorEq, zG, zH, zI, zJ, zK, zL, zM, zN, zO, zP]
  cases hr : opOkB o with
  | false =>
    have hp : putO o = [] := by unfold putO; rw [if_neg (by rw [hr]; decide)]
    have ht : textO o = ⟨#[]⟩ := textO_off (by rw [hr]; decide)
    have hw : (IntKind.i64.wrap (((0 : Nat) : Int) + (((#[] : Array UInt8).size : Nat) : Int)) == 0) = true := rfl
    simp only [hp, ht, byteR, List.map_nil, List.length_nil, hw, go_sem, ↓reduceIte, zA, zB, zC, zD, zE, zF, reduceCtorEq, zG, zH, zI, zJ, zK, zL, zM, zN, zO, zP]
  | true =>
  have hbl := bs_len (textO o)
  obtain ⟨p1, p2⟩ := putO_few hr
  obtain ⟨_, t1, t2⟩ := textO_size hr
  simp only [go_sem, ↓reduceIte, zA, zB, zC, zD, zE, zF, reduceCtorEq, zG, zH, zI, zJ, zK, zL, zM, zN, zO, zP]
  refine W_loopI [1, 3, 4, 5] [] (fun i : Nat => i ≤ (textO o).size) (fun i => (textO o).size - i) (fewOS o) 0 ?_ (Nat.zero_le _) ?_
  · simp only [fewOS, Int.natCast_zero, go_sem, ↓reduceIte, zA, zB, zC, zD, zE, zF, reduceCtorEq, zG, zH, zI, zJ, zK, zL, zM, zN, zO, zP]
  intro i hi
  simp only [fewOS, go_sem, ↓reduceIte, zA, zB, zC, zD, zE, zF, reduceCtorEq, zG, zH, zI, zJ, zK, zL, zM, zN, zO, zP]
  by_cases hlt : i < (textO o).size
  case neg =>
    simp only [decide_eq_false (show ¬ ((i : Nat) : Int) < (((textO o).size : Nat) : Int) by omega), hlb, decide_eq_true (show (((putO o).length : Nat) : Int) ≥ 2 by omega), decide_eq_true (show (((putO o).length : Nat) : Int) ≤ 25 by omega), decide_eq_true (show (((textO o).size : Nat) : Int) ≥ 2 by omega), go_sem, ↓reduceIte, zA, zB, zC, zD, zE, zF, reduceCtorEq, zG, zH, zI, zJ, zK, zL, zM, zN, zO, zP]
  have hg := List.getElem?_eq_getElem (show i < (textO o).data.toList.length by omega)
  generalize (textO o).data.toList[i]'(by omega) = c at *
  simp only [decide_eq_true (show ((i : Nat) : Int) < (((textO o).size : Nat) : Int) by omega), hg, go_sem, ↓reduceIte, zA, zB, zC, zD, zE, zF, reduceCtorEq, zG, zH, zI, zJ, zK, zL, zM, zN, zO, zP]
  by_cases hc : c = 32
  case neg =>
    have hc2 : c.toNat ≠ 32 := fun e => hc (UInt8.toNat_inj.1 (by rw [e]; rfl))
    simp only [show (((c.toNat : Nat) : Int) == 32) = false from beq_eq_false_iff_ne.2 (by omega), go_sem, ↓reduceIte, zA, zB, zC, zD, zE, zF, reduceCtorEq, zG, zH, zI, zJ, zK, zL, zM, zN, zO, zP]
    refine W_lpI (i + 1) ?_ ?_ (by omega) (by omega)
    · simp only [go_sem, ↓reduceIte, zA, zB, zC, zD, zE, zF, reduceCtorEq, zG, zH, zI, zJ, zK, zL, zM, zN, zO, zP]
    · simp only [fewOS, wrap_succ (show i < 9223372036854775807 by omega), go_sem, ↓reduceIte, zA, zB, zC, zD, zE, zF, reduceCtorEq, zG, zH, zI, zJ, zK, zL, zM, zN, zO, zP]
  obtain ⟨b1, b2, b3⟩ := textO_blank hr i (by rw [hg, hc])
  have hg2 := List.getElem?_eq_getElem (show i + 1 < (textO o).data.toList.length by omega)
  rw [hg2] at b3
  generalize (textO o).data.toList[i + 1]'(by omega) = c2 at *
  have hc2 : c2.toNat ≠ 32 := fun e => b3 (by rw [show c2 = 32 from UInt8.toNat_inj.1 (by rw [e]; rfl)])
  have w1 : IntKind.i64.wrap ((((textO o).size : Nat) : Int) - 1) = (((textO o).size - 1 : Nat) : Int) := by rw [wrap_in (by omega) (by omega)]; omega
  have e32 : (((c.toNat : Nat) : Int) == 32) = true := by rw [hc]; rfl
  simp only [e32, show (((i : Nat) : Int) == 0) = false from beq_eq_false_iff_ne.2 (by omega), w1, show (((i : Nat) : Int) == (((textO o).size - 1 : Nat) : Int)) = false from beq_eq_false_iff_ne.2 (by omega), wrap_succ (show i < 9223372036854775807 by omega), hg2, show (((c2.toNat : Nat) : Int) == 32) = false from beq_eq_false_iff_ne.2 (by omega), go_sem, ↓reduceIte, zA, zB, zC, zD, zE, zF, reduceCtorEq, zG, zH, zI, zJ, zK, zL, zM, zN, zO, zP]
  refine W_lpI (i + 1) ?_ ?_ (by omega) (by omega)
  · simp only [go_sem, ↓reduceIte, zA, zB, zC, zD, zE, zF, reduceCtorEq, zG, zH, zI, zJ, zK, zL, zM, zN, zO, zP]
  · simp only [fewOS, wrap_succ (show i < 9223372036854775807 by omega), go_sem, ↓reduceIte, zA, zB, zC, zD, zE, zF, reduceCtorEq, zG, zH, zI, zJ, zK, zL, zM, zN, zO, zP]
end Dv
