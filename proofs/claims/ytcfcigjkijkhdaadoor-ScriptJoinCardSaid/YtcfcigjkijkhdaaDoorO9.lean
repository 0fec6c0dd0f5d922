/- The document's op of words. -/
import Derived.Test.YtcfcigjkijkhdaaDoorO8
import Derived.Test.YtcfcigjkijkhdaaDoorO3
import Derived.Test.YtcfcigjkijkhdaaDoorO6
set_option linter.unusedVariables false
set_option linter.unusedSimpArgs false
namespace Dv
open Go Go.Proofs
open Nat renaming reduceEqDiff → zA, reduceAdd → zB, reduceSub → zC, reduceMul → zD, reduceLT → zE, reduceLeDiff → zF
open Int renaming reduceLE → zG, reduceLT → zH, reduceToNat → zI, reduceBEq → zJ, reduceBNe → zK, reduceEq → zL, reduceAdd → zM, reduceSub → zN, reduceMul → zO, reduceNeg → zP
attribute [local go_sem] argEnv W_nil W_seq W_skip W_ret W_exit W_scope W_block W_blk W_reg W_regD W_cond WC_t WC_f WC_any Wx_c Wx_ops Wx_lp Wx_blk W_ops_nil W_opsD_q W_guard W_guardD WG_tt WG_ff WG_tf WG_ft WG_u WGD_tt WGD_ff WGD_tf WGD_ft WGD_u WE_some WED_some W_more W_mv W_pick W_new W_box W_build W_bsl W_ld1 W_ldn W_st W_nck W_bin W_eqb W_not W_cvt W_fad W_fld1 W_fldn W_ixa W_ixr W_ix1 W_ixs W_len W_lens W_mkf W_ext W_app W_min W_isnp W_isns W_eqs W_neg W_ixn W_sli W_sls WD_more WD_mv WD_pick WD_new WD_box WD_build WD_bsl WD_ld1 WD_ldn WD_st WD_nck WD_bin WD_eqb WD_not WD_cvt WD_fad WD_fld1 WD_fldn WD_ixa WD_ixr WD_ix1 WD_ixs WD_len WD_lens WD_mkf WD_ext WD_app WD_min WD_isnp WD_isns WD_eqs WD_neg WD_ixn WD_sli WD_sls effF effM bytesOf Opd.ev getE putE binV LV.int LV.bool LV.undef Go.undef LV.cells LV.toD LV.toDs splice fillL rowsOf boxOf srcRows updL objL Eff.owned nwp St.get St.obj St.put Value.oneCell' Ends adopt Ad.ap isNil St.keep St.okKeep okObj idl idlL idlO RVs.of RV.of oneOr Ends0 EndsO_iff frzs rn rnL rnO piOf eqCells eqV boundV Option.map_some Option.map_none List.append_nil List.nil_append List.cons_append List.map_nil List.map_cons List.length_nil List.length_cons List.set_cons_zero List.set_cons_succ List.take_succ_cons List.take_zero List.take_nil List.drop_succ_cons List.drop_zero List.drop_nil List.getElem?_cons_zero List.getElem?_cons_succ List.getElem?_nil List.isEmpty_nil List.isEmpty_cons List.all_cons List.all_nil List.isEmpty_nil cond_true cond_false Bool.true_and Bool.false_and Bool.and_true Bool.and_false Bool.not_true Bool.not_false Bool.or_true Bool.true_or Bool.or_false Bool.false_or true_and and_true true_or or_true Option.some.injEq LV.d.injEq DV.val.injEq Value.bool.injEq Value.int.injEq decide_true decide_false and_self Nat.zero_add Nat.add_zero if_true if_false Int.toNat_zero beq_self_eq_true Nat.zero_lt_succ Int.toNat_natCast Int.natCast_nonneg List.length_map i64 bl List.zip_cons_cons List.zip_nil_left List.zip_nil_right nwp confV stateV nodeV jobV nodesV jobsV opV msgV nodeR jobR opR msgR zeroOp zeroMsg msgsV
variable {G : Nat → Option (List DV)}

/-- dunnageref08.Parse -/
def ir27 : Nat × C × List RV := (99,
(.seq (.reg [⟨(some 2), .new 23 [(.val (.int .i64 0)), (.val (.int .i64 0)), (.val (.int .i64 0)), (.val (.int .i64 0)), (.val (.int .i64 0)), (.val (.int .i64 0)), (.val (.int .i64 0))], none, []⟩,
 ⟨(some 3), .mv (.c (.val (.bool false))), none, []⟩])
 (.seq (.seq (.reg [⟨(some 4), .mv (.c (.val (.int .i64 1))), none, []⟩])
 (.block 0 (.loop (.seq (.seq (.reg [⟨(some 9), .mv (.t 4), none, []⟩,
 ⟨(some 10), .bin .leq (.t 9) (.c (.val (.int .i64 21))), none, []⟩])
 (.cond (.t 10) .skip
 (.exit 0)))
 (.seq (.block 1 (.seq (.reg [⟨(some 13), .mv (.t 4), none, []⟩,
 ⟨(some 14), .call (.f 41) [(.t 13)], none, []⟩,
 ⟨(some 5), .mv (.t 14), none, []⟩])
 (.seq (.seq (.reg [⟨(some 15), .mv (.t 0), none, []⟩,
 ⟨(some 16), .lens (.t 15), none, []⟩,
 ⟨(some 17), .mv (.t 5), none, []⟩,
 ⟨(some 18), .lens (.t 17), none, []⟩,
 ⟨(some 19), .bin .lss (.t 16) (.t 18), none, []⟩,
 ⟨(some 20), .mv (.t 19), none, []⟩,
 ⟨(some 21), .mv (.t 0), (some (20, false)), []⟩,
 ⟨(some 22), .mv (.t 5), (some (20, false)), []⟩,
 ⟨(some 23), .lens (.t 22), (some (20, false)), []⟩,
 ⟨(some 24), .sls (.t 21) none (some (.t 23)), (some (20, false)), []⟩,
 ⟨(some 25), .mv (.t 5), (some (20, false)), []⟩,
 ⟨(some 26), .bin .neq (.t 24) (.t 25), (some (20, false)), []⟩,
 ⟨(some 27), .pick (.t 20) (.c (.val (.bool true))) (.t 26), none, []⟩])
 (.cond (.t 27) (.exit 1)
 .skip))
 (.seq (.reg [⟨(some 6), .mv (.c (.val (.slice none 0 0))), none, []⟩])
 (.seq (.seq (.reg [⟨(some 28), .mv (.t 5), none, []⟩,
 ⟨(some 29), .lens (.t 28), none, []⟩,
 ⟨(some 7), .mv (.t 29), none, []⟩])
 (.block 2 (.loop (.seq (.seq (.reg [⟨(some 30), .mv (.t 7), none, []⟩,
 ⟨(some 31), .mv (.t 0), none, []⟩,
 ⟨(some 32), .lens (.t 31), none, []⟩,
 ⟨(some 33), .bin .lss (.t 30) (.t 32), none, []⟩,
 ⟨(some 34), .mv (.t 33), none, []⟩,
 ⟨(some 35), .mv (.t 6), (some (34, true)), []⟩,
 ⟨(some 36), .len (.t 35), (some (34, true)), []⟩,
 ⟨(some 37), .bin .lss (.t 36) (.c (.val (.int .i64 7))), (some (34, true)), []⟩,
 ⟨(some 38), .pick (.t 34) (.t 37) (.c (.val (.bool false))), none, []⟩])
 (.cond (.t 38) .skip
 (.exit 2)))
 (.seq (.block 3 (.seq (.reg [⟨(some 41), .mv (.t 0), none, []⟩,
 ⟨(some 42), .mv (.t 7), none, []⟩,
 ⟨(some 43), .ixs (.t 41) (.t 42), none, []⟩,
 ⟨(some 44), .bin .eql (.t 43) (.c (.val (.int .u8 32))), none, []⟩])
 (.cond (.t 44) (.reg [⟨(some 45), .mv (.t 6), none, []⟩,
 ⟨(some 46), .bsl 3 1 [(.c (.val (.int .i64 0)))], none, []⟩,
 ⟨(some 47), .app 3 1 8 (.t 45) (.t 46), none, []⟩,
 ⟨(some 6), .mv (.t 47), none, []⟩])
 (.seq (.reg [⟨(some 48), .mv (.t 0), none, []⟩,
 ⟨(some 49), .mv (.t 7), none, []⟩,
 ⟨(some 50), .ixs (.t 48) (.t 49), none, []⟩,
 ⟨(some 51), .bin .geq (.t 50) (.c (.val (.int .u8 48))), none, []⟩,
 ⟨(some 52), .mv (.t 51), none, []⟩,
 ⟨(some 53), .mv (.t 0), (some (52, true)), []⟩,
 ⟨(some 54), .mv (.t 7), (some (52, true)), []⟩,
 ⟨(some 55), .ixs (.t 53) (.t 54), (some (52, true)), []⟩,
 ⟨(some 56), .bin .leq (.t 55) (.c (.val (.int .u8 57))), (some (52, true)), []⟩,
 ⟨(some 57), .pick (.t 52) (.t 56) (.c (.val (.bool false))), none, []⟩,
 ⟨(some 58), .mv (.t 57), none, []⟩,
 ⟨(some 59), .mv (.t 6), (some (58, true)), []⟩,
 ⟨(some 60), .len (.t 59), (some (58, true)), []⟩,
 ⟨(some 61), .bin .gtr (.t 60) (.c (.val (.int .i64 0))), (some (58, true)), []⟩,
 ⟨(some 62), .pick (.t 58) (.t 61) (.c (.val (.bool false))), none, []⟩,
 ⟨(some 63), .mv (.t 62), none, []⟩,
 ⟨(some 64), .mv (.t 6), (some (63, true)), []⟩,
 ⟨(some 65), .mv (.t 6), (some (63, true)), []⟩,
 ⟨(some 66), .len (.t 65), (some (63, true)), []⟩,
 ⟨(some 67), .bin .sub (.t 66) (.c (.val (.int .i64 1))), (some (63, true)), []⟩,
 ⟨(some 68), .ixa 1 (.t 64) (.t 67), (some (63, true)), []⟩,
 ⟨(some 69), .ld1 (.t 68), (some (63, true)), []⟩,
 ⟨(some 70), .bin .lss (.t 69) (.c (.val (.int .i64 1000000))), (some (63, true)), []⟩,
 ⟨(some 71), .pick (.t 63) (.t 70) (.c (.val (.bool false))), none, []⟩])
 (.cond (.t 71) (.regD [⟨(some 72), .mv (.t 6), none, []⟩,
 ⟨(some 73), .mv (.t 6), none, []⟩,
 ⟨(some 74), .len (.t 73), none, [1]⟩,
 ⟨(some 75), .bin .sub (.t 74) (.c (.val (.int .i64 1))), none, [2, 1]⟩,
 ⟨(some 76), .mv (.t 6), none, []⟩,
 ⟨(some 77), .mv (.t 6), none, []⟩,
 ⟨(some 78), .len (.t 77), none, [5]⟩,
 ⟨(some 79), .bin .sub (.t 78) (.c (.val (.int .i64 1))), none, [6, 5]⟩,
 ⟨(some 80), .ixa 1 (.t 76) (.t 79), none, [4, 7, 6, 5]⟩,
 ⟨(some 81), .ld1 (.t 80), none, [8, 4, 7, 6, 5]⟩,
 ⟨(some 82), .bin .mul (.t 81) (.c (.val (.int .i64 10))), none, [9, 8, 4, 7, 6, 5]⟩,
 ⟨(some 83), .mv (.t 0), none, []⟩,
 ⟨(some 84), .mv (.t 7), none, []⟩,
 ⟨(some 85), .ixs (.t 83) (.t 84), none, [11, 12]⟩,
 ⟨(some 86), .cvt .i64 (.t 85), none, [13, 11, 12]⟩,
 ⟨(some 87), .bin .add (.t 82) (.t 86), none, [10, 9, 8, 4, 7, 6, 5, 14, 13, 11, 12]⟩,
 ⟨(some 88), .bin .sub (.t 87) (.c (.val (.int .i64 48))), none, [15, 10, 9, 8, 4, 7, 6, 5, 14, 13, 11, 12]⟩,
 ⟨(some 89), .ixa 1 (.t 72) (.t 75), none, [0, 3, 2, 1, 4, 5, 6, 7, 8, 9, 10, 11, 12, 13, 14, 15, 16]⟩,
 ⟨none, .st 1 (.t 89) (.t 88), none, [17, 0, 3, 2, 1, 4, 5, 6, 7, 8, 9, 10, 11, 12, 13, 14, 15, 16]⟩])
 .skip)))))
 (.reg [⟨(some 39), .mv (.t 7), none, []⟩,
 ⟨(some 40), .bin .add (.t 39) (.c (.val (.int .i64 1))), none, []⟩,
 ⟨(some 7), .mv (.t 40), none, []⟩]))))))
 (.seq (.reg [⟨(some 90), .mv (.t 4), none, []⟩,
 ⟨(some 91), .mv (.t 6), none, []⟩,
 ⟨(some 92), .call (.f 42) [(.t 90), (.t 91)], none, []⟩,
 ⟨(some 8), .new 23 [(.val (.int .i64 0)), (.val (.int .i64 0)), (.val (.int .i64 0)), (.val (.int .i64 0)), (.val (.int .i64 0)), (.val (.int .i64 0)), (.val (.int .i64 0))], none, []⟩,
 ⟨none, .st 7 (.t 8) (.t 92), none, []⟩])
 (.seq (.reg [⟨(some 93), .ldn 7 (.t 8), none, []⟩,
 ⟨(some 94), .call (.f 34) [(.t 93)], none, []⟩,
 ⟨(some 95), .mv (.t 0), none, []⟩,
 ⟨(some 96), .bin .eql (.t 94) (.t 95), none, []⟩])
 (.cond (.t 96) (.seq (.reg [⟨(some 97), .ldn 7 (.t 8), none, []⟩,
 ⟨none, .st 7 (.t 2) (.t 97), none, []⟩,
 ⟨(some 3), .mv (.c (.val (.bool true))), none, []⟩])
 .ret)
 .skip))))))))
 (.reg [⟨(some 11), .mv (.t 4), none, []⟩,
 ⟨(some 12), .bin .add (.t 11) (.c (.val (.int .i64 1))), none, []⟩,
 ⟨(some 4), .mv (.t 12), none, []⟩]))))))
 (.seq (.reg [⟨(some 98), .build [(.val (.int .i64 0)), (.val (.int .i64 0)), (.val (.int .i64 0)), (.val (.int .i64 0)), (.val (.int .i64 0)), (.val (.int .i64 0)), (.val (.int .i64 0))] [], none, []⟩,
 ⟨none, .st 7 (.t 2) (.t 98), none, []⟩,
 ⟨(some 3), .mv (.c (.val (.bool false))), none, []⟩])
 .ret))),
[(.cn 2 7), (.t 3)])
theorem irOk27 : convFn Tryd.prog Tryd.f27 = some ir27 := by kernel_rfl


def scan8 : List UInt8 → List Int → List Int
  | [], l => l
  | c :: r, l => if l.length < 7 then
      (if c.toNat = 32 then scan8 r (l ++ [0])
      else if 48 ≤ c.toNat ∧ c.toNat ≤ 57 ∧ 0 < l.length ∧ l.getD (l.length - 1) 0 < 1000000 then scan8 r (l.set (l.length - 1) (l.getD (l.length - 1) 0 * 10 + (c.toNat : Int) - 48))
      else scan8 r l) else l
theorem scan8_len : ∀ (r : List UInt8) (l : List Int), l.length ≤ 7 → (scan8 r l).length ≤ 7
  | [], l, h => h
  | c :: r, l, h => by
    unfold scan8
    split
    · split
      · exact scan8_len r _ (by simp; omega)
      · split
        · exact scan8_len r _ (by simpa using h)
        · exact scan8_len r _ h
    · exact h
def try8 (s : ByteArray) (k : Nat) : Option OpD :=
  if s.size < (nameOf k).size ∨ s.extract 0 (nameOf k).size ≠ nameOf k then none
  else if textO (ofI k (scan8 (s.data.toList.drop (nameOf k).size) [])) = s then some (ofI k (scan8 (s.data.toList.drop (nameOf k).size) [])) else none
def parse8F (s : ByteArray) : Nat → Nat → Option OpD
  | 0, _ => none
  | f + 1, k => match try8 s k with
    | some o => some o
    | none => parse8F s f (k + 1)
def parse8 (s : ByteArray) : Option OpD := parse8F s 21 1
def par8S (s : ByteArray) (k : Nat) : St := ⟨[(0, .d (.val (.string s))), (2, .ptr 0 0), (3, .bool false), (4, .int k)], [some (.box 23 [.int 0, .int 0, .int 0, .int 0, .int 0, .int 0, .int 0])]⟩
def par9S (s : ByteArray) (k : Nat) (p : Nat × List Int) : St := ⟨[(0, .d (.val (.string s))), (2, .ptr 0 0), (3, .bool false), (4, .int k), (5, .d (.val (.string (nameOf k)))), (6, .sl 1 p.2.length 1 0 p.2.length), (7, .int p.1)], [some (.box 23 [.int 0, .int 0, .int 0, .int 0, .int 0, .int 0, .int 0]), some (.dat 3 1 (numR p.2))]⟩
set_option maxHeartbeats 4000000 in
theorem parse8_tri (s : ByteArray) (hs : s.size ≤ 1000000) : Tri Tryd.prog G 27 [.d (.val (.string s))] [] (optOp (parse8 s)) [] := by
  generalize hq : parse8 s = q
  unfold parse8 at hq
  have hbl := bs_len s
  refine tri_W Tryd.func27 (by decide) irOk27 (Nat.le_of_ble_eq_true rfl) ?_
  simp only [ir27, go_sem, ↓reduceIte, zA, zB, zC, zD, zE, zF, reduceCtorEq, zG, zH, zI, zJ, zK, zL, zM, zN, zO, zP]
  refine W_loopI [0, 2, 3, 4] [] (fun k : Nat => 1 ≤ k ∧ k ≤ 22 ∧ parse8F s (22 - k) k = q) (fun k => 22 - k) (par8S s) 1 ?_ ⟨by decide, by decide, hq⟩ ?_
  · simp only [par8S, go_sem, ↓reduceIte, zA, zB, zC, zD, zE, zF, reduceCtorEq, zG, zH, zI, zJ, zK, zL, zM, zN, zO, zP]
    rfl
  rintro k ⟨hk1, hk, hF⟩
  simp only [par8S, go_sem, ↓reduceIte, zA, zB, zC, zD, zE, zF, reduceCtorEq, zG, zH, zI, zJ, zK, zL, zM, zN, zO, zP]
  by_cases hlt : k < 22
  case neg =>
    rw [show 22 - k = 0 by omega, parse8F] at hF
    subst hF
    simp only [decide_eq_false (show ¬ ((k : Nat) : Int) ≤ 21 by omega), go_sem, ↓reduceIte, zA, zB, zC, zD, zE, zF, reduceCtorEq, zG, zH, zI, zJ, zK, zL, zM, zN, zO, zP]
    exact BackS (objs' := []) ⟨rfl, rfl⟩ rfl rfl rfl
  rw [show 22 - k = (22 - (k + 1)) + 1 by omega, parse8F] at hF
  have hns := name_size k
  simp only [decide_eq_true (show ((k : Nat) : Int) ≤ 21 by omega), go_sem, ↓reduceIte, zA, zB, zC, zD, zE, zF, reduceCtorEq, zG, zH, zI, zJ, zK, zL, zM, zN, zO, zP]
  refine W_calld (name8_tri k) rfl rfl rfl rfl ?_
  simp only [go_sem, ↓reduceIte, zA, zB, zC, zD, zE, zF, reduceCtorEq, zG, zH, zI, zJ, zK, zL, zM, zN, zO, zP]
  by_cases hpl : s.size < (nameOf k).size
  case pos =>
    have ht : try8 s k = none := by unfold try8; rw [if_pos (.inl hpl)]
    rw [ht] at hF
    simp only [decide_eq_true (show ((s.size : Nat) : Int) < (((nameOf k).size : Nat) : Int) by omega), go_sem, ↓reduceIte, zA, zB, zC, zD, zE, zF, reduceCtorEq, zG, zH, zI, zJ, zK, zL, zM, zN, zO, zP]
    refine W_lpI (k + 1) ?_ ?_ ⟨by omega, by omega, hF⟩ (by omega)
    · simp only [go_sem, ↓reduceIte, zA, zB, zC, zD, zE, zF, reduceCtorEq, zG, zH, zI, zJ, zK, zL, zM, zN, zO, zP]
    · simp only [par8S, wrap_succ (show k < 9223372036854775807 by omega), go_sem, ↓reduceIte, zA, zB, zC, zD, zE, zF, reduceCtorEq, zG, zH, zI, zJ, zK, zL, zM, zN, zO, zP]
  have hb0 : 0 ≤ (nameOf k).size ∧ (nameOf k).size ≤ s.size := ⟨Nat.zero_le _, by omega⟩
  simp only [decide_eq_false (show ¬ ((s.size : Nat) : Int) < (((nameOf k).size : Nat) : Int) by omega), hb0, and_self, if_true, str_eq, go_sem, ↓reduceIte, zA, zB, zC, zD, zE, zF, reduceCtorEq, zG, zH, zI, zJ, zK, zL, zM, zN, zO, zP]
  by_cases hpn : s.extract 0 (nameOf k).size = nameOf k
  case neg =>
    have ht : try8 s k = none := by unfold try8; rw [if_pos (.inr hpn)]
    rw [ht] at hF
    simp only [decide_eq_false hpn, go_sem, ↓reduceIte, zA, zB, zC, zD, zE, zF, reduceCtorEq, zG, zH, zI, zJ, zK, zL, zM, zN, zO, zP]
    refine W_lpI (k + 1) ?_ ?_ ⟨by omega, by omega, hF⟩ (by omega)
    · simp only [go_sem, ↓reduceIte, zA, zB, zC, zD, zE, zF, reduceCtorEq, zG, zH, zI, zJ, zK, zL, zM, zN, zO, zP]
    · simp only [par8S, wrap_succ (show k < 9223372036854775807 by omega), go_sem, ↓reduceIte, zA, zB, zC, zD, zE, zF, reduceCtorEq, zG, zH, zI, zJ, zK, zL, zM, zN, zO, zP]
  have ht : try8 s k = if textO (ofI k (scan8 (s.data.toList.drop (nameOf k).size) [])) = s then some (ofI k (scan8 (s.data.toList.drop (nameOf k).size) [])) else none := by unfold try8; rw [if_neg (by rintro (h | h); exact hpl h; exact h hpn)]
  have hL7 := scan8_len (s.data.toList.drop (nameOf k).size) [] (by simp)
  simp only [decide_eq_true hpn, go_sem, ↓reduceIte, zA, zB, zC, zD, zE, zF, reduceCtorEq, zG, zH, zI, zJ, zK, zL, zM, zN, zO, zP]
  generalize hL : scan8 (s.data.toList.drop (nameOf k).size) [] = L at *
  refine W_loopI [0, 2, 3, 4, 5, 6, 7] [.t 6 3 1] (fun p : Nat × List Int => p.1 ≤ s.size ∧ p.2.length ≤ 7 ∧ (∀ x ∈ p.2, 0 ≤ x ∧ x ≤ 10000000) ∧ scan8 (s.data.toList.drop p.1) p.2 = L) (fun p => s.size - p.1) (par9S s k) ((nameOf k).size, []) ?_ ⟨by dsimp only; omega, by simp, by simp, hL⟩ ?_
  · simp only [par9S, numR, List.map_nil, List.length_nil, go_sem, ↓reduceIte, zA, zB, zC, zD, zE, zF, reduceCtorEq, zG, zH, zI, zJ, zK, zL, zM, zN, zO, zP]
  rintro ⟨i, l⟩ ⟨hi, hl7, hrng, hE⟩
  dsimp only at hi hl7 hrng hE
  simp only [par9S, go_sem, ↓reduceIte, zA, zB, zC, zD, zE, zF, reduceCtorEq, zG, zH, zI, zJ, zK, zL, zM, zN, zO, zP]
  by_cases hgo : i < s.size ∧ l.length < 7
  case neg =>
    have hLl : l = L := by
      rw [← hE]
      by_cases h : i < s.size
      · have hdi : s.data.toList.drop i = s.data.toList[i]'(by omega) :: s.data.toList.drop (i + 1) := List.drop_eq_getElem_cons (by omega)
        rw [hdi, scan8, if_neg (fun h2 => hgo ⟨h, h2⟩)]
      · rw [List.drop_eq_nil_of_le (by omega), scan8]
    subst hLl
    cases hd : decide (((i : Nat) : Int) < ((s.size : Nat) : Int)) with
    | true =>
      have := of_decide_eq_true hd
      simp only [decide_eq_false (show ¬ ((l.length : Nat) : Int) < 7 by omega), go_sem, ↓reduceIte, zA, zB, zC, zD, zE, zF, reduceCtorEq, zG, zH, zI, zJ, zK, zL, zM, zN, zO, zP]
      refine W_callz [1] (of8_tri k l (by omega)) rfl (by simp [argRs, argR, rowsAt, objL, numR, List.length_map, List.take_of_length_le, and_self, go_sem, ↓reduceIte, zA, zB, zC, zD, zE, zF, reduceCtorEq, zG, zH, zI, zJ, zK, zL, zM, zN, zO, zP]) (by simp [objL]) rfl rfl ?_; simp only [go_sem, ↓reduceIte, zA, zB, zC, zD, zE, zF, reduceCtorEq, zG, zH, zI, zJ, zK, zL, zM, zN, zO, zP]
      generalize ofI k l = o at *
      refine W_calld (text8_tri o) rfl rfl rfl rfl ?_
      simp only [str_eq, go_sem, ↓reduceIte, zA, zB, zC, zD, zE, zF, reduceCtorEq, zG, zH, zI, zJ, zK, zL, zM, zN, zO, zP]
      by_cases hx : textO o = s
      case pos =>
        rw [ht, if_pos hx] at hF
        have : q = some o := hF.symm
        subst this
        simp only [decide_eq_true hx, go_sem, ↓reduceIte, zA, zB, zC, zD, zE, zF, reduceCtorEq, zG, zH, zI, zJ, zK, zL, zM, zN, zO, zP]
        exact BackS (objs' := []) ⟨rfl, rfl⟩ rfl rfl rfl
      rw [ht, if_neg hx] at hF
      simp only [decide_eq_false hx, go_sem, ↓reduceIte, zA, zB, zC, zD, zE, zF, reduceCtorEq, zG, zH, zI, zJ, zK, zL, zM, zN, zO, zP]
      refine W_lpI (k + 1) ?_ ?_ ⟨by omega, by omega, hF⟩ (by omega)
      · simp only [go_sem, ↓reduceIte, zA, zB, zC, zD, zE, zF, reduceCtorEq, zG, zH, zI, zJ, zK, zL, zM, zN, zO, zP]
      · simp only [par8S, wrap_succ (show k < 9223372036854775807 by omega), go_sem, ↓reduceIte, zA, zB, zC, zD, zE, zF, reduceCtorEq, zG, zH, zI, zJ, zK, zL, zM, zN, zO, zP]
    | false =>
      simp only [go_sem, ↓reduceIte, zA, zB, zC, zD, zE, zF, reduceCtorEq, zG, zH, zI, zJ, zK, zL, zM, zN, zO, zP]
      refine W_callz [1] (of8_tri k l (by omega)) rfl (by simp [argRs, argR, rowsAt, objL, numR, List.length_map, List.take_of_length_le, and_self, go_sem, ↓reduceIte, zA, zB, zC, zD, zE, zF, reduceCtorEq, zG, zH, zI, zJ, zK, zL, zM, zN, zO, zP]) (by simp [objL]) rfl rfl ?_; simp only [go_sem, ↓reduceIte, zA, zB, zC, zD, zE, zF, reduceCtorEq, zG, zH, zI, zJ, zK, zL, zM, zN, zO, zP]
      generalize ofI k l = o at *
      refine W_calld (text8_tri o) rfl rfl rfl rfl ?_
      simp only [str_eq, go_sem, ↓reduceIte, zA, zB, zC, zD, zE, zF, reduceCtorEq, zG, zH, zI, zJ, zK, zL, zM, zN, zO, zP]
      by_cases hx : textO o = s
      case pos =>
        rw [ht, if_pos hx] at hF
        have : q = some o := hF.symm
        subst this
        simp only [decide_eq_true hx, go_sem, ↓reduceIte, zA, zB, zC, zD, zE, zF, reduceCtorEq, zG, zH, zI, zJ, zK, zL, zM, zN, zO, zP]
        exact BackS (objs' := []) ⟨rfl, rfl⟩ rfl rfl rfl
      rw [ht, if_neg hx] at hF
      simp only [decide_eq_false hx, go_sem, ↓reduceIte, zA, zB, zC, zD, zE, zF, reduceCtorEq, zG, zH, zI, zJ, zK, zL, zM, zN, zO, zP]
      refine W_lpI (k + 1) ?_ ?_ ⟨by omega, by omega, hF⟩ (by omega)
      · simp only [go_sem, ↓reduceIte, zA, zB, zC, zD, zE, zF, reduceCtorEq, zG, zH, zI, zJ, zK, zL, zM, zN, zO, zP]
      · simp only [par8S, wrap_succ (show k < 9223372036854775807 by omega), go_sem, ↓reduceIte, zA, zB, zC, zD, zE, zF, reduceCtorEq, zG, zH, zI, zJ, zK, zL, zM, zN, zO, zP]
  obtain ⟨hi2, hl2⟩ := hgo
  have hdi : s.data.toList.drop i = s.data.toList[i]'(by omega) :: s.data.toList.drop (i + 1) := List.drop_eq_getElem_cons (by omega)
  have hgi := List.getElem?_eq_getElem (show i < s.data.toList.length by omega)
  rw [hdi, scan8, if_pos hl2] at hE
  generalize s.data.toList[i]'(by omega) = c at *
  have hc := c.toNat_lt
  simp only [decide_eq_true (show ((i : Nat) : Int) < ((s.size : Nat) : Int) by omega), decide_eq_true (show ((l.length : Nat) : Int) < 7 by omega), hgi, go_sem, ↓reduceIte, zA, zB, zC, zD, zE, zF, reduceCtorEq, zG, zH, zI, zJ, zK, zL, zM, zN, zO, zP]
  by_cases h32 : c.toNat = 32
  case pos =>
    rw [if_pos h32] at hE
    simp only [show (((c.toNat : Nat) : Int) == 32) = true from beq_iff_eq.2 (by omega), go_sem, ↓reduceIte, zA, zB, zC, zD, zE, zF, reduceCtorEq, zG, zH, zI, zJ, zK, zL, zM, zN, zO, zP]
    have hnl : (numR l).length = l.length := by simp [numR]
    have h7 : l.length = (numR l).length ∧ (numR l ++ [[DV.val (Value.int IntKind.i64 0)]]).length * 8 ≤ 70368744177664 := ⟨hnl.symm, by rw [List.length_append, hnl]; simp; omega⟩
    rw [if_pos h7]
    simp only [hnl, go_sem, ↓reduceIte, zA, zB, zC, zD, zE, zF, reduceCtorEq, zG, zH, zI, zJ, zK, zL, zM, zN, zO, zP]
    refine W_lpI (i + 1, l ++ [0]) ?_ ?_ ⟨by dsimp only; omega, by simp; omega, ?_, hE⟩ (by dsimp only; omega)
    · simp only [go_sem, ↓reduceIte, zA, zB, zC, zD, zE, zF, reduceCtorEq, zG, zH, zI, zJ, zK, zL, zM, zN, zO, zP]
    · simp only [par9S, numR, List.map_append, List.map_cons, List.map_nil, List.length_append, List.length_cons, List.length_nil, wrap_succ (show i < 9223372036854775807 by omega), go_sem, ↓reduceIte, zA, zB, zC, zD, zE, zF, reduceCtorEq, zG, zH, zI, zJ, zK, zL, zM, zN, zO, zP]
    · intro x hx
      rcases List.mem_append.1 hx with hx | hx
      · exact hrng x hx
      · rw [List.mem_singleton.1 hx]; decide
  rw [if_neg h32] at hE
  simp only [show (((c.toNat : Nat) : Int) == 32) = false from beq_eq_false_iff_ne.2 (by omega), go_sem, ↓reduceIte, zA, zB, zC, zD, zE, zF, reduceCtorEq, zG, zH, zI, zJ, zK, zL, zM, zN, zO, zP]
  simp only [hgi, go_sem, ↓reduceIte, zA, zB, zC, zD, zE, zF, reduceCtorEq, zG, zH, zI, zJ, zK, zL, zM, zN, zO, zP]
  by_cases h48 : 48 ≤ c.toNat
  case neg =>
    rw [if_neg (fun h => h48 h.1)] at hE
    simp only [decide_eq_false (show ¬ ((c.toNat : Nat) : Int) ≥ 48 by omega), go_sem, ↓reduceIte, zA, zB, zC, zD, zE, zF, reduceCtorEq, zG, zH, zI, zJ, zK, zL, zM, zN, zO, zP]
    refine W_lpI (i + 1, l) ?_ ?_ ⟨by dsimp only; omega, hl7, hrng, hE⟩ (by dsimp only; omega)
    · simp only [go_sem, ↓reduceIte, zA, zB, zC, zD, zE, zF, reduceCtorEq, zG, zH, zI, zJ, zK, zL, zM, zN, zO, zP]
    · simp only [par9S, wrap_succ (show i < 9223372036854775807 by omega), go_sem, ↓reduceIte, zA, zB, zC, zD, zE, zF, reduceCtorEq, zG, zH, zI, zJ, zK, zL, zM, zN, zO, zP]
  simp only [decide_eq_true (show ((c.toNat : Nat) : Int) ≥ 48 by omega), hgi, go_sem, ↓reduceIte, zA, zB, zC, zD, zE, zF, reduceCtorEq, zG, zH, zI, zJ, zK, zL, zM, zN, zO, zP]
  by_cases h57 : c.toNat ≤ 57
  case neg =>
    rw [if_neg (fun h => h57 h.2.1)] at hE
    simp only [decide_eq_false (show ¬ ((c.toNat : Nat) : Int) ≤ 57 by omega), go_sem, ↓reduceIte, zA, zB, zC, zD, zE, zF, reduceCtorEq, zG, zH, zI, zJ, zK, zL, zM, zN, zO, zP]
    refine W_lpI (i + 1, l) ?_ ?_ ⟨by dsimp only; omega, hl7, hrng, hE⟩ (by dsimp only; omega)
    · simp only [go_sem, ↓reduceIte, zA, zB, zC, zD, zE, zF, reduceCtorEq, zG, zH, zI, zJ, zK, zL, zM, zN, zO, zP]
    · simp only [par9S, wrap_succ (show i < 9223372036854775807 by omega), go_sem, ↓reduceIte, zA, zB, zC, zD, zE, zF, reduceCtorEq, zG, zH, zI, zJ, zK, zL, zM, zN, zO, zP]
  simp only [decide_eq_true (show ((c.toNat : Nat) : Int) ≤ 57 by omega), go_sem, ↓reduceIte, zA, zB, zC, zD, zE, zF, reduceCtorEq, zG, zH, zI, zJ, zK, zL, zM, zN, zO, zP]
  by_cases h0l : 0 < l.length
  case neg =>
    rw [if_neg (fun h => h0l h.2.2.1)] at hE
    simp only [decide_eq_false (show ¬ ((l.length : Nat) : Int) > 0 by omega), go_sem, ↓reduceIte, zA, zB, zC, zD, zE, zF, reduceCtorEq, zG, zH, zI, zJ, zK, zL, zM, zN, zO, zP]
    refine W_lpI (i + 1, l) ?_ ?_ ⟨by dsimp only; omega, hl7, hrng, hE⟩ (by dsimp only; omega)
    · simp only [go_sem, ↓reduceIte, zA, zB, zC, zD, zE, zF, reduceCtorEq, zG, zH, zI, zJ, zK, zL, zM, zN, zO, zP]
    · simp only [par9S, wrap_succ (show i < 9223372036854775807 by omega), go_sem, ↓reduceIte, zA, zB, zC, zD, zE, zF, reduceCtorEq, zG, zH, zI, zJ, zK, zL, zM, zN, zO, zP]
  have w1 : IntKind.i64.wrap (((l.length : Nat) : Int) - 1) = ((l.length - 1 : Nat) : Int) := by rw [wrap_in (by omega) (by omega)]; omega
  have hgl := get_mapD (f := fun n : Int => [i64 n]) 0 (show l.length - 1 < l.length by omega)
  have hxr := hrng (l.getD (l.length - 1) 0) (by simp [List.getD, show l.length - 1 < l.length by omega])
  have hnl : (numR l).length = l.length := by simp [numR]
  have hsub : l.length - 1 < l.length := by omega
  generalize hX : l.getD (l.length - 1) 0 = x at *
  have hgb : (numR l)[l.length - 1]? = some [DV.val (.int .i64 x)] := hgl
  simp only [decide_eq_true (show ((l.length : Nat) : Int) > 0 by omega), w1, hsub, hnl, hgb, go_sem, ↓reduceIte, zA, zB, zC, zD, zE, zF, reduceCtorEq, zG, zH, zI, zJ, zK, zL, zM, zN, zO, zP]
  by_cases hm : x < 1000000
  case neg =>
    rw [if_neg (fun h => hm h.2.2.2)] at hE
    simp only [decide_eq_false hm, go_sem, ↓reduceIte, zA, zB, zC, zD, zE, zF, reduceCtorEq, zG, zH, zI, zJ, zK, zL, zM, zN, zO, zP]
    refine W_lpI (i + 1, l) ?_ ?_ ⟨by dsimp only; omega, hl7, hrng, hE⟩ (by dsimp only; omega)
    · simp only [go_sem, ↓reduceIte, zA, zB, zC, zD, zE, zF, reduceCtorEq, zG, zH, zI, zJ, zK, zL, zM, zN, zO, zP]
    · simp only [par9S, wrap_succ (show i < 9223372036854775807 by omega), go_sem, ↓reduceIte, zA, zB, zC, zD, zE, zF, reduceCtorEq, zG, zH, zI, zJ, zK, zL, zM, zN, zO, zP]
  rw [if_pos ⟨h48, h57, h0l, hm⟩] at hE
  have w2 : IntKind.i64.wrap (x * 10) = x * 10 := wrap_in (by omega) (by omega)
  have w3 : IntKind.i64.wrap ((c.toNat : Nat) : Int) = ((c.toNat : Nat) : Int) := wrap_in (by omega) (by omega)
  have w4 : IntKind.i64.wrap (x * 10 + ((c.toNat : Nat) : Int)) = x * 10 + ((c.toNat : Nat) : Int) := wrap_in (by omega) (by omega)
  have w5 : IntKind.i64.wrap (x * 10 + ((c.toNat : Nat) : Int) - 48) = x * 10 + ((c.toNat : Nat) : Int) - 48 := wrap_in (by omega) (by omega)
  have hset : (numR l).set (l.length - 1) [DV.val (.int .i64 (x * 10 + ((c.toNat : Nat) : Int) - 48))] = numR (l.set (l.length - 1) (x * 10 + ((c.toNat : Nat) : Int) - 48)) := by simp [numR]
  simp only [decide_eq_true hm, w1, hsub, hnl, hgb, hgi, w2, w3, w4, w5, hset, go_sem, ↓reduceIte, zA, zB, zC, zD, zE, zF, reduceCtorEq, zG, zH, zI, zJ, zK, zL, zM, zN, zO, zP]
  refine W_opsD_end (by decide) ?_
  simp only [go_sem, ↓reduceIte, zA, zB, zC, zD, zE, zF, reduceCtorEq, zG, zH, zI, zJ, zK, zL, zM, zN, zO, zP]
  refine W_lpI (i + 1, l.set (l.length - 1) (x * 10 + ((c.toNat : Nat) : Int) - 48)) ?_ ?_ ⟨by dsimp only; omega, by simp; omega, ?_, hE⟩ (by dsimp only; omega)
  · simp only [go_sem, ↓reduceIte, zA, zB, zC, zD, zE, zF, reduceCtorEq, zG, zH, zI, zJ, zK, zL, zM, zN, zO, zP]
  · simp only [par9S, List.length_set, wrap_succ (show i < 9223372036854775807 by omega), go_sem, ↓reduceIte, zA, zB, zC, zD, zE, zF, reduceCtorEq, zG, zH, zI, zJ, zK, zL, zM, zN, zO, zP]
  · intro y hy
    rcases List.mem_or_eq_of_mem_set hy with hy | hy
    · exact hrng y hy
    · omega
end Dv
