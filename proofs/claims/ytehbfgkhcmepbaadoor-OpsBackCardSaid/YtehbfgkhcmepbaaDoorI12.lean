/- The document's numbers and lists out of bytes. -/
import Derived.Test.YtehbfgkhcmepbaaDoorI11
set_option linter.unusedVariables false
set_option linter.unusedSimpArgs false
namespace Dv
open Go Go.Proofs
open Nat renaming reduceEqDiff → zA, reduceAdd → zB, reduceSub → zC, reduceMul → zD, reduceLT → zE, reduceLeDiff → zF
open Int renaming reduceLE → zG, reduceLT → zH, reduceToNat → zI, reduceBEq → zJ, reduceBNe → zK, reduceEq → zL, reduceAdd → zM, reduceSub → zN, reduceMul → zO, reduceNeg → zP
attribute [local go_sem] argEnv W_nil W_seq W_skip W_ret W_exit W_scope W_block W_blk W_reg W_regD W_cond WC_t WC_f WC_any Wx_c Wx_ops Wx_lp Wx_blk W_ops_nil W_opsD_q W_guard W_guardD WG_tt WG_ff WG_tf WG_ft WG_u WGD_tt WGD_ff WGD_tf WGD_ft WGD_u WE_some WED_some W_more W_mv W_pick W_new W_box W_build W_bsl W_ld1 W_ldn W_st W_nck W_bin W_eqb W_not W_cvt W_fad W_fld1 W_fldn W_ixa W_ixr W_ix1 W_ixs W_len W_lens W_mkf W_ext W_app W_min W_isnp W_isns W_eqs W_neg W_ixn W_sli W_sls WD_more WD_mv WD_pick WD_new WD_box WD_build WD_bsl WD_ld1 WD_ldn WD_st WD_nck WD_bin WD_eqb WD_not WD_cvt WD_fad WD_fld1 WD_fldn WD_ixa WD_ixr WD_ix1 WD_ixs WD_len WD_lens WD_mkf WD_ext WD_app WD_min WD_isnp WD_isns WD_eqs WD_neg WD_ixn WD_sli WD_sls effF effM bytesOf Opd.ev getE putE binV LV.int LV.bool LV.undef Go.undef LV.cells LV.toD LV.toDs splice fillL rowsOf srcRows updL objL Eff.owned nwp St.get St.obj St.put Value.oneCell' Ends adopt Ad.ap isNil St.keep St.okKeep okObj idl idlL idlO RVs.of RV.of oneOr Ends0 EndsO_iff frzs rn rnL rnO piOf eqCells eqV boundV Option.map_some Option.map_none List.append_nil List.nil_append List.cons_append List.map_nil List.map_cons List.length_nil List.length_cons List.set_cons_zero List.set_cons_succ List.take_succ_cons List.take_zero List.take_nil List.drop_succ_cons List.drop_zero List.drop_nil List.getElem?_cons_zero List.getElem?_cons_succ List.getElem?_nil List.isEmpty_nil List.isEmpty_cons List.all_cons List.all_nil List.isEmpty_nil cond_true cond_false Bool.true_and Bool.false_and Bool.and_true Bool.and_false Bool.not_true Bool.not_false Bool.or_true Bool.true_or Bool.or_false Bool.false_or true_and and_true true_or or_true Option.some.injEq LV.d.injEq DV.val.injEq Value.bool.injEq Value.int.injEq decide_true decide_false and_self Nat.zero_add Nat.add_zero if_true if_false Int.toNat_zero beq_self_eq_true Nat.zero_lt_succ Int.toNat_natCast Int.natCast_nonneg List.length_map i64 bl List.zip_cons_cons List.zip_nil_left List.zip_nil_right nwp confV stateV nodeV jobV nodesV jobsV opV msgV nodeR jobR opR msgR zeroOp zeroMsg msgsV
variable {G : Nat → Option (List DV)}

/-- dunnageref01.GetNum -/
def ir37 : Nat × C × List RV := (64,
(.seq (.reg [⟨(some 4), .mv (.c (.val (.int .i64 0))), none, []⟩,
 ⟨(some 5), .mv (.c (.val (.int .i64 0))), none, []⟩,
 ⟨(some 6), .mv (.c (.val (.bool false))), none, []⟩])
 (.seq (.seq (.reg [⟨(some 11), .mv (.t 1), none, []⟩,
 ⟨(some 12), .bin .lss (.t 11) (.c (.val (.int .i64 0))), none, []⟩,
 ⟨(some 13), .mv (.t 12), none, []⟩,
 ⟨(some 14), .mv (.t 1), (some (13, false)), []⟩,
 ⟨(some 15), .mv (.t 0), (some (13, false)), []⟩,
 ⟨(some 16), .len (.t 15), (some (13, false)), []⟩,
 ⟨(some 17), .bin .geq (.t 14) (.t 16), (some (13, false)), []⟩,
 ⟨(some 18), .pick (.t 13) (.c (.val (.bool true))) (.t 17), none, []⟩])
 (.cond (.t 18) (.seq (.reg [⟨(some 4), .mv (.c (.val (.int .i64 0))), none, []⟩,
 ⟨(some 5), .mv (.c (.val (.int .i64 0))), none, []⟩,
 ⟨(some 6), .mv (.c (.val (.bool false))), none, []⟩])
 .ret)
 .skip))
 (.seq (.reg [⟨(some 7), .mv (.c (.val (.int .i64 0))), none, []⟩,
 ⟨(some 8), .mv (.c (.val (.int .i64 1))), none, []⟩])
 (.seq (.seq (.reg [⟨(some 9), .mv (.c (.val (.int .i64 0))), none, []⟩])
 (.block 0 (.loop (.seq (.seq (.reg [⟨(some 19), .mv (.t 9), none, []⟩,
 ⟨(some 20), .bin .lss (.t 19) (.c (.val (.int .i64 8))), none, []⟩,
 ⟨(some 21), .mv (.t 20), none, []⟩,
 ⟨(some 22), .mv (.t 9), (some (21, true)), []⟩,
 ⟨(some 23), .mv (.t 0), (some (21, true)), []⟩,
 ⟨(some 24), .len (.t 23), (some (21, true)), []⟩,
 ⟨(some 25), .mv (.t 1), (some (21, true)), []⟩,
 ⟨(some 26), .bin .sub (.t 24) (.t 25), (some (21, true)), []⟩,
 ⟨(some 27), .bin .lss (.t 22) (.t 26), (some (21, true)), []⟩,
 ⟨(some 28), .pick (.t 21) (.t 27) (.c (.val (.bool false))), none, []⟩])
 (.cond (.t 28) .skip
 (.exit 0)))
 (.seq (.block 1 (.seq (.reg [⟨(some 31), .mv (.t 7), none, []⟩,
 ⟨(some 32), .mv (.t 8), none, []⟩,
 ⟨(some 33), .mv (.t 0), none, []⟩,
 ⟨(some 34), .mv (.t 1), none, []⟩,
 ⟨(some 35), .mv (.t 9), none, []⟩,
 ⟨(some 36), .bin .add (.t 34) (.t 35), none, []⟩,
 ⟨(some 37), .ixa 1 (.t 33) (.t 36), none, []⟩,
 ⟨(some 38), .ld1 (.t 37), none, []⟩,
 ⟨(some 39), .bin .rem (.t 38) (.c (.val (.int .u8 128))), none, []⟩,
 ⟨(some 40), .cvt .i64 (.t 39), none, []⟩,
 ⟨(some 41), .bin .mul (.t 32) (.t 40), none, []⟩,
 ⟨(some 42), .bin .add (.t 31) (.t 41), none, []⟩,
 ⟨(some 7), .mv (.t 42), none, []⟩])
 (.seq (.reg [⟨(some 43), .mv (.t 8), none, []⟩,
 ⟨(some 44), .bin .mul (.t 43) (.c (.val (.int .i64 128))), none, []⟩,
 ⟨(some 8), .mv (.t 44), none, []⟩])
 (.seq (.seq (.reg [⟨(some 45), .mv (.t 0), none, []⟩,
 ⟨(some 46), .mv (.t 1), none, []⟩,
 ⟨(some 47), .mv (.t 9), none, []⟩,
 ⟨(some 48), .bin .add (.t 46) (.t 47), none, []⟩,
 ⟨(some 49), .ixa 1 (.t 45) (.t 48), none, []⟩,
 ⟨(some 50), .ld1 (.t 49), none, []⟩,
 ⟨(some 51), .bin .geq (.t 50) (.c (.val (.int .u8 128))), none, []⟩])
 (.cond (.t 51) (.exit 1)
 .skip))
 (.seq (.reg [⟨(some 52), .mv (.t 7), none, []⟩,
 ⟨(some 53), .call (.f 39) [(.t 52)], none, []⟩,
 ⟨(some 10), .mv (.t 53), none, []⟩])
 (.seq (.seq (.reg [⟨(some 54), .mv (.t 10), none, []⟩,
 ⟨(some 55), .len (.t 54), none, []⟩,
 ⟨(some 56), .mv (.t 9), none, []⟩,
 ⟨(some 57), .bin .add (.t 56) (.c (.val (.int .i64 1))), none, []⟩,
 ⟨(some 58), .bin .neq (.t 55) (.t 57), none, []⟩])
 (.cond (.t 58) (.seq (.reg [⟨(some 4), .mv (.c (.val (.int .i64 0))), none, []⟩,
 ⟨(some 5), .mv (.c (.val (.int .i64 0))), none, []⟩,
 ⟨(some 6), .mv (.c (.val (.bool false))), none, []⟩])
 .ret)
 .skip))
 (.seq (.reg [⟨(some 59), .mv (.t 7), none, []⟩,
 ⟨(some 60), .mv (.t 1), none, []⟩,
 ⟨(some 61), .mv (.t 9), none, []⟩,
 ⟨(some 62), .bin .add (.t 60) (.t 61), none, []⟩,
 ⟨(some 63), .bin .add (.t 62) (.c (.val (.int .i64 1))), none, []⟩,
 ⟨(some 4), .mv (.t 59), none, []⟩,
 ⟨(some 5), .mv (.t 63), none, []⟩,
 ⟨(some 6), .mv (.c (.val (.bool true))), none, []⟩])
 .ret)))))))
 (.reg [⟨(some 29), .mv (.t 9), none, []⟩,
 ⟨(some 30), .bin .add (.t 29) (.c (.val (.int .i64 1))), none, []⟩,
 ⟨(some 9), .mv (.t 30), none, []⟩]))))))
 (.seq (.reg [⟨(some 4), .mv (.c (.val (.int .i64 0))), none, []⟩,
 ⟨(some 5), .mv (.c (.val (.int .i64 0))), none, []⟩,
 ⟨(some 6), .mv (.c (.val (.bool false))), none, []⟩])
 .ret))))),
[(.t 4), (.t 5), (.t 6)])
theorem irOk37 : convFn Tryd.prog Tryd.f37 = some ir37 := by kernel_rfl
/-- dunnageref01.GetList -/
def ir24 : Nat × C × List RV := (52,
(.seq (.reg [⟨(some 6), .mv (.c (.val (.slice none 0 0))), none, []⟩,
 ⟨(some 7), .mv (.c (.val (.int .i64 0))), none, []⟩,
 ⟨(some 8), .mv (.c (.val (.bool false))), none, []⟩])
 (.seq (.reg [⟨(some 18), .mv (.t 0), none, []⟩,
 ⟨(some 19), .mv (.t 1), none, []⟩,
 ⟨(some 20), .call (.f 37) [(.t 18), (.t 19)], none, []⟩,
 ⟨(some 17), .mv (.t 20), none, []⟩,
 ⟨(some 21), .ext (.t 17) 0, none, []⟩,
 ⟨(some 22), .ext (.t 17) 1, none, []⟩,
 ⟨(some 23), .ext (.t 17) 2, none, []⟩,
 ⟨(some 9), .mv (.t 21), none, []⟩,
 ⟨(some 10), .mv (.t 22), none, []⟩,
 ⟨(some 11), .mv (.t 23), none, []⟩])
 (.seq (.reg [⟨(some 12), .mv (.c (.val (.slice none 0 0))), none, []⟩])
 (.seq (.seq (.reg [⟨(some 24), .mv (.t 11), none, []⟩,
 ⟨(some 25), .not (.t 24), none, []⟩,
 ⟨(some 26), .mv (.t 25), none, []⟩,
 ⟨(some 27), .mv (.t 9), (some (26, false)), []⟩,
 ⟨(some 28), .mv (.t 2), (some (26, false)), []⟩,
 ⟨(some 29), .bin .gtr (.t 27) (.t 28), (some (26, false)), []⟩,
 ⟨(some 30), .pick (.t 26) (.c (.val (.bool true))) (.t 29), none, []⟩])
 (.cond (.t 30) (.seq (.reg [⟨(some 6), .mv (.c (.val (.slice none 0 0))), none, []⟩,
 ⟨(some 7), .mv (.c (.val (.int .i64 0))), none, []⟩,
 ⟨(some 8), .mv (.c (.val (.bool false))), none, []⟩])
 .ret)
 .skip))
 (.seq (.seq (.reg [⟨(some 13), .mv (.c (.val (.int .i64 0))), none, []⟩])
 (.block 0 (.loop (.seq (.seq (.reg [⟨(some 31), .mv (.t 13), none, []⟩,
 ⟨(some 32), .mv (.t 9), none, []⟩,
 ⟨(some 33), .bin .lss (.t 31) (.t 32), none, []⟩])
 (.cond (.t 33) .skip
 (.exit 0)))
 (.seq (.block 1 (.seq (.reg [⟨(some 37), .mv (.t 0), none, []⟩,
 ⟨(some 38), .mv (.t 10), none, []⟩,
 ⟨(some 39), .call (.f 37) [(.t 37), (.t 38)], none, []⟩,
 ⟨(some 36), .mv (.t 39), none, []⟩,
 ⟨(some 40), .ext (.t 36) 0, none, []⟩,
 ⟨(some 41), .ext (.t 36) 1, none, []⟩,
 ⟨(some 42), .ext (.t 36) 2, none, []⟩,
 ⟨(some 14), .mv (.t 40), none, []⟩,
 ⟨(some 15), .mv (.t 41), none, []⟩,
 ⟨(some 16), .mv (.t 42), none, []⟩])
 (.seq (.seq (.reg [⟨(some 43), .mv (.t 16), none, []⟩,
 ⟨(some 44), .not (.t 43), none, []⟩])
 (.cond (.t 44) (.seq (.reg [⟨(some 6), .mv (.c (.val (.slice none 0 0))), none, []⟩,
 ⟨(some 7), .mv (.c (.val (.int .i64 0))), none, []⟩,
 ⟨(some 8), .mv (.c (.val (.bool false))), none, []⟩])
 .ret)
 .skip))
 (.seq (.reg [⟨(some 45), .mv (.t 12), none, []⟩,
 ⟨(some 46), .mv (.t 14), none, []⟩,
 ⟨(some 47), .bsl 3 1 [(.t 46)], none, []⟩,
 ⟨(some 48), .app 3 1 8 (.t 45) (.t 47), none, []⟩,
 ⟨(some 12), .mv (.t 48), none, []⟩])
 (.reg [⟨(some 49), .mv (.t 15), none, []⟩,
 ⟨(some 10), .mv (.t 49), none, []⟩])))))
 (.reg [⟨(some 34), .mv (.t 13), none, []⟩,
 ⟨(some 35), .bin .add (.t 34) (.c (.val (.int .i64 1))), none, []⟩,
 ⟨(some 13), .mv (.t 35), none, []⟩]))))))
 (.seq (.reg [⟨(some 50), .mv (.t 12), none, []⟩,
 ⟨(some 51), .mv (.t 10), none, []⟩,
 ⟨(some 6), .mv (.t 50), none, []⟩,
 ⟨(some 7), .mv (.t 51), none, []⟩,
 ⟨(some 8), .mv (.c (.val (.bool true))), none, []⟩])
 .ret)))))),
[(.t 6), (.t 7), (.t 8)])
theorem irOk24 : convFn Tryd.prog Tryd.f24 = some ir24 := by kernel_rfl

attribute [local go_sem] u8 bytesV numRes

theorem digs_up : ∀ (i f : Nat) (m : Int), m < 128 ^ (i + 1) → (digs f m).length ≤ i + 1
  | 0, f, m, h => by rw [digs_lt f (by simpa using h)]; simp
  | i + 1, 0, m, h => by simp [digs]
  | i + 1, f + 1, m, h => by
    unfold digs
    split
    · have h2 : m / 128 < 128 ^ (i + 1) := by
        rw [Int.pow_succ] at h
        exact Int.ediv_lt_of_lt_mul (by decide) h
      have := digs_up i f (m / 128) h2
      simp; omega
    · simp
theorem digs_dn : ∀ (i f : Nat) (m : Int), i ≤ f → 128 ^ i ≤ m → i + 1 ≤ (digs f m).length
  | 0, f, m, _, _ => by have := (digs_len f m).1; omega
  | i + 1, 0, m, h, _ => by omega
  | i + 1, f + 1, m, hi, h => by
    have hp : (1 : Int) ≤ 128 ^ i := Int.pow_pos (by decide)
    rw [Int.pow_succ] at h
    rw [digs, if_pos (by omega)]
    have h2 : 128 ^ i ≤ m / 128 := Int.le_ediv_of_mul_le (by decide) h
    have := digs_dn i f (m / 128) (by omega) h2
    simp; omega

def gn1S (b : List Int) (a0 : Nat) (p : Nat × Int) : St := ⟨[(0, bytesV b), (1, .int a0), (7, .int p.2), (8, .int (128 ^ p.1)), (9, .int p.1)], []⟩
set_option maxHeartbeats 1000000 in
theorem getNum1_tri (b : List Int) (hb : ∀ c ∈ b, 0 ≤ c ∧ c ≤ 255) (hl : b.length ≤ 1000000) (a0 : Nat) (ha : a0 ≤ 1000000) (q : Option (Int × Nat)) (hq : getN b a0 = q) : Tri Tryd.prog G 37 [bytesV b, .int a0] [] (numRes q) [] := by
  have hlb : (byteR b).length = b.length := by simp [byteR]
  have h1 : decide ((a0 : Int) < 0) = false := decide_eq_false (by omega)
  refine tri_W0 Tryd.func37 (by decide) irOk37 (Nat.le_of_ble_eq_true rfl) (by cases q <;> rfl) ?_
  simp only [ir37, h1, hlb, go_sem, ↓reduceIte, zA, zB, zC, zD, zE, zF, reduceCtorEq, zG, zH, zI, zJ, zK, zL, zM, zN, zO, zP]
  by_cases hlen : b.length ≤ a0
  case pos =>
    have h2 : decide ((a0 : Int) ≥ (b.length : Int)) = true := decide_eq_true (by omega)
    have : q = none := by rw [← hq]; unfold getN; rw [List.drop_eq_nil_of_le hlen]; rfl
    subst this
    simp only [h2, rdX, rdP, Option.isSome_none, Int.natCast_zero, go_sem, ↓reduceIte, zA, zB, zC, zD, zE, zF, reduceCtorEq, zG, zH, zI, zJ, zK, zL, zM, zN, zO, zP]
  have h2 : decide ((a0 : Int) ≥ (b.length : Int)) = false := decide_eq_false (by omega)
  simp only [h2, go_sem, ↓reduceIte, zA, zB, zC, zD, zE, zF, reduceCtorEq, zG, zH, zI, zJ, zK, zL, zM, zN, zO, zP]
  refine W_loopI [0, 1, 7, 8, 9] [] (fun p : Nat × Int => p.1 ≤ 8 ∧ a0 + p.1 ≤ b.length ∧ 0 ≤ p.2 ∧ p.2 < 128 ^ p.1 ∧ (scanN (b.drop (a0 + p.1)) p.1 p.2).map (fun r => (r.1, a0 + r.2)) = q) (fun p => 8 - p.1) (gn1S b a0) (0, 0) ?_ ⟨Nat.zero_le _, by dsimp only; omega, Int.le_refl _, by decide, hq⟩ ?_
  · simp only [gn1S, Int.natCast_zero, Int.pow_zero, go_sem, ↓reduceIte, zA, zB, zC, zD, zE, zF, reduceCtorEq, zG, zH, zI, zJ, zK, zL, zM, zN, zO, zP]
  rintro ⟨i, n⟩ ⟨hi, hai, hn0, hn, hF⟩
  dsimp only at hi hai hn0 hn hF
  have hp8 : (0 : Int) < 128 ^ i := Int.pow_pos (by decide)
  have hsub : IntKind.i64.wrap ((b.length : Int) - (a0 : Int)) = ((b.length - a0 : Nat) : Int) := by rw [wrap_in (by omega) (by omega)]; omega
  simp only [gn1S, go_sem, ↓reduceIte, zA, zB, zC, zD, zE, zF, reduceCtorEq, zG, zH, zI, zJ, zK, zL, zM, zN, zO, zP]
  by_cases hi8 : i < 8
  case neg =>
    have e8 : i = 8 := by omega
    have : q = none := by
      rw [← hF, e8]
      cases b.drop (a0 + 8) with
      | nil => rfl
      | cons c r => simp [scanN]
    subst this
    simp only [decide_eq_false (show ¬ ((i : Nat) : Int) < 8 by omega), rdX, rdP, Option.isSome_none, Int.natCast_zero, go_sem, ↓reduceIte, zA, zB, zC, zD, zE, zF, reduceCtorEq, zG, zH, zI, zJ, zK, zL, zM, zN, zO, zP]
  simp only [decide_eq_true (show ((i : Nat) : Int) < 8 by omega), hlb, hsub, go_sem, ↓reduceIte, zA, zB, zC, zD, zE, zF, reduceCtorEq, zG, zH, zI, zJ, zK, zL, zM, zN, zO, zP]
  by_cases hlt : a0 + i < b.length
  case neg =>
    have : q = none := by
      rw [← hF, List.drop_eq_nil_of_le (by omega)]; rfl
    subst this
    simp only [decide_eq_false (show ¬ ((i : Nat) : Int) < ((b.length - a0 : Nat) : Int) by omega), rdX, rdP, Option.isSome_none, Int.natCast_zero, go_sem, ↓reduceIte, zA, zB, zC, zD, zE, zF, reduceCtorEq, zG, zH, zI, zJ, zK, zL, zM, zN, zO, zP]
  have hg := get_mapD (f := fun n : Int => [u8 n]) 0 hlt
  have hc := hb (b.getD (a0 + i) 0) (by simp [List.getD, hlt])
  rw [dropD_cons b (a0 + i) 0 hlt] at hF
  generalize b.getD (a0 + i) 0 = c at *
  have hgb : (byteR b)[a0 + i]? = some [DV.val (.int .u8 c)] := hg
  have hadd : IntKind.i64.wrap ((a0 : Int) + (i : Int)) = ((a0 + i : Nat) : Int) := by rw [wrap_in (by omega) (by omega)]; rfl
  have hrem : c.tmod 128 = c % 128 := Int.tmod_eq_emod_of_nonneg hc.1
  have hr0 : 0 ≤ c % 128 := Int.emod_nonneg _ (by decide)
  have hr1 : c % 128 < 128 := Int.emod_lt_of_pos _ (by decide)
  have hw : IntKind.i64.wrap (c % 128) = c % 128 := wrap_in (by omega) (by omega)
  have hp7 : (128 : Int) ^ i ≤ 128 ^ 7 := by exact_mod_cast Nat.pow_le_pow_right (by decide) (show i ≤ 7 by omega)
  have hm1 : c % 128 * 128 ^ i ≤ 127 * 128 ^ i := Int.mul_le_mul_of_nonneg_right (by omega) (Int.le_of_lt hp8)
  have hm0 : 0 ≤ c % 128 * 128 ^ i := Int.mul_nonneg hr0 (Int.le_of_lt hp8)
  have hmul : IntKind.i64.wrap (128 ^ i * (c % 128)) = c % 128 * 128 ^ i := by rw [Int.mul_comm, wrap_in (by omega) (by omega)]
  have hsum : IntKind.i64.wrap (n + c % 128 * 128 ^ i) = n + c % 128 * 128 ^ i := wrap_in (by omega) (by omega)
  have hstep : IntKind.i64.wrap (128 ^ i * 128) = 128 ^ (i + 1) := by rw [Int.pow_succ]; exact wrap_in (by omega) (by omega)
  have hn2 : n + c % 128 * 128 ^ i < 128 ^ (i + 1) := by rw [Int.pow_succ]; omega
  simp only [decide_eq_true (show ((i : Nat) : Int) < ((b.length - a0 : Nat) : Int) by omega), hadd, hgb, hrem, hw, hmul, hsum, hstep, ne_eq, not_false_eq_true, show ((128 : Int) = 0) = False from by decide, go_sem, ↓reduceIte, zA, zB, zC, zD, zE, zF, reduceCtorEq, zG, zH, zI, zJ, zK, zL, zM, zN, zO, zP]
  unfold scanN at hF
  rw [if_neg (by omega)] at hF
  by_cases h128 : 128 ≤ c
  case pos =>
    rw [if_pos h128] at hF
    simp only [decide_eq_true (show c ≥ 128 from h128), go_sem, ↓reduceIte, zA, zB, zC, zD, zE, zF, reduceCtorEq, zG, zH, zI, zJ, zK, zL, zM, zN, zO, zP]
    refine W_lpI (i + 1, n + c % 128 * 128 ^ i) ?_ ?_ ⟨by dsimp only; omega, by dsimp only; omega, by dsimp only; omega, hn2, by rw [← Nat.add_assoc]; exact hF⟩ (by dsimp only; omega)
    · simp only [go_sem, ↓reduceIte, zA, zB, zC, zD, zE, zF, reduceCtorEq, zG, zH, zI, zJ, zK, zL, zM, zN, zO, zP]
    · simp only [gn1S, wrap_succ (show i < 9223372036854775807 by omega), go_sem, ↓reduceIte, zA, zB, zC, zD, zE, zF, reduceCtorEq, zG, zH, zI, zJ, zK, zL, zM, zN, zO, zP]
  rw [if_neg h128] at hF
  simp only [decide_eq_false (show ¬ c ≥ 128 from h128), go_sem, ↓reduceIte, zA, zB, zC, zD, zE, zF, reduceCtorEq, zG, zH, zI, zJ, zK, zL, zM, zN, zO, zP]
  generalize hN : n + c % 128 * 128 ^ i = N at *
  refine W_calld (num1_tri N) rfl rfl rfl rfl ?_; simp only [go_sem, ↓reduceIte, zA, zB, zC, zD, zE, zF, reduceCtorEq, zG, zH, zI, zJ, zK, zL, zM, zN, zO, zP]
  have hNl : (byteR (numB N)).length = (numB N).length := by simp [byteR]
  simp only [hNl, wrap_succ (show i < 9223372036854775807 by omega), go_sem, ↓reduceIte, zA, zB, zC, zD, zE, zF, reduceCtorEq, zG, zH, zI, zJ, zK, zL, zM, zN, zO, zP]
  have w1 : IntKind.i64.wrap ((a0 + i : Nat) + 1 : Int) = ((a0 + (i + 1) : Nat) : Int) := by rw [wrap_in (by omega) (by omega)]; omega
  by_cases hbad : (c = 0 ∧ 0 < i) ∨ most53 < N
  case pos =>
    rw [if_pos hbad] at hF
    have : q = none := hF.symm
    subst this
    have hne : (numB N).length ≠ i + 1 := by
      rcases hbad with ⟨hc0, hi0⟩ | hbig
      · unfold numB
        split
        · have : N < 128 ^ (i - 1 + 1) := by rw [show i - 1 + 1 = i by omega, ← hN, hc0]; simpa using hn
          have := digs_up (i - 1) 8 N this
          omega
        · simp
      · have : isNum N = false := decide_eq_false (by omega)
        unfold numB; rw [if_neg (by rw [this]; decide)]; simp
    simp only [show (((numB N).length : Int) != ((i + 1 : Nat) : Int)) = true from bne_iff_ne.2 (by omega), rdX, rdP, Option.isSome_none, Int.natCast_zero, go_sem, ↓reduceIte, zA, zB, zC, zD, zE, zF, reduceCtorEq, zG, zH, zI, zJ, zK, zL, zM, zN, zO, zP]
  rw [if_neg hbad] at hF
  have : q = some (N, a0 + (i + 1)) := hF.symm
  subst this
  have hNum : isNum N = true := decide_eq_true ⟨by omega, by omega⟩
  have hlen2 : (numB N).length = i + 1 := by
    unfold numB
    rw [if_pos hNum]
    have h1 := digs_up i 8 N hn2
    have h2 : i + 1 ≤ (digs 8 N).length := by
      by_cases hi0 : i = 0
      · subst hi0; exact (digs_len 8 N).1
      · refine digs_dn i 8 N (by omega) ?_
        have hc1 : 1 ≤ c % 128 := by omega
        have : 1 * 128 ^ i ≤ c % 128 * 128 ^ i := Int.mul_le_mul_of_nonneg_right hc1 (Int.le_of_lt hp8)
        omega
    omega
  simp only [show (((numB N).length : Int) != ((i + 1 : Nat) : Int)) = false by rw [hlen2]; simp, hadd, w1, rdX, rdP, Option.isSome_some, go_sem, ↓reduceIte, zA, zB, zC, zD, zE, zF, reduceCtorEq, zG, zH, zI, zJ, zK, zL, zM, zN, zO, zP]

def gl1S (b : List Int) (n : Int) (p : List Int × Nat) : St := ⟨[(0, bytesV b), (9, .int n), (10, .int p.2), (12, .sl 0 p.1.length 1 0 p.1.length), (13, .int p.1.length)], [some (LObj.dat 3 1 (numR p.1))]⟩
def gl1Res : Option (List Int × Nat) → LV
  | none => .tup [.d (.val (.slice none 0 0)), .int 0, .bool false]
  | some (xs, e) => .tup [.sl 0 xs.length 1 0 xs.length, .int e, .bool true]
def gl1Obj : Option (List Int × Nat) → List LObj
  | none => []
  | some (xs, e) => [.dat 3 1 (numR xs)]
set_option maxHeartbeats 1000000 in
theorem getList1_tri (b : List Int) (hb : ∀ c ∈ b, 0 ≤ c ∧ c ≤ 255) (hl : b.length ≤ 1000000) (many : Nat) (hm : many ≤ 1000) (q : Option (List Int × Nat)) (hq : getL b 0 many = q) : Tri Tryd.prog G 24 [bytesV b, .int 0, .int many] [] (gl1Res q) (gl1Obj q) := by
  refine tri_W Tryd.func24 (by decide) irOk24 (Nat.le_of_ble_eq_true rfl) ?_
  simp only [ir24, go_sem, ↓reduceIte, zA, zB, zC, zD, zE, zF, reduceCtorEq, zG, zH, zI, zJ, zK, zL, zM, zN, zO, zP]
  refine W_calld (getNum1_tri b hb hl 0 (by decide) _ rfl) rfl rfl rfl rfl ?_; simp only [go_sem, ↓reduceIte, zA, zB, zC, zD, zE, zF, reduceCtorEq, zG, zH, zI, zJ, zK, zL, zM, zN, zO, zP]
  unfold getL at hq
  cases hn : getN b 0 with
  | none =>
    rw [hn] at hq
    subst hq
    simp only [rdX, rdP, Option.isSome_none, Int.natCast_zero, gl1Res, gl1Obj, go_sem, ↓reduceIte, zA, zB, zC, zD, zE, zF, reduceCtorEq, zG, zH, zI, zJ, zK, zL, zM, zN, zO, zP]
    exact BackS (objs' := []) ⟨rfl, rfl⟩ rfl rfl rfl
  | some np =>
  obtain ⟨n, p0⟩ := np
  rw [hn] at hq
  dsimp only at hq
  obtain ⟨hn0, hn1, hp0, hp1⟩ := getN_rng (fun c hc => (hb c hc).1) hn
  by_cases hgt : (many : Int) < n
  case pos =>
    rw [if_pos hgt] at hq
    subst hq
    simp only [rdX, rdP, Option.isSome_some, decide_eq_true (show n > (many : Int) from hgt), gl1Res, gl1Obj, go_sem, ↓reduceIte, zA, zB, zC, zD, zE, zF, reduceCtorEq, zG, zH, zI, zJ, zK, zL, zM, zN, zO, zP]
    exact BackS (objs' := []) ⟨rfl, rfl⟩ rfl rfl rfl
  rw [if_neg hgt] at hq
  simp only [rdX, rdP, Option.isSome_some, decide_eq_false (show ¬ n > (many : Int) from hgt), go_sem, ↓reduceIte, zA, zB, zC, zD, zE, zF, reduceCtorEq, zG, zH, zI, zJ, zK, zL, zM, zN, zO, zP]
  refine W_loopI [0, 9, 10, 12, 13] [.t 12 3 1] (fun p : List Int × Nat => p.1.length ≤ n.toNat ∧ p.2 ≤ b.length ∧ (getLs b (n.toNat - p.1.length) p.2).map (fun r => (p.1 ++ r.1, r.2)) = q) (fun p => n.toNat - p.1.length) (gl1S b n) ([], p0) ?_ ⟨Nat.zero_le _, hp1, ?_⟩ ?_
  · simp only [gl1S, numR, Int.natCast_zero, go_sem, ↓reduceIte, zA, zB, zC, zD, zE, zF, reduceCtorEq, zG, zH, zI, zJ, zK, zL, zM, zN, zO, zP]
  · dsimp only
    rw [← hq]
    simp
  clear hn hp0 hp1 hq
  rintro ⟨xs, p⟩ ⟨hk, hp, hF⟩
  dsimp only at hk hp hF
  generalize hlx : xs.length = k at *
  simp only [gl1S, hlx, go_sem, ↓reduceIte, zA, zB, zC, zD, zE, zF, reduceCtorEq, zG, zH, zI, zJ, zK, zL, zM, zN, zO, zP]
  cases hlt : decide ((k : Int) < n) with
  | false =>
    have hk2 : k = n.toNat := by have := of_decide_eq_false hlt; omega
    rw [show n.toNat - k = 0 by omega] at hF
    have : q = some (xs, p) := by rw [← hF]; simp [getLs]
    subst this
    simp only [gl1Res, gl1Obj, hlx, go_sem, ↓reduceIte, zA, zB, zC, zD, zE, zF, reduceCtorEq, zG, zH, zI, zJ, zK, zL, zM, zN, zO, zP]
    refine BackR [] [0] [] (vs := [.sl 0 k 1 0 k, .int p, .bool true]) rfl rfl (by decide) (by simp) (by simp) ?_ ?_ ?_
    · simp [St.obj, objL, adopt, rnO]
    · simp [idlO]
    · simp [oneOr, argR, argRs, adopt, St.obj, objL, LV.int, LV.bool]
  | true =>
  have hk2 : k < n.toNat := by have := of_decide_eq_true hlt; omega
  rw [show n.toNat - k = (n.toNat - (k + 1)) + 1 by omega] at hF
  unfold getLs at hF
  simp only [go_sem, ↓reduceIte, zA, zB, zC, zD, zE, zF, reduceCtorEq, zG, zH, zI, zJ, zK, zL, zM, zN, zO, zP]
  refine W_calld (getNum1_tri b hb hl p (by omega) _ rfl) rfl rfl rfl rfl ?_; simp only [go_sem, ↓reduceIte, zA, zB, zC, zD, zE, zF, reduceCtorEq, zG, zH, zI, zJ, zK, zL, zM, zN, zO, zP]
  cases hn : getN b p with
  | none =>
    rw [hn] at hF
    have : q = none := by rw [← hF]; rfl
    subst this
    simp only [rdX, rdP, Option.isSome_none, Int.natCast_zero, gl1Res, gl1Obj, go_sem, ↓reduceIte, zA, zB, zC, zD, zE, zF, reduceCtorEq, zG, zH, zI, zJ, zK, zL, zM, zN, zO, zP]
    exact BackS (objs' := []) ⟨rfl, rfl⟩ rfl rfl rfl
  | some np =>
  obtain ⟨x, p1⟩ := np
  rw [hn] at hF
  dsimp only at hF
  obtain ⟨hx0, hx1, hp2, hp3⟩ := getN_rng (fun c hc => (hb c hc).1) hn
  have hnl : (numR xs).length = k := by simp [numR, hlx]
  have happ : (numR xs ++ [[DV.val (Value.int IntKind.i64 x)]]).length * 8 ≤ 70368744177664 := by simp [numR, hlx]; omega
  simp only [rdX, rdP, Option.isSome_some, go_sem, ↓reduceIte, zA, zB, zC, zD, zE, zF, reduceCtorEq, zG, zH, zI, zJ, zK, zL, zM, zN, zO, zP]
  rw [if_pos ⟨hnl.symm, happ⟩]
  simp only [hnl, go_sem, ↓reduceIte, zA, zB, zC, zD, zE, zF, reduceCtorEq, zG, zH, zI, zJ, zK, zL, zM, zN, zO, zP]
  have hap : (xs ++ [x]).length = k + 1 := by simp [hlx]
  refine W_lpI (xs ++ [x], p1) ?_ ?_ ⟨by dsimp only; omega, hp3, ?_⟩ (by dsimp only; omega)
  · simp only [go_sem, ↓reduceIte, zA, zB, zC, zD, zE, zF, reduceCtorEq, zG, zH, zI, zJ, zK, zL, zM, zN, zO, zP]
  · simp only [gl1S, hap, numR, List.map_append, wrap_succ (show k < 9223372036854775807 by omega), go_sem, ↓reduceIte, zA, zB, zC, zD, zE, zF, reduceCtorEq, zG, zH, zI, zJ, zK, zL, zM, zN, zO, zP]
  · dsimp only
    rw [hap, ← hF]
    cases getLs b (n.toNat - (k + 1)) p1 with
    | none => rfl
    | some r => simp
end Dv
