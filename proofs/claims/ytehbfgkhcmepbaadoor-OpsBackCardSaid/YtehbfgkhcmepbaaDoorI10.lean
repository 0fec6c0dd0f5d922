/- The document's numbers as bytes. -/
import Derived.Test.YtehbfgkhcmepbaaDoorI8
set_option linter.unusedVariables false
set_option linter.unusedSimpArgs false
namespace Dv
open Go Go.Proofs
open Nat renaming reduceEqDiff → zA, reduceAdd → zB, reduceSub → zC, reduceMul → zD, reduceLT → zE, reduceLeDiff → zF
open Int renaming reduceLE → zG, reduceLT → zH, reduceToNat → zI, reduceBEq → zJ, reduceBNe → zK, reduceEq → zL, reduceAdd → zM, reduceSub → zN, reduceMul → zO, reduceNeg → zP
attribute [local go_sem] argEnv W_nil W_seq W_skip W_ret W_exit W_scope W_block W_blk W_reg W_regD W_cond WC_t WC_f WC_any Wx_c Wx_ops Wx_lp Wx_blk W_ops_nil W_opsD_q W_guard W_guardD WG_tt WG_ff WG_tf WG_ft WG_u WGD_tt WGD_ff WGD_tf WGD_ft WGD_u WE_some WED_some W_more W_mv W_pick W_new W_box W_build W_bsl W_ld1 W_ldn W_st W_nck W_bin W_eqb W_not W_cvt W_fad W_fld1 W_fldn W_ixa W_ixr W_ix1 W_ixs W_len W_lens W_mkf W_ext W_app W_min W_isnp W_isns W_eqs W_neg W_ixn W_sli W_sls WD_more WD_mv WD_pick WD_new WD_box WD_build WD_bsl WD_ld1 WD_ldn WD_st WD_nck WD_bin WD_eqb WD_not WD_cvt WD_fad WD_fld1 WD_fldn WD_ixa WD_ixr WD_ix1 WD_ixs WD_len WD_lens WD_mkf WD_ext WD_app WD_min WD_isnp WD_isns WD_eqs WD_neg WD_ixn WD_sli WD_sls effF effM bytesOf Opd.ev getE putE binV LV.int LV.bool LV.undef Go.undef LV.cells LV.toD LV.toDs splice fillL rowsOf srcRows updL objL Eff.owned nwp St.get St.obj St.put Value.oneCell' Ends adopt Ad.ap isNil St.keep St.okKeep okObj idl idlL idlO RVs.of RV.of oneOr Ends0 EndsO_iff frzs rn rnL rnO piOf eqCells eqV boundV Option.map_some Option.map_none List.append_nil List.nil_append List.cons_append List.map_nil List.map_cons List.length_nil List.length_cons List.set_cons_zero List.set_cons_succ List.take_succ_cons List.take_zero List.take_nil List.drop_succ_cons List.drop_zero List.drop_nil List.getElem?_cons_zero List.getElem?_cons_succ List.getElem?_nil List.isEmpty_nil List.isEmpty_cons List.all_cons List.all_nil List.isEmpty_nil cond_true cond_false Bool.true_and Bool.false_and Bool.and_true Bool.and_false Bool.not_true Bool.not_false Bool.or_true Bool.true_or Bool.or_false Bool.false_or true_and and_true true_or or_true Option.some.injEq LV.d.injEq DV.val.injEq Value.bool.injEq Value.int.injEq decide_true decide_false and_self Nat.zero_add Nat.add_zero if_true if_false Int.toNat_zero beq_self_eq_true Nat.zero_lt_succ Int.toNat_natCast Int.natCast_nonneg List.length_map i64 bl List.zip_cons_cons List.zip_nil_left List.zip_nil_right nwp confV stateV nodeV jobV nodesV jobsV opV msgV nodeR jobR opR msgR zeroOp zeroMsg msgsV
variable {G : Nat → Option (List DV)}

/-- dunnageref01.Is -/
def ir40 : Nat × C × List RV := (9,
(.seq (.reg [⟨(some 2), .mv (.c (.val (.bool false))), none, []⟩])
 (.seq (.reg [⟨(some 3), .mv (.t 0), none, []⟩,
 ⟨(some 4), .bin .geq (.t 3) (.c (.val (.int .i64 0))), none, []⟩,
 ⟨(some 5), .mv (.t 4), none, []⟩,
 ⟨(some 6), .mv (.t 0), (some (5, true)), []⟩,
 ⟨(some 7), .bin .lss (.t 6) (.c (.val (.int .i64 9007199254740992))), (some (5, true)), []⟩,
 ⟨(some 8), .pick (.t 5) (.t 7) (.c (.val (.bool false))), none, []⟩,
 ⟨(some 2), .mv (.t 8), none, []⟩])
 .ret)),
[(.t 2)])
theorem irOk40 : convFn Tryd.prog Tryd.f40 = some ir40 := by kernel_rfl
/-- dunnageref01.Num -/
def ir39 : Nat × C × List RV := (38,
(.seq (.reg [⟨(some 2), .mv (.c (.val (.slice none 0 0))), none, []⟩])
 (.seq (.reg [⟨(some 3), .mv (.c (.val (.slice none 0 0))), none, []⟩])
 (.seq (.seq (.reg [⟨(some 4), .mv (.c (.val (.int .i64 0))), none, []⟩])
 (.block 0 (.loop (.seq (.seq (.reg [⟨(some 5), .mv (.t 0), none, []⟩,
 ⟨(some 6), .call (.f 40) [(.t 5)], none, []⟩,
 ⟨(some 7), .mv (.t 6), none, []⟩,
 ⟨(some 8), .mv (.t 4), (some (7, true)), []⟩,
 ⟨(some 9), .bin .eql (.t 8) (.c (.val (.int .i64 0))), (some (7, true)), []⟩,
 ⟨(some 10), .mv (.t 9), (some (7, true)), []⟩,
 ⟨(some 11), .mv (.t 0), (some (10, false)), []⟩,
 ⟨(some 12), .bin .gtr (.t 11) (.c (.val (.int .i64 0))), (some (10, false)), []⟩,
 ⟨(some 13), .pick (.t 10) (.c (.val (.bool true))) (.t 12), (some (7, true)), []⟩,
 ⟨(some 14), .pick (.t 7) (.t 13) (.c (.val (.bool false))), none, []⟩])
 (.cond (.t 14) .skip
 (.exit 0)))
 (.seq (.block 1 (.seq (.seq (.reg [⟨(some 17), .mv (.t 4), none, []⟩,
 ⟨(some 18), .bin .gtr (.t 17) (.c (.val (.int .i64 0))), none, []⟩])
 (.cond (.t 18) (.reg [⟨(some 19), .mv (.t 3), none, []⟩,
 ⟨(some 20), .mv (.t 4), none, []⟩,
 ⟨(some 21), .bin .sub (.t 20) (.c (.val (.int .i64 1))), none, []⟩,
 ⟨(some 22), .mv (.t 3), none, []⟩,
 ⟨(some 23), .mv (.t 4), none, []⟩,
 ⟨(some 24), .bin .sub (.t 23) (.c (.val (.int .i64 1))), none, []⟩,
 ⟨(some 25), .ixa 1 (.t 22) (.t 24), none, []⟩,
 ⟨(some 26), .ld1 (.t 25), none, []⟩,
 ⟨(some 27), .bin .add (.t 26) (.c (.val (.int .u8 128))), none, []⟩,
 ⟨(some 28), .ixa 1 (.t 19) (.t 21), none, []⟩,
 ⟨none, .st 1 (.t 28) (.t 27), none, []⟩])
 .skip))
 (.seq (.reg [⟨(some 29), .mv (.t 3), none, []⟩,
 ⟨(some 30), .mv (.t 0), none, []⟩,
 ⟨(some 31), .bin .rem (.t 30) (.c (.val (.int .i64 128))), none, []⟩,
 ⟨(some 32), .cvt .u8 (.t 31), none, []⟩,
 ⟨(some 33), .bsl 5 1 [(.t 32)], none, []⟩,
 ⟨(some 34), .app 5 1 1 (.t 29) (.t 33), none, []⟩,
 ⟨(some 3), .mv (.t 34), none, []⟩])
 (.reg [⟨(some 35), .mv (.t 0), none, []⟩,
 ⟨(some 36), .bin .quo (.t 35) (.c (.val (.int .i64 128))), none, []⟩,
 ⟨(some 0), .mv (.t 36), none, []⟩]))))
 (.reg [⟨(some 15), .mv (.t 4), none, []⟩,
 ⟨(some 16), .bin .add (.t 15) (.c (.val (.int .i64 1))), none, []⟩,
 ⟨(some 4), .mv (.t 16), none, []⟩]))))))
 (.seq (.reg [⟨(some 37), .mv (.t 3), none, []⟩,
 ⟨(some 2), .mv (.t 37), none, []⟩])
 .ret)))),
[(.t 2)])
theorem irOk39 : convFn Tryd.prog Tryd.f39 = some ir39 := by kernel_rfl

attribute [local go_sem] u8

theorem is1_tri (n : Int) : Tri Tryd.prog G 40 [.int n] [] (.bool (isNum n)) [] := by
  refine tri_W0 Tryd.func40 (by decide) irOk40 (Nat.le_of_ble_eq_true rfl) rfl ?_
  simp only [ir40, go_sem, ↓reduceIte, zA, zB, zC, zD, zE, zF, reduceCtorEq, zG, zH, zI, zJ, zK, zL, zM, zN, zO, zP]
  by_cases h0 : 0 ≤ n
  · by_cases h1 : n < 9007199254740992
    · simp only [decide_eq_true (show n ≥ 0 from h0), decide_eq_true h1, show isNum n = true from decide_eq_true (show 0 ≤ n ∧ n ≤ 9007199254740991 by omega), go_sem, ↓reduceIte, zA, zB, zC, zD, zE, zF, reduceCtorEq, zG, zH, zI, zJ, zK, zL, zM, zN, zO, zP]
    · simp only [decide_eq_true (show n ≥ 0 from h0), decide_eq_false h1, show isNum n = false from decide_eq_false (show ¬ (0 ≤ n ∧ n ≤ 9007199254740991) by omega), go_sem, ↓reduceIte, zA, zB, zC, zD, zE, zF, reduceCtorEq, zG, zH, zI, zJ, zK, zL, zM, zN, zO, zP]
  · simp only [decide_eq_false (show ¬ n ≥ 0 from h0), show isNum n = false from decide_eq_false (show ¬ (0 ≤ n ∧ n ≤ 9007199254740991) by omega), go_sem, ↓reduceIte, zA, zB, zC, zD, zE, zF, reduceCtorEq, zG, zH, zI, zJ, zK, zL, zM, zN, zO, zP]

/-- the rounds so far: how many, what is left, the bytes. -/
structure NumP where
  i : Nat
  m : Int
  out : List Int
def num1S (p : NumP) : St := ⟨[(0, .int p.m), (3, .sl 0 p.out.length 1 0 p.out.length), (4, .int p.i)], [some (.dat 5 1 (byteR p.out))]⟩
def num1I (n : Int) (p : NumP) : Prop := p.out.length = p.i ∧ 0 ≤ p.m ∧ p.m * 128 ^ p.i ≤ most53 ∧ p.i ≤ 8 ∧
  ((p.i = 0 ∧ p.m = n) ∨ (∃ pre d, p.out = pre ++ [d] ∧ 0 ≤ d ∧ d < 128 ∧ ((p.m = 0 ∧ pre ++ [d] = digs 8 n) ∨ (0 < p.m ∧ pre ++ [d + 128] ++ digs (8 - p.i) p.m = digs 8 n))))

set_option maxHeartbeats 1000000 in
theorem num1_walk (n : Int) (hn : isNum n = true) (fin : St → Prop) (hfin : ∀ s : St, s.get 2 = .sl 0 (numB n).length 1 0 (numB n).length → s.obj 0 = .live (.dat 5 1 (byteR (numB n))) → fin s) :
    W Tryd.prog G fin [.c ir39.2.1] ⟨argEnv 0 [.int n], []⟩ := by
  have hn2 := of_decide_eq_true hn
  have hB : numB n = digs 8 n := by unfold numB; rw [if_pos hn]
  rw [hB] at hfin
  simp only [ir39, go_sem, ↓reduceIte, zA, zB, zC, zD, zE, zF, reduceCtorEq, zG, zH, zI, zJ, zK, zL, zM, zN, zO, zP]
  refine W_loopI [0, 3, 4] [.t 3 5 1] (num1I n) (fun p => 9 - p.i) num1S ⟨0, n, []⟩ ?_ ⟨rfl, hn2.1, by simpa using hn2.2, Nat.zero_le _, .inl ⟨rfl, rfl⟩⟩ ?_
  · simp only [num1S, byteR, Int.natCast_zero, go_sem, ↓reduceIte, zA, zB, zC, zD, zE, zF, reduceCtorEq, zG, zH, zI, zJ, zK, zL, zM, zN, zO, zP]
  rintro ⟨i, m, out⟩ ⟨hlen, hm0, hmx, hi8, hcase⟩
  dsimp only at hlen hm0 hmx hi8 hcase
  have hbl : (byteR out).length = i := by simp [byteR, hlen]
  have hp8 : (1 : Int) ≤ 128 ^ i := Int.pow_pos (by decide)
  have hmm : m ≤ most53 := by
    have : m * 1 ≤ m * 128 ^ i := Int.mul_le_mul_of_nonneg_left hp8 hm0
    omega
  have his : isNum m = true := decide_eq_true ⟨hm0, hmm⟩
  simp only [num1S, hlen, go_sem, ↓reduceIte, zA, zB, zC, zD, zE, zF, reduceCtorEq, zG, zH, zI, zJ, zK, zL, zM, zN, zO, zP]
  refine W_calld (is1_tri m) rfl rfl rfl rfl ?_; simp only [go_sem, ↓reduceIte, zA, zB, zC, zD, zE, zF, reduceCtorEq, zG, zH, zI, zJ, zK, zL, zM, zN, zO, zP]
  simp only [his, go_sem, ↓reduceIte, zA, zB, zC, zD, zE, zF, reduceCtorEq, zG, zH, zI, zJ, zK, zL, zM, zN, zO, zP]
  rcases hcase with ⟨hi0, hmn⟩ | ⟨pre, d, rfl, hd0, hd1, hcase⟩
  · subst hi0 hmn
    have hout : out = [] := List.eq_nil_of_length_eq_zero hlen
    subst hout
    have hr0 : 0 ≤ m % 128 := Int.emod_nonneg _ (by decide)
    have hr1 : m % 128 < 128 := Int.emod_lt_of_pos _ (by decide)
    have hrem : m.tmod 128 = m % 128 := Int.tmod_eq_emod_of_nonneg hm0
    have hquo : m.tdiv 128 = m / 128 := Int.tdiv_eq_ediv_of_nonneg hm0
    have hq0 : 0 ≤ m / 128 := Int.ediv_nonneg hm0 (by decide)
    have hq1 : m / 128 * 128 ≤ m := Int.ediv_mul_le m (by decide)
    have hw : IntKind.i64.wrap (m / 128) = m / 128 := wrap_in (by omega) (by unfold most53 at hmm; omega)
    simp only [Int.natCast_zero, show ((0 : Int) == 0) = true from rfl, show decide ((0 : Int) > 0) = false from rfl, hrem, hquo, hw, u8_in (m % 128) hr0 (by omega), byteR, ne_eq, not_false_eq_true, show ((128 : Int) = 0) = False from by decide, show IntKind.i64.wrap 1 = 1 from rfl, go_sem, ↓reduceIte, zA, zB, zC, zD, zE, zF, reduceCtorEq, zG, zH, zI, zJ, zK, zL, zM, zN, zO, zP]
    refine W_lpI ⟨1, m / 128, [m % 128]⟩ ?_ ?_ ⟨rfl, hq0, by dsimp only; omega, show 1 ≤ 8 by decide, .inr ⟨[], m % 128, rfl, hr0, hr1, ?_⟩⟩ (by dsimp only; omega)
    · simp only [go_sem, ↓reduceIte, zA, zB, zC, zD, zE, zF, reduceCtorEq, zG, zH, zI, zJ, zK, zL, zM, zN, zO, zP]
    · simp only [num1S, byteR, show ((1 : Nat) : Int) = 1 from rfl, go_sem, ↓reduceIte, zA, zB, zC, zD, zE, zF, reduceCtorEq, zG, zH, zI, zJ, zK, zL, zM, zN, zO, zP]
    · dsimp only
      by_cases hm : 128 ≤ m
      · refine .inr ⟨by omega, ?_⟩
        rw [show digs 8 m = (m % 128 + 128) :: digs 7 (m / 128) by rw [digs, if_pos hm]]
        rfl
      · refine .inl ⟨by omega, ?_⟩
        rw [digs_lt 8 (by omega)]
        rw [show m % 128 = m by omega]; rfl
  · have hi1 : i = pre.length + 1 := by rw [← hlen]; simp
    have hi0 : ((i : Int) == 0) = false := beq_eq_false_iff_ne.2 (by omega)
    rcases hcase with ⟨rfl, hd⟩ | ⟨hm1, hd⟩
    · simp only [hi0, show decide ((0 : Int) > 0) = false from rfl, go_sem, ↓reduceIte, zA, zB, zC, zD, zE, zF, reduceCtorEq, zG, zH, zI, zJ, zK, zL, zM, zN, zO, zP]
      refine hfin _ ?_ ?_
      · rw [← hd, hlen]; rfl
      · rw [← hd]; rfl
    have hi7 : i ≤ 7 := by
      rcases Nat.lt_or_ge i 8 with h | h
      · omega
      · exfalso
        obtain rfl : i = 8 := by omega
        unfold most53 at hmx; omega
    have hr0 : 0 ≤ m % 128 := Int.emod_nonneg _ (by decide)
    have hr1 : m % 128 < 128 := Int.emod_lt_of_pos _ (by decide)
    have hrem : m.tmod 128 = m % 128 := Int.tmod_eq_emod_of_nonneg hm0
    have hquo : m.tdiv 128 = m / 128 := Int.tdiv_eq_ediv_of_nonneg hm0
    have hq0 : 0 ≤ m / 128 := Int.ediv_nonneg hm0 (by decide)
    have hq1 : m / 128 * 128 ≤ m := Int.ediv_mul_le m (by decide)
    have hw : IntKind.i64.wrap (m / 128) = m / 128 := wrap_in (by omega) (by unfold most53 at hmm; omega)
    have hsub : IntKind.i64.wrap ((i : Int) - 1) = (pre.length : Int) := by rw [wrap_in (by omega) (by omega)]; omega
    have hg : (byteR (pre ++ [d]))[pre.length]? = some [u8 d] := by simp [byteR]
    simp only [u8] at hg
    have hset : (byteR (pre ++ [d])).set pre.length [DV.val (.int .u8 (d + 128))] = byteR (pre ++ [d + 128]) := by simp [byteR, u8]
    have hlt : pre.length < i := by omega
    have hbl2 : (byteR (pre ++ [d + 128])).length = i := by simp [byteR]; omega
    simp only [hi0, hlt, hbl, hbl2, decide_eq_true (show m > 0 from hm1), decide_eq_true (show (i : Int) > 0 by omega), hsub, hg, u8_in (d + 128) (by omega) (by omega), hset, hrem, hquo, hw, u8_in (m % 128) hr0 (by omega), ne_eq, not_false_eq_true, show ((128 : Int) = 0) = False from by decide, go_sem, ↓reduceIte, zA, zB, zC, zD, zE, zF, reduceCtorEq, zG, zH, zI, zJ, zK, zL, zM, zN, zO, zP]
    have happ : (byteR (pre ++ [d + 128]) ++ [[DV.val (Value.int IntKind.u8 (m % 128))]]).length * 1 ≤ 70368744177664 := by rw [List.length_append, hbl2]; simp; omega
    rw [if_pos happ]
    simp only [hquo, hw, ne_eq, not_false_eq_true, show ((128 : Int) = 0) = False from by decide, go_sem, ↓reduceIte, zA, zB, zC, zD, zE, zF, reduceCtorEq, zG, zH, zI, zJ, zK, zL, zM, zN, zO, zP]
    have hp9 : (0 : Int) < 128 ^ i := by omega
    refine W_lpI ⟨i + 1, m / 128, pre ++ [d + 128] ++ [m % 128]⟩ ?_ ?_ ⟨by simp; omega, hq0, ?_, show i + 1 ≤ 8 by omega, .inr ⟨pre ++ [d + 128], m % 128, rfl, hr0, hr1, ?_⟩⟩ (by dsimp only; omega)
    · simp only [go_sem, ↓reduceIte, zA, zB, zC, zD, zE, zF, reduceCtorEq, zG, zH, zI, zJ, zK, zL, zM, zN, zO, zP]
    · have hl3 : (pre ++ [d + 128] ++ [m % 128]).length = i + 1 := by simp; omega
      simp only [num1S, byteR, hl3, List.map_append, wrap_succ (show i < 9223372036854775807 by omega), go_sem, ↓reduceIte, zA, zB, zC, zD, zE, zF, reduceCtorEq, zG, zH, zI, zJ, zK, zL, zM, zN, zO, zP]
    · dsimp only
      have e3 : m / 128 * 128 * 128 ^ i ≤ m * 128 ^ i := Int.mul_le_mul_of_nonneg_right hq1 (Int.le_of_lt hp9)
      rw [Int.pow_succ, Int.mul_comm ((128 : Int) ^ i) 128, ← Int.mul_assoc]
      omega
    · dsimp only
      by_cases hm : 128 ≤ m
      · refine .inr ⟨by omega, ?_⟩
        rw [← hd, show 8 - i = (8 - (i + 1)) + 1 by omega, digs, if_pos hm]
        simp
      · refine .inl ⟨by omega, ?_⟩
        rw [← hd, digs_lt _ (by omega), show m % 128 = m by omega]
theorem num1_off (n : Int) (hn : ¬ isNum n = true) (fin : St → Prop) (hfin : ∀ s : St, s.get 2 = .d (.val (.slice none 0 0)) → fin s) :
    W Tryd.prog G fin [.c ir39.2.1] ⟨argEnv 0 [.int n], []⟩ := by
  simp only [ir39, go_sem, ↓reduceIte, zA, zB, zC, zD, zE, zF, reduceCtorEq, zG, zH, zI, zJ, zK, zL, zM, zN, zO, zP]
  refine W_loopI [0, 3, 4] [] (fun _ : Unit => True) (fun _ => 1) (fun _ => ⟨[(0, .int n), (3, .d (.val (.slice none 0 0))), (4, .int 0)], []⟩) () ?_ trivial ?_
  · simp only [go_sem, ↓reduceIte, zA, zB, zC, zD, zE, zF, reduceCtorEq, zG, zH, zI, zJ, zK, zL, zM, zN, zO, zP]
  intro _ _
  simp only [go_sem, ↓reduceIte, zA, zB, zC, zD, zE, zF, reduceCtorEq, zG, zH, zI, zJ, zK, zL, zM, zN, zO, zP]
  have h0 : isNum n = false := by simpa using hn
  refine W_calld (is1_tri n) rfl rfl rfl rfl ?_; simp only [go_sem, ↓reduceIte, zA, zB, zC, zD, zE, zF, reduceCtorEq, zG, zH, zI, zJ, zK, zL, zM, zN, zO, zP]
  simp only [h0, go_sem, ↓reduceIte, zA, zB, zC, zD, zE, zF, reduceCtorEq, zG, zH, zI, zJ, zK, zL, zM, zN, zO, zP]
  exact hfin _ rfl
theorem num1O_tri (n : Int) (hn : isNum n = true) : Tri Tryd.prog G 39 [.int n] [] (.sl 0 (numB n).length 1 0 (numB n).length) [.dat 5 1 (byteR (numB n))] := by
  refine tri_W Tryd.func39 (by decide) irOk39 (Nat.le_of_ble_eq_true rfl) ?_
  exact num1_walk n hn _ (fun s h1 h2 => BackO (o := 0) [] (by simp [RVs.of, RV.of, adopt, h1, ir39]) h2)
attribute [local go_sem] bytesV
theorem num1_tri (n : Int) : Tri Tryd.prog G 39 [.int n] [] (bytesV (numB n)) [] := by
  refine tri_W Tryd.func39 (by decide) irOk39 (Nat.le_of_ble_eq_true rfl) ?_
  by_cases hn : isNum n = true
  · refine num1_walk n hn _ (fun s h1 h2 => BackZ [0] (vs := [.sl 0 (numB n).length 1 0 (numB n).length]) (by simp [RVs.of, RV.of, h1, ir39]) (fun z hz => ?_) ?_)
    · simp at hz; subst hz; exact ⟨_, _, _, .inl h2⟩
    · simp [oneOr, argR, rowsAt, h2, byteR, bytesV, List.take_of_length_le]
  · refine num1_off n hn _ (fun s h1 => ?_)
    have hB : numB n = [] := by unfold numB; rw [if_neg hn]
    rw [hB]
    exact Back0 (vs := [.d (.val (.slice none 0 0))]) (by simp [RVs.of, RV.of, h1, ir39]) (by simp [oneOr, argR, bytesV, byteR])
end Dv
