/- code: a number as bytes, a list as bytes. -/
import Derived.Test.YtehbfgkhcmepbaaDoorI0
set_option linter.unusedVariables false
set_option linter.unusedSimpArgs false
namespace Dv
open Go Go.Proofs
open Nat renaming reduceEqDiff → zA, reduceAdd → zB, reduceSub → zC, reduceMul → zD, reduceLT → zE, reduceLeDiff → zF
open Int renaming reduceLE → zG, reduceLT → zH, reduceToNat → zI, reduceBEq → zJ, reduceBNe → zK, reduceEq → zL, reduceAdd → zM, reduceSub → zN, reduceMul → zO, reduceNeg → zP
attribute [local go_sem] argEnv W_nil W_seq W_skip W_ret W_exit W_scope W_block W_blk W_reg W_regD W_cond WC_t WC_f WC_any Wx_c Wx_ops Wx_lp Wx_blk W_ops_nil W_opsD_q W_guard W_guardD WG_tt WG_ff WG_tf WG_ft WG_u WGD_tt WGD_ff WGD_tf WGD_ft WGD_u WE_some WED_some W_more W_mv W_pick W_new W_box W_build W_bsl W_ld1 W_ldn W_st W_nck W_bin W_eqb W_not W_cvt W_fad W_fld1 W_fldn W_ixa W_ixr W_ix1 W_ixs W_len W_lens W_mkf W_ext W_app W_min W_isnp W_isns W_eqs W_neg W_ixn W_sli W_sls WD_more WD_mv WD_pick WD_new WD_box WD_build WD_bsl WD_ld1 WD_ldn WD_st WD_nck WD_bin WD_eqb WD_not WD_cvt WD_fad WD_fld1 WD_fldn WD_ixa WD_ixr WD_ix1 WD_ixs WD_len WD_lens WD_mkf WD_ext WD_app WD_min WD_isnp WD_isns WD_eqs WD_neg WD_ixn WD_sli WD_sls effF effM bytesOf Opd.ev getE putE binV LV.int LV.bool LV.undef Go.undef LV.cells LV.toD LV.toDs splice fillL rowsOf srcRows updL objL Eff.owned nwp St.get St.obj St.put Value.oneCell' Ends adopt Ad.ap isNil St.keep St.okKeep okObj idl idlL idlO RVs.of RV.of oneOr Ends0 EndsO_iff frzs rn rnL rnO piOf eqCells eqV boundV Option.map_some Option.map_none List.append_nil List.nil_append List.cons_append List.map_nil List.map_cons List.length_nil List.length_cons List.set_cons_zero List.set_cons_succ List.take_succ_cons List.take_zero List.take_nil List.drop_succ_cons List.drop_zero List.drop_nil List.getElem?_cons_zero List.getElem?_cons_succ List.getElem?_nil List.isEmpty_nil List.isEmpty_cons List.all_cons List.all_nil List.isEmpty_nil cond_true cond_false Bool.true_and Bool.false_and Bool.and_true Bool.and_false Bool.not_true Bool.not_false Bool.or_true Bool.true_or Bool.or_false Bool.false_or true_and and_true true_or or_true Option.some.injEq LV.d.injEq DV.val.injEq Value.bool.injEq Value.int.injEq decide_true decide_false and_self Nat.zero_add Nat.add_zero if_true if_false Int.toNat_zero beq_self_eq_true Nat.zero_lt_succ Int.toNat_natCast Int.natCast_nonneg List.length_map i64 bl List.zip_cons_cons List.zip_nil_left List.zip_nil_right nwp confV stateV nodeV jobV nodesV jobsV opV msgV nodeR jobR opR msgR zeroOp zeroMsg msgsV
variable {G : Nat → Option (List DV)}

/-- code.Num -/
def ir38 : Nat × C × List RV := (26,
(.seq (.reg [⟨(some 2), .mv (.c (.val (.slice none 0 0))), none, []⟩])
 (.seq (.seq (.reg [⟨(some 4), .mv (.t 0), none, []⟩,
 ⟨(some 5), .bin .lss (.t 4) (.c (.val (.int .i64 0))), none, []⟩,
 ⟨(some 6), .mv (.t 5), none, []⟩,
 ⟨(some 7), .mv (.t 0), (some (6, false)), []⟩,
 ⟨(some 8), .bin .gtr (.t 7) (.c (.val (.int .i64 9007199254740991))), (some (6, false)), []⟩,
 ⟨(some 9), .pick (.t 6) (.c (.val (.bool true))) (.t 8), none, []⟩])
 (.cond (.t 9) (.seq (.reg [⟨(some 2), .mv (.c (.val (.slice none 0 0))), none, []⟩])
 .ret)
 .skip))
 (.seq (.reg [⟨(some 3), .mv (.c (.val (.slice none 0 0))), none, []⟩])
 (.seq (.block 0 (.loop (.seq (.seq (.reg [⟨(some 10), .mv (.t 0), none, []⟩,
 ⟨(some 11), .bin .geq (.t 10) (.c (.val (.int .i64 128))), none, []⟩])
 (.cond (.t 11) .skip
 (.exit 0)))
 (.block 1 (.seq (.reg [⟨(some 12), .mv (.t 3), none, []⟩,
 ⟨(some 13), .mv (.t 0), none, []⟩,
 ⟨(some 14), .bin .rem (.t 13) (.c (.val (.int .i64 128))), none, []⟩,
 ⟨(some 15), .cvt .u8 (.t 14), none, []⟩,
 ⟨(some 16), .bin .or (.t 15) (.c (.val (.int .u8 128))), none, []⟩,
 ⟨(some 17), .bsl 5 1 [(.t 16)], none, []⟩,
 ⟨(some 18), .app 5 1 1 (.t 12) (.t 17), none, []⟩,
 ⟨(some 3), .mv (.t 18), none, []⟩])
 (.reg [⟨(some 19), .mv (.t 0), none, []⟩,
 ⟨(some 20), .bin .shr (.t 19) (.c (.val (.int .u64 7))), none, []⟩,
 ⟨(some 0), .mv (.t 20), none, []⟩]))))))
 (.seq (.reg [⟨(some 21), .mv (.t 3), none, []⟩,
 ⟨(some 22), .mv (.t 0), none, []⟩,
 ⟨(some 23), .cvt .u8 (.t 22), none, []⟩,
 ⟨(some 24), .bsl 5 1 [(.t 23)], none, []⟩,
 ⟨(some 25), .app 5 1 1 (.t 21) (.t 24), none, []⟩,
 ⟨(some 2), .mv (.t 25), none, []⟩])
 .ret))))),
[(.t 2)])
theorem irOk38 : convFn Tryd.prog Tryd.f38 = some ir38 := by kernel_rfl
/-- code.List -/
def ir29 : Nat × C × List RV := (26,
(.seq (.reg [⟨(some 2), .mv (.c (.val (.slice none 0 0))), none, []⟩])
 (.seq (.reg [⟨(some 7), .mv (.t 0), none, []⟩,
 ⟨(some 8), .len (.t 7), none, []⟩,
 ⟨(some 9), .call (.f 38) [(.t 8)], none, []⟩,
 ⟨(some 3), .mv (.t 9), none, []⟩])
 (.seq (.seq (.reg [⟨(some 10), .mv (.t 0), none, []⟩,
 ⟨(some 11), .len (.t 10), none, []⟩,
 ⟨(some 12), .mv (.c (.val (.int .i64 0))), none, []⟩])
 (.block 0 (.loop (.seq (.reg [⟨(some 13), .bin .lss (.t 12) (.t 11), none, []⟩])
 (.seq (.cond (.t 13) .skip
 (.exit 0))
 (.seq (.block 1 (.seq (.reg [⟨(some 14), .ixa 1 (.t 10) (.t 12), none, []⟩,
 ⟨(some 15), .ld1 (.t 14), none, []⟩,
 ⟨(some 5), .mv (.t 15), none, []⟩])
 (.seq (.reg [⟨(some 16), .mv (.t 5), none, []⟩,
 ⟨(some 17), .call (.f 38) [(.t 16)], none, []⟩,
 ⟨(some 6), .mv (.t 17), none, []⟩])
 (.seq (.seq (.reg [⟨(some 18), .mv (.t 6), none, []⟩,
 ⟨(some 19), .len (.t 18), none, []⟩,
 ⟨(some 20), .bin .eql (.t 19) (.c (.val (.int .i64 0))), none, []⟩])
 (.cond (.t 20) (.seq (.reg [⟨(some 2), .mv (.c (.val (.slice none 0 0))), none, []⟩])
 .ret)
 .skip))
 (.reg [⟨(some 21), .mv (.t 3), none, []⟩,
 ⟨(some 22), .mv (.t 6), none, []⟩,
 ⟨(some 23), .app 5 1 1 (.t 21) (.t 22), none, []⟩,
 ⟨(some 3), .mv (.t 23), none, []⟩])))))
 (.reg [⟨(some 24), .bin .add (.t 12) (.c (.val (.int .i64 1))), none, []⟩,
 ⟨(some 12), .mv (.t 24), none, []⟩])))))))
 (.seq (.reg [⟨(some 25), .mv (.t 3), none, []⟩,
 ⟨(some 2), .mv (.t 25), none, []⟩])
 .ret)))),
[(.t 2)])
theorem irOk29 : convFn Tryd.prog Tryd.f29 = some ir29 := by kernel_rfl

attribute [local go_sem] u8

theorem digs_lt (f : Nat) {m : Int} (h : m < 128) : digs f m = [m] := by
  cases f with
  | zero => rfl
  | succ f => rw [digs, if_neg (by omega)]
theorem or_more (m : Int) (h0 : 0 ≤ m) (h1 : m < 128) : orI .u8 m 128 = m + 128 := by
  obtain ⟨d, rfl⟩ := Int.eq_ofNat_of_zero_le h0
  have : ∀ d : Fin 128, orI .u8 (d.val : Int) 128 = (d.val : Int) + 128 := by decide
  exact this ⟨d, by omega⟩
theorem u8_in (m : Int) (h0 : 0 ≤ m) (h1 : m < 256) : IntKind.u8.wrap m = m := by
  simp [IntKind.wrap, IntKind.bits, IntKind.signed]; omega

def numS (p : Int × List Int) : St := ⟨[(0, .int p.1), (3, .sl 0 p.2.length 1 0 p.2.length)], [some (.dat 5 1 (byteR p.2))]⟩

set_option maxHeartbeats 1000000 in
theorem num_walk (n : Int) (hn : isNum n = true) (fin : St → Prop) (hfin : ∀ s : St, s.get 2 = .sl 0 (numB n).length 1 0 (numB n).length → s.obj 0 = .live (.dat 5 1 (byteR (numB n))) → fin s) :
    W Tryd.prog G fin [.c ir38.2.1] ⟨argEnv 0 [.int n], []⟩ := by
  have hn2 := of_decide_eq_true hn
  have hB : numB n = digs 8 n := by unfold numB; rw [if_pos hn]
  rw [hB] at hfin
  have h1 : decide (n < 0) = false := decide_eq_false (by omega)
  have h2 : decide (n > 9007199254740991) = false := decide_eq_false (by have := hn2.2; unfold most53 at this; omega)
  simp only [ir38, h1, h2, go_sem, ↓reduceIte, zA, zB, zC, zD, zE, zF, reduceCtorEq, zG, zH, zI, zJ, zK, zL, zM, zN, zO, zP]
  refine W_loopI [0, 3] [.t 3 5 1] (fun p : Int × List Int => p.2 ++ digs (8 - p.2.length) p.1 = digs 8 n ∧ 0 ≤ p.1 ∧ p.1 * 128 ^ p.2.length ≤ most53 ∧ p.2.length ≤ 7) (fun p => p.1.toNat) numS (n, []) ?_ ⟨rfl, hn2.1, by simpa using hn2.2, Nat.zero_le _⟩ ?_
  · simp only [numS, byteR, go_sem, ↓reduceIte, zA, zB, zC, zD, zE, zF, reduceCtorEq, zG, zH, zI, zJ, zK, zL, zM, zN, zO, zP]
  rintro ⟨m, pre⟩ ⟨hd, hm0, hmx, hk7⟩
  dsimp only at hd hm0 hmx hk7
  generalize hk : pre.length = k at *
  have hlen : (byteR pre).length = k := by simp [byteR, hk]
  simp only [numS, hk, go_sem, ↓reduceIte, zA, zB, zC, zD, zE, zF, reduceCtorEq, zG, zH, zI, zJ, zK, zL, zM, zN, zO, zP]
  by_cases hm : 128 ≤ m
  case neg =>
    rw [digs_lt _ (by omega)] at hd
    have hlk : (digs 8 n).length = k + 1 := by rw [← hd]; simp [hk]
    have h7 : (k = (byteR pre).length ∧ (byteR pre ++ [[DV.val (Value.int IntKind.u8 m)]]).length * 1 ≤ 70368744177664) := ⟨hlen.symm, by simp [hlen]; omega⟩
    simp only [decide_eq_false (show ¬ m ≥ 128 by omega), u8_in m hm0 (by omega), go_sem, ↓reduceIte, zA, zB, zC, zD, zE, zF, reduceCtorEq, zG, zH, zI, zJ, zK, zL, zM, zN, zO, zP]
    rw [if_pos h7]
    simp only [hlen, go_sem, ↓reduceIte, zA, zB, zC, zD, zE, zF, reduceCtorEq, zG, zH, zI, zJ, zK, zL, zM, zN, zO, zP]
    refine hfin _ ?_ ?_
    · rw [hlk]; rfl
    · simp [← hd, byteR, St.obj, objL, u8]
  have hk6 : k ≤ 6 := by
    rcases Nat.lt_or_ge k 7 with h | h
    · omega
    · exfalso
      have h1 : (128 : Int) ^ 7 ≤ 128 ^ k := by exact_mod_cast Nat.pow_le_pow_right (by decide) h
      have h2 : 128 * (128 : Int) ^ 7 ≤ m * 128 ^ k := Int.mul_le_mul hm h1 (by decide) hm0
      unfold most53 at hmx
      omega
  have hr0 : 0 ≤ m % 128 := Int.emod_nonneg _ (by decide)
  have hr1 : m % 128 < 128 := Int.emod_lt_of_pos _ (by decide)
  have hrem : m.tmod 128 = m % 128 := Int.tmod_eq_emod_of_nonneg hm0
  have hshr : shrI .i64 m 7 = m / 128 := shr_nat m 7 (by decide)
  have h7 : (k = (byteR pre).length ∧ (byteR pre ++ [[DV.val (Value.int IntKind.u8 (m % 128 + 128))]]).length * 1 ≤ 70368744177664) := ⟨hlen.symm, by simp [hlen]; omega⟩
  simp only [decide_eq_true (show m ≥ 128 by omega), hrem, u8_in (m % 128) hr0 (by omega), or_more _ hr0 hr1, hshr, ne_eq, not_false_eq_true, show ((128 : Int) = 0) = False from by decide, go_sem, ↓reduceIte, zA, zB, zC, zD, zE, zF, reduceCtorEq, zG, zH, zI, zJ, zK, zL, zM, zN, zO, zP]
  rw [if_pos h7]
  simp only [hlen, go_sem, ↓reduceIte, zA, zB, zC, zD, zE, zF, reduceCtorEq, zG, zH, zI, zJ, zK, zL, zM, zN, zO, zP]
  have hp8 : (0 : Int) < 128 ^ k := Int.pow_pos (by decide)
  refine W_lpI (m / 128, pre ++ [m % 128 + 128]) ?_ ?_ ⟨?_, Int.ediv_nonneg hm0 (by decide), ?_, by simp [hk]; omega⟩ (by dsimp only; omega)
  · simp only [go_sem, ↓reduceIte, zA, zB, zC, zD, zE, zF, reduceCtorEq, zG, zH, zI, zJ, zK, zL, zM, zN, zO, zP]
  · simp only [numS, byteR, List.map_append, List.length_append, hk, hshr, go_sem, ↓reduceIte, zA, zB, zC, zD, zE, zF, reduceCtorEq, zG, zH, zI, zJ, zK, zL, zM, zN, zO, zP]
  · dsimp only
    rw [← hd, show 8 - k = (8 - (k + 1)) + 1 by omega, digs, if_pos hm]
    simp [hk]
  · dsimp only
    have e1 : (pre ++ [m % 128 + 128]).length = k + 1 := by simp [hk]
    have e2 : m / 128 * 128 ≤ m := Int.ediv_mul_le m (by decide)
    have e3 : m / 128 * 128 * 128 ^ k ≤ m * 128 ^ k := Int.mul_le_mul_of_nonneg_right e2 (Int.le_of_lt hp8)
    rw [e1, Int.pow_succ, Int.mul_comm ((128 : Int) ^ k) 128, ← Int.mul_assoc]
    omega

theorem digs_len : ∀ (f : Nat) (m : Int), 1 ≤ (digs f m).length ∧ (digs f m).length ≤ f + 1
  | 0, m => by simp [digs]
  | f + 1, m => by
    unfold digs
    split
    · have := digs_len f (m / 128); simp; omega
    · simp
theorem numB_pos {n : Int} (h : isNum n = true) : 1 ≤ (numB n).length := by unfold numB; rw [if_pos h]; exact (digs_len 8 n).1
theorem numB_le (n : Int) : (numB n).length ≤ 9 := by
  unfold numB
  split
  · exact (digs_len 8 n).2
  · simp
theorem numO_tri (n : Int) (hn : isNum n = true) : Tri Tryd.prog G 38 [.int n] [] (.sl 0 (numB n).length 1 0 (numB n).length) [.dat 5 1 (byteR (numB n))] := by
  refine tri_W Tryd.func38 (by decide) irOk38 (Nat.le_of_ble_eq_true rfl) ?_
  exact num_walk n hn _ (fun s h1 h2 => BackO (o := 0) [] (by simp [RVs.of, RV.of, adopt, h1, ir38]) h2)
attribute [local go_sem] bytesV
theorem num_tri (n : Int) : Tri Tryd.prog G 38 [.int n] [] (bytesV (numB n)) [] := by
  refine tri_W Tryd.func38 (by decide) irOk38 (Nat.le_of_ble_eq_true rfl) ?_
  by_cases hn : isNum n = true
  · refine num_walk n hn _ (fun s h1 h2 => BackZ [0] (vs := [.sl 0 (numB n).length 1 0 (numB n).length]) (by simp [RVs.of, RV.of, h1, ir38]) (fun z hz => ?_) ?_)
    · simp at hz; subst hz; exact ⟨_, _, _, .inl h2⟩
    · simp [oneOr, argR, rowsAt, h2, byteR, bytesV, List.take_of_length_le]
  · have hB : numB n = [] := by unfold numB; rw [if_neg hn]
    rw [hB]
    by_cases h0 : n < 0
    · simp only [ir38, decide_eq_true h0, go_sem, ↓reduceIte, zA, zB, zC, zD, zE, zF, reduceCtorEq, zG, zH, zI, zJ, zK, zL, zM, zN, zO, zP]
      exact Back0 rfl (by simp [oneOr, argR, bytesV, byteR, St.get, getE])
    · have h2 : n > 9007199254740991 := by
        unfold isNum most53 at hn
        simp at hn; omega
      simp only [ir38, decide_eq_false h0, decide_eq_true h2, go_sem, ↓reduceIte, zA, zB, zC, zD, zE, zF, reduceCtorEq, zG, zH, zI, zJ, zK, zL, zM, zN, zO, zP]
      exact Back0 rfl (by simp [oneOr, argR, bytesV, byteR, St.get, getE])

def liS (l : List Int) (i : Nat) : St := ⟨[(3, .sl 0 (numB l.length ++ (l.take i).flatMap numB).length 1 0 (numB l.length ++ (l.take i).flatMap numB).length), (10, .d (.lst 1 (numR l))), (11, .int l.length), (12, .int i)], [some (.dat 5 1 (byteR (numB l.length ++ (l.take i).flatMap numB)))]⟩
attribute [local go_sem] numR
theorem flat_le (l : List Int) : (l.flatMap numB).length ≤ 9 * l.length := by
  induction l with
  | nil => simp
  | cons x l ih => rw [List.flatMap_cons, List.length_append, List.length_cons]; have := numB_le x; omega
set_option maxHeartbeats 1000000 in
theorem list_tri (l : List Int) (hl : l.length ≤ 1000000) : Tri Tryd.prog G 29 [.d (.lst 1 (numR l))] [] (bytesV (listB l)) [] := by
  have hlr : (numR l).length = l.length := by simp [numR]
  have hnl : isNum (l.length : Int) = true := by unfold isNum most53; simp; omega
  refine tri_W Tryd.func29 (by decide) irOk29 (Nat.le_of_ble_eq_true rfl) ?_
  simp only [ir29, hlr, go_sem, ↓reduceIte, zA, zB, zC, zD, zE, zF, reduceCtorEq, zG, zH, zI, zJ, zK, zL, zM, zN, zO, zP]
  refine W_calln (numO_tri (l.length : Int) hnl) rfl rfl rfl ?_
  simp only [hlr, go_sem, ↓reduceIte, zA, zB, zC, zD, zE, zF, reduceCtorEq, zG, zH, zI, zJ, zK, zL, zM, zN, zO, zP]
  refine W_loopI [3, 10, 11, 12] [] (fun i : Nat => i ≤ l.length ∧ (l.take i).all isNum = true) (fun i => l.length - i) (liS l) 0 ?_ ⟨Nat.zero_le _, by simp⟩ ?_
  · simp only [liS, List.take_zero, List.flatMap_nil, Int.natCast_zero, go_sem, ↓reduceIte, zA, zB, zC, zD, zE, zF, reduceCtorEq, zG, zH, zI, zJ, zK, zL, zM, zN, zO, zP]
  rintro i ⟨hi, hall⟩
  generalize hpre : numB l.length ++ (l.take i).flatMap numB = pre at *
  have hpl : pre.length ≤ 9000009 := by
    rw [← hpre, List.length_append]
    have h1 := flat_le (l.take i)
    have h2 := numB_le (l.length : Int)
    rw [List.length_take] at h1
    omega
  have hprl : (byteR pre).length = pre.length := by simp [byteR]
  simp only [liS, hpre, go_sem, ↓reduceIte, zA, zB, zC, zD, zE, zF, reduceCtorEq, zG, zH, zI, zJ, zK, zL, zM, zN, zO, zP]
  cases hlt : decide ((i : Int) < (l.length : Int)) with
  | false =>
    have hi2 : i = l.length := by have := of_decide_eq_false hlt; omega
    rw [hi2, List.take_length] at hpre hall
    have hB : listB l = pre := by unfold listB; rw [if_pos hall, hpre]
    simp only [go_sem, ↓reduceIte, zA, zB, zC, zD, zE, zF, reduceCtorEq, zG, zH, zI, zJ, zK, zL, zM, zN, zO, zP]
    rw [hB]
    exact BackZ [0] rfl (by simp [St.obj, objL]) (by simp [St.obj, objL, oneOr, St.get, getE, argR, rowsAt, hprl, byteR, List.take_of_length_le])
  | true =>
  have hi2 : i < l.length := by have := of_decide_eq_true hlt; omega
  have hg := get_mapD (f := fun n : Int => [i64 n]) 0 hi2
  have hm : l.getD i 0 ∈ l := by simp [List.getD, hi2]
  have htk : l.take (i + 1) = l.take i ++ [l.getD i 0] := by rw [List.take_add_one]; simp [List.getD, hi2]
  generalize l.getD i 0 = x at *
  simp only [i64] at hg
  simp only [hg, go_sem, ↓reduceIte, zA, zB, zC, zD, zE, zF, reduceCtorEq, zG, zH, zI, zJ, zK, zL, zM, zN, zO, zP]
  refine W_calld (num_tri x) rfl rfl rfl rfl ?_; simp only [go_sem, ↓reduceIte, zA, zB, zC, zD, zE, zF, reduceCtorEq, zG, zH, zI, zJ, zK, zL, zM, zN, zO, zP]
  have hxl : (byteR (numB x)).length = (numB x).length := by simp [byteR]
  by_cases hx : isNum x = true
  case neg =>
    have hB : numB x = [] := by unfold numB; rw [if_neg hx]
    have hL : listB l = [] := by
      unfold listB; rw [if_neg]; intro h; rw [List.all_eq_true] at h; exact hx (h x hm)
    have e0 : ((((byteR (numB x)).length : Nat) : Int) == 0) = true := by rw [hB]; rfl
    simp only [e0, hL, go_sem, ↓reduceIte, zA, zB, zC, zD, zE, zF, reduceCtorEq, zG, zH, zI, zJ, zK, zL, zM, zN, zO, zP]
    exact Back0 rfl (by simp [oneOr, argR, bytesV, byteR, St.get, getE])
  have hp := numB_pos hx
  have hq := numB_le x
  have e0 : ((((byteR (numB x)).length : Nat) : Int) == 0) = false := by rw [hxl]; exact beq_eq_false_iff_ne.2 (by omega)
  have happ : (byteR pre ++ byteR (numB x)).length * 1 ≤ 70368744177664 := by rw [List.length_append, hprl, hxl]; omega
  simp only [e0, go_sem, ↓reduceIte, zA, zB, zC, zD, zE, zF, reduceCtorEq, zG, zH, zI, zJ, zK, zL, zM, zN, zO, zP]
  rw [if_pos ⟨hprl.symm, happ⟩]
  simp only [hprl, hxl, go_sem, ↓reduceIte, zA, zB, zC, zD, zE, zF, reduceCtorEq, zG, zH, zI, zJ, zK, zL, zM, zN, zO, zP]
  have hnew : numB l.length ++ (l.take (i + 1)).flatMap numB = pre ++ numB x := by rw [htk, List.flatMap_append, ← List.append_assoc, hpre]; simp
  refine W_lpI (i + 1) ?_ ?_ ⟨by omega, by rw [htk, List.all_append, hall]; simp [hx]⟩ (by omega)
  · simp only [go_sem, ↓reduceIte, zA, zB, zC, zD, zE, zF, reduceCtorEq, zG, zH, zI, zJ, zK, zL, zM, zN, zO, zP]
  · simp only [liS, hnew, byteR, List.map_append, List.length_append, wrap_succ (show i < 9223372036854775807 by omega), go_sem, ↓reduceIte, zA, zB, zC, zD, zE, zF, reduceCtorEq, zG, zH, zI, zJ, zK, zL, zM, zN, zO, zP]
end Dv
