/- code: a number as bytes, a list as bytes. -/
import Derived.Test.YtkalnfkokkjliaaGreatDoorI0
set_option linter.unusedVariables false
set_option linter.unusedSimpArgs false
namespace Dv
open Go Go.Proofs
variable {G : Nat → Option (List DV)}

def ir230 : Nat × C × List RV := (26,
(.seq (.reg [qo 2 (.mv (.c (.val (.slice none 0 0))))])
 (.seq (.seq (.reg [qm 4 0,
 qo 5 (.bin .lss (.t 4) (qk 0)),
 qm 6 5,
 qg 7 (.mv (.t 0)) 6 false,
 qg 8 (.bin .gtr (.t 7) (qk 9007199254740991)) 6 false,
 qo 9 (.pick (.t 6) qt (.t 8))])
 (.cond (.t 9) (.seq (.reg [qo 2 (.mv (.c (.val (.slice none 0 0))))])
 .ret)
 .skip))
 (.seq (.reg [qo 3 (.mv (.c (.val (.slice none 0 0))))])
 (.seq (.block 0 (.loop (.seq (.seq (.reg [qm 10 0,
 qo 11 (.bin .geq (.t 10) (qk 128))])
 (.cond (.t 11) .skip
 (.exit 0)))
 (.block 1 (.seq (.reg [qm 12 3,
 qm 13 0,
 qo 14 (.bin .rem (.t 13) (qk 128)),
 qo 15 (.cvt .u8 (.t 14)),
 qo 16 (.bin .or (.t 15) (.c (.val (.int .u8 128)))),
 qo 17 (.bsl 5 1 [(.t 16)]),
 qo 18 (.app 5 1 1 (.t 12) (.t 17)),
 qm 3 18])
 (.reg [qm 19 0,
 qo 20 (.bin .shr (.t 19) (.c (.val (.int .u64 7)))),
 qm 0 20]))))))
 (.seq (.reg [qm 21 3,
 qm 22 0,
 qo 23 (.cvt .u8 (.t 22)),
 qo 24 (.bsl 5 1 [(.t 23)]),
 qo 25 (.app 5 1 1 (.t 21) (.t 24)),
 qm 2 25])
 .ret))))),
[(.t 2)])
theorem irOk230 : convFn Tryz.prog Tryz.f230 = some ir230 := by kernel_rfl
def ir251 : Nat × C × List RV := (26,
(.seq (.reg [qo 2 (.mv (.c (.val (.slice none 0 0))))])
 (.seq (.reg [qm 7 0,
 qo 8 (.len (.t 7)),
 qo 9 (.call (.f 230) [(.t 8)]),
 qm 3 9])
 (.seq (.seq (.reg [qm 10 0,
 qo 11 (.len (.t 10)),
 qo 12 (.mv (qk 0))])
 (.block 0 (.loop (.seq (.reg [qo 13 (.bin .lss (.t 12) (.t 11))])
 (.seq (.cond (.t 13) .skip
 (.exit 0))
 (.seq (.block 1 (.seq (.reg [qo 14 (.ixa 1 (.t 10) (.t 12)),
 qo 15 (.ld1 (.t 14)),
 qm 5 15])
 (.seq (.reg [qm 16 5,
 qo 17 (.call (.f 230) [(.t 16)]),
 qm 6 17])
 (.seq (.seq (.reg [qm 18 6,
 qo 19 (.len (.t 18)),
 qo 20 (.bin .eql (.t 19) (qk 0))])
 (.cond (.t 20) (.seq (.reg [qo 2 (.mv (.c (.val (.slice none 0 0))))])
 .ret)
 .skip))
 (.reg [qm 21 3,
 qm 22 6,
 qo 23 (.app 5 1 1 (.t 21) (.t 22)),
 qm 3 23])))))
 (.reg [qo 24 (.bin .add (.t 12) (qk 1)),
 qm 12 24])))))))
 (.seq (.reg [qm 25 3,
 qm 2 25])
 .ret)))),
[(.t 2)])
theorem irOk251 : convFn Tryz.prog Tryz.f251 = some ir251 := by kernel_rfl

attribute [local go_sem] u8

theorem digs_lt (f : Nat) {m : Int} (h : m < 128) : digs f m = [m] := by
  cases f with
  | zero => rfl
  | succ f => rw [digs, if_neg (by omega)]
theorem or_more (m : Int) (h0 : 0 ≤ m) (h1 : m < 128) : orI .u8 m 128 = m + 128 := by
  obtain ⟨d, rfl⟩ := Int.eq_ofNat_of_zero_le h0
  have : ∀ d : Fin 128, orI .u8 (d.val : Int) 128 = (d.val : Int) + 128 := by decide
  exact this ⟨d, by omega⟩
theorem u8_in (m : Int) (h0 : 0 ≤ m) (h1 : m < 256) : IntKind.u8.wrap m = m := by
  simp [IntKind.wrap,IntKind.bits,IntKind.signed]; omega

def numS (p : Int × List Int) : St := ⟨[(0, .int p.1), (3, .sl 0 p.2.length 1 0 p.2.length)], [some (.dat 5 1 (byteR p.2))]⟩

set_option maxHeartbeats 1000000 in
theorem num_walk (n : Int) (hn : isNum n = true) (fin : St → Prop) (hfin : ∀ s : St, s.get 2 = .sl 0 (numB n).length 1 0 (numB n).length → s.obj 0 = .live (.dat 5 1 (byteR (numB n))) → fin s) :
    W Tryz.prog G fin [.c ir230.2.1] ⟨argEnv 0 [.int n], []⟩ := by
  have hn2 := of_decide_eq_true hn
  have hB : numB n = digs 8 n := by unfold numB; rw [if_pos hn]
  rw [hB] at hfin
  have h1 : decide (n < 0) = false := decide_eq_false (by omega)
  have h2 : decide (n > 9007199254740991) = false := decide_eq_false (by have := hn2.2; unfold most53 at this; omega)
  simp only [ir230,h1,h2,go_sem,simprocAttr]
  refine W_loopI [0, 3] [.t 3 5 1] (fun p : Int × List Int => p.2 ++ digs (8 - p.2.length) p.1 = digs 8 n ∧ 0 ≤ p.1 ∧ p.1 * 128 ^ p.2.length ≤ most53 ∧ p.2.length ≤ 7) (fun p => p.1.toNat) numS (n, []) ?_ ⟨rfl, hn2.1, by simpa using hn2.2, Nat.zero_le _⟩ ?_
  · simp only [numS,byteR,go_sem,simprocAttr]
  rintro ⟨m, pre⟩ ⟨hd, hm0, hmx, hk7⟩
  dsimp only at hd hm0 hmx hk7
  generalize hk : pre.length = k at *
  have hlen : (byteR pre).length = k := by simp [byteR,hk]
  simp only [numS,hk,go_sem,simprocAttr]
  by_cases hm : 128 ≤ m
  case neg =>
    rw [digs_lt _ (by omega)] at hd
    have hlk : (digs 8 n).length = k + 1 := by rw [← hd]; simp [hk]
    have h7 : (k = (byteR pre).length ∧ (byteR pre ++ [[DV.val (Value.int IntKind.u8 m)]]).length * 1 ≤ 70368744177664) := ⟨hlen.symm, by simp [hlen]; omega⟩
    simp only [decide_eq_false (show ¬ m ≥ 128 by omega),u8_in m hm0 (by omega),go_sem,simprocAttr]
    rw [if_pos h7]
    simp only [hlen,go_sem,simprocAttr]
    refine hfin _ ?_ ?_
    · rw [hlk]; rfl
    · simp [← hd,byteR,St.obj,objL,u8]
  have hk6 : k ≤ 6 := by
    rcases Nat.lt_or_ge k 7 with h | h
    · omega
    · exfalso
      have h1 : (128 : Int) ^ 7 ≤ 128 ^ k := by exact_mod_cast Nat.pow_le_pow_right (by decide) h
      have h2 : 128 * (128 : Int) ^ 7 ≤ m * 128 ^ k := Int.mul_le_mul hm h1 (by decide) hm0
      unfold most53 at hmx
      omega
  have hr0 : 0 ≤ m % 128 := Int.emod_nonneg _ (by decide)
  have hr1 : m % 128 < 128 := Int.emod_lt_of_pos _ (by decide)
  have hrem : m.tmod 128 = m % 128 := Int.tmod_eq_emod_of_nonneg hm0
  have hshr : shrI .i64 m 7 = m / 128 := shr_nat m 7 (by decide)
  have h7 : (k = (byteR pre).length ∧ (byteR pre ++ [[DV.val (Value.int IntKind.u8 (m % 128 + 128))]]).length * 1 ≤ 70368744177664) := ⟨hlen.symm, by simp [hlen]; omega⟩
  simp only [decide_eq_true (show m ≥ 128 by omega),hrem,u8_in (m % 128) hr0 (by omega),or_more _ hr0 hr1,hshr,ne_eq,not_false_eq_true,show ((128 : Int) = 0) = False from by decide,go_sem,simprocAttr]
  rw [if_pos h7]
  simp only [hlen,go_sem,simprocAttr]
  have hp8 : (0 : Int) < 128 ^ k := Int.pow_pos (by decide)
  refine W_lpI (m / 128, pre ++ [m % 128 + 128]) ?_ ?_ ⟨?_, Int.ediv_nonneg hm0 (by decide), ?_, by simp [hk]; omega⟩ (by dsimp only; omega)
  · simp only [go_sem,simprocAttr]
  · simp only [numS,byteR,List.map_append,List.length_append,hk,hshr,go_sem,simprocAttr]
  · dsimp only
    rw [← hd, show 8 - k = (8 - (k + 1)) + 1 by omega, digs, if_pos hm]
    simp [hk]
  · dsimp only
    have e1 : (pre ++ [m % 128 + 128]).length = k + 1 := by simp [hk]
    have e2 : m / 128 * 128 ≤ m := Int.ediv_mul_le m (by decide)
    have e3 : m / 128 * 128 * 128 ^ k ≤ m * 128 ^ k := Int.mul_le_mul_of_nonneg_right e2 (Int.le_of_lt hp8)
    rw [e1, Int.pow_succ, Int.mul_comm ((128 : Int) ^ k) 128, ← Int.mul_assoc]
    omega

theorem digs_len : ∀ (f : Nat) (m : Int), 1 ≤ (digs f m).length ∧ (digs f m).length ≤ f + 1
  | 0, m => by simp [digs]
  | f + 1, m => by
    unfold digs
    split
    · have := digs_len f (m / 128); simp; omega
    · simp
theorem numB_pos {n : Int} (h : isNum n = true) : 1 ≤ (numB n).length := by unfold numB; rw [if_pos h]; exact (digs_len 8 n).1
theorem numB_le (n : Int) : (numB n).length ≤ 9 := by
  unfold numB
  split
  · exact (digs_len 8 n).2
  · simp
theorem numO_tri (n : Int) (hn : isNum n = true) : Tri Tryz.prog G 230 [.int n] [] (.sl 0 (numB n).length 1 0 (numB n).length) [.dat 5 1 (byteR (numB n))] := by
  refine tri_W Tryz.func230 (by decide) irOk230 (Nat.le_of_ble_eq_true rfl) ?_
  exact num_walk n hn _ (fun s h1 h2 => BackO (o := 0) [] (by simp [RVs.of,RV.of,adopt,h1,ir230]) h2)
attribute [local go_sem] bytesV
theorem num_tri (n : Int) : Tri Tryz.prog G 230 [.int n] [] (bytesV (numB n)) [] := by
  refine tri_W Tryz.func230 (by decide) irOk230 (Nat.le_of_ble_eq_true rfl) ?_
  by_cases hn : isNum n = true
  · refine num_walk n hn _ (fun s h1 h2 => BackZ [0] (vs := [.sl 0 (numB n).length 1 0 (numB n).length]) (by simp [RVs.of,RV.of,h1,ir230]) (fun z hz => ?_) ?_)
    · simp at hz; subst hz; exact ⟨_, _, _, .inl h2⟩
    · simp [oneOr,argR,rowsAt,h2,byteR,bytesV,List.take_of_length_le]
  · have hB : numB n = [] := by unfold numB; rw [if_neg hn]
    rw [hB]
    by_cases h0 : n < 0
    · simp only [ir230,decide_eq_true h0,go_sem,simprocAttr]
      exact Back0 rfl (by simp [oneOr,argR,bytesV,byteR,St.get,getE])
    · have h2 : n > 9007199254740991 := by
        unfold isNum most53 at hn
        simp at hn; omega
      simp only [ir230,decide_eq_false h0,decide_eq_true h2,go_sem,simprocAttr]
      exact Back0 rfl (by simp [oneOr,argR,bytesV,byteR,St.get,getE])

def liS (l : List Int) (i : Nat) : St := ⟨[(3, .sl 0 (numB l.length ++ (l.take i).flatMap numB).length 1 0 (numB l.length ++ (l.take i).flatMap numB).length), (10, .d (.lst 1 (numR l))), (11, .int l.length), (12, .int i)], [some (.dat 5 1 (byteR (numB l.length ++ (l.take i).flatMap numB)))]⟩
attribute [local go_sem] numR
theorem flat_le (l : List Int) : (l.flatMap numB).length ≤ 9 * l.length := by
  induction l with
  | nil => simp
  | cons x l ih => rw [List.flatMap_cons, List.length_append, List.length_cons]; have := numB_le x; omega
set_option maxHeartbeats 1000000 in
theorem list_tri (l : List Int) (hl : l.length ≤ 1000000) : Tri Tryz.prog G 251 [.d (.lst 1 (numR l))] [] (bytesV (listB l)) [] := by
  have hlr : (numR l).length = l.length := by simp [numR]
  have hnl : isNum (l.length : Int) = true := by unfold isNum most53; simp; omega
  refine tri_W Tryz.func251 (by decide) irOk251 (Nat.le_of_ble_eq_true rfl) ?_
  simp only [ir251,hlr,go_sem,simprocAttr]
  refine W_calln (numO_tri (l.length : Int) hnl) rfl rfl rfl ?_
  simp only [hlr,go_sem,simprocAttr]
  refine W_loopI [3, 10, 11, 12] [] (fun i : Nat => i ≤ l.length ∧ (l.take i).all isNum = true) (fun i => l.length - i) (liS l) 0 ?_ ⟨Nat.zero_le _, by simp⟩ ?_
  · simp only [liS,List.take_zero,List.flatMap_nil,Int.natCast_zero,go_sem,simprocAttr]
  rintro i ⟨hi, hall⟩
  generalize hpre : numB l.length ++ (l.take i).flatMap numB = pre at *
  have hpl : pre.length ≤ 9000009 := by
    rw [← hpre, List.length_append]
    have h1 := flat_le (l.take i)
    have h2 := numB_le (l.length : Int)
    rw [List.length_take] at h1
    omega
  have hprl : (byteR pre).length = pre.length := by simp [byteR]
  simp only [liS,hpre,go_sem,simprocAttr]
  cases hlt : decide ((i : Int) < (l.length : Int)) with
  | false =>
    have hi2 : i = l.length := by have := of_decide_eq_false hlt; omega
    rw [hi2, List.take_length] at hpre hall
    have hB : listB l = pre := by unfold listB; rw [if_pos hall, hpre]
    simp only [go_sem,simprocAttr]
    rw [hB]
    exact BackZ [0] rfl (by simp [St.obj,objL]) (by simp [St.obj,objL,oneOr,St.get,getE,argR,rowsAt,hprl,byteR,List.take_of_length_le])
  | true =>
  have hi2 : i < l.length := by have := of_decide_eq_true hlt; omega
  have hg := get_mapD (f := fun n : Int => [i64 n]) 0 hi2
  have hm : l.getD i 0 ∈ l := by simp [List.getD,hi2]
  have htk : l.take (i + 1) = l.take i ++ [l.getD i 0] := by rw [List.take_add_one]; simp [List.getD,hi2]
  generalize l.getD i 0 = x at *
  simp only [i64] at hg
  simp only [hg,go_sem,simprocAttr]
  refine W_calld (num_tri x) rfl rfl rfl rfl ?_; simp only [go_sem,simprocAttr]
  have hxl : (byteR (numB x)).length = (numB x).length := by simp [byteR]
  by_cases hx : isNum x = true
  case neg =>
    have hB : numB x = [] := by unfold numB; rw [if_neg hx]
    have hL : listB l = [] := by
      unfold listB; rw [if_neg]; intro h; rw [List.all_eq_true] at h; exact hx (h x hm)
    have e0 : ((((byteR (numB x)).length : Nat) : Int) == 0) = true := by rw [hB]; rfl
    simp only [e0,hL,go_sem,simprocAttr]
    exact Back0 rfl (by simp [oneOr,argR,bytesV,byteR,St.get,getE])
  have hp := numB_pos hx
  have hq := numB_le x
  have e0 : ((((byteR (numB x)).length : Nat) : Int) == 0) = false := by rw [hxl]; exact beq_eq_false_iff_ne.2 (by omega)
  have happ : (byteR pre ++ byteR (numB x)).length * 1 ≤ 70368744177664 := by rw [List.length_append, hprl, hxl]; omega
  simp only [e0,go_sem,simprocAttr]
  rw [if_pos ⟨hprl.symm, happ⟩]
  simp only [hprl,hxl,go_sem,simprocAttr]
  have hnew : numB l.length ++ (l.take (i + 1)).flatMap numB = pre ++ numB x := by rw [htk, List.flatMap_append, ← List.append_assoc, hpre]; simp
  refine W_lpI (i + 1) ?_ ?_ ⟨by omega, by rw [htk, List.all_append, hall]; simp [hx]⟩ (by omega)
  · simp only [go_sem,simprocAttr]
  · simp only [liS,hnew,byteR,List.map_append,List.length_append,wrap_succ (show i < 9223372036854775807 by omega),go_sem,simprocAttr]
end Dv
