/- Plain: words split, numbers told and read. -/
import Derived.Test.YtcfcigjkijkhdaaDoorO7
import Derived.Test.YtcfcigjkijkhdaaDoorO9
set_option linter.unusedVariables false
set_option linter.unusedSimpArgs false
namespace Dv
open Go Go.Proofs

def splitL (c : UInt8) : List UInt8 → List (List UInt8)
  | [] => [[]]
  | x :: r => if x = c then [] :: splitL c r else match splitL c r with
    | [] => [[x]]
    | w :: ws => (x :: w) :: ws
theorem splitL_ne (c : UInt8) : ∀ s : List UInt8, splitL c s ≠ []
  | [] => by simp [splitL]
  | x :: r => by
    unfold splitL
    split
    · simp
    · split <;> simp
theorem splitK_eq (c : UInt8) : ∀ s : List UInt8, Lib.splitK [c] 0 (Lib.count s [c]) s = splitL c s
  | [] => by rw [Lib.count_one]; rfl
  | b :: l => by
    have ih := splitK_eq c l
    by_cases h : b = c
    · subst h
      rw [Lib.count_cons_eq, Nat.add_comm]
      have hix : Lib.index (b :: l) [b] = 0 := by rw [Lib.index]; simp [List.isPrefixOf]
      have hne : ¬ (Lib.index (b :: l) [b] == -1) = true := by rw [hix]; decide
      unfold Lib.splitK splitL
      rw [if_neg hne, if_pos rfl, hix]
      simp only [Int.toNat_zero, Nat.zero_add, List.take_zero, List.length_cons, List.length_nil, List.drop_succ_cons, List.drop_zero]
      rw [ih]
    · rw [Lib.count_cons_ne b c l h]
      unfold splitL
      rw [if_neg h, ← ih]
      have hp : ([c] : List UInt8).isPrefixOf (b :: l) = false := by simp [List.isPrefixOf, Ne.symm h]
      have hix : Lib.index (b :: l) [c] = if Lib.index l [c] == -1 then -1 else Lib.index l [c] + 1 := by rw [Lib.index, hp]; simp
      cases hk : Lib.count l [c] with
      | zero => rfl
      | succ k =>
        have hm : Lib.index l [c] ≠ -1 := fun e => by rw [Lib.count_miss e] at hk; cases hk
        have hge := Lib.index_ge l [c]
        have hm2 : ¬ (Lib.index l [c] == -1) = true := fun e => hm (beq_iff_eq.1 e)
        have hix2 : Lib.index (b :: l) [c] = Lib.index l [c] + 1 := by rw [hix, if_neg hm2]
        have hm3 : ¬ (Lib.index (b :: l) [c] == -1) = true := fun e => by have := beq_iff_eq.1 e; omega
        have ht : (Lib.index (b :: l) [c]).toNat = (Lib.index l [c]).toNat + 1 := by omega
        unfold Lib.splitK
        rw [if_neg hm2, if_neg hm3, ht]
        simp only [Nat.add_zero, List.take_succ_cons, List.length_cons, List.length_nil, Nat.zero_add, List.drop_succ_cons]
theorem words_eq (s : ByteArray) : (wordsO s).map (·.data.toList) = splitL 32 s.data.toList := by
  unfold wordsO
  rw [Lib.splitB_data, ← splitK_eq]
  rfl
theorem splitL_join (c : UInt8) : ∀ (s : List UInt8) (w : List UInt8) (ws : List (List UInt8)), splitL c s = w :: ws → s = w ++ ws.flatMap (fun x => c :: x)
  | [], w, ws, h => by
    simp only [splitL, List.cons.injEq] at h
    obtain ⟨rfl, rfl⟩ := h
    rfl
  | x :: r, w, ws, h => by
    unfold splitL at h
    obtain ⟨w2, ws2, h2⟩ := List.exists_cons_of_ne_nil (splitL_ne c r)
    have ih := splitL_join c r w2 ws2 h2
    rw [h2] at h
    dsimp only at h
    split at h
    · rename_i e
      simp only [List.cons.injEq] at h
      obtain ⟨rfl, rfl⟩ := h
      rw [e, List.nil_append, List.flatMap_cons, List.cons_append, ← ih]
    · simp only [List.cons.injEq] at h
      obtain ⟨rfl, rfl⟩ := h
      rw [List.cons_append, ← ih]
theorem splitL_put (c : UInt8) : ∀ (w : List UInt8) (t : List UInt8), c ∉ w → splitL c (w ++ c :: t) = w :: splitL c t
  | [], t, _ => by simp [splitL]
  | x :: w, t, h => by
    simp only [List.mem_cons, not_or] at h
    have ih := splitL_put c w t h.2
    rw [List.cons_append, splitL, if_neg (Ne.symm h.1), ih]
theorem splitL_one (c : UInt8) : ∀ (w : List UInt8), c ∉ w → splitL c w = [w]
  | [], _ => rfl
  | x :: w, h => by
    simp only [List.mem_cons, not_or] at h
    rw [splitL, if_neg (Ne.symm h.1), splitL_one c w h.2]
theorem splitL_words (c : UInt8) : ∀ (ws : List (List UInt8)) (w : List UInt8), c ∉ w → (∀ x ∈ ws, c ∉ x) → splitL c (w ++ ws.flatMap (fun x => c :: x)) = w :: ws
  | [], w, h, _ => by rw [List.flatMap_nil, List.append_nil, splitL_one c w h]
  | x :: ws, w, h, hs => by
    rw [List.flatMap_cons, List.cons_append, splitL_put c w _ h, splitL_words c ws x (hs x (List.mem_cons_self)) (fun y hy => hs y (List.mem_cons_of_mem _ hy))]

/-! digits -/
def allDig (l : List UInt8) : Prop := ∀ b ∈ l, 48 ≤ b.toNat ∧ b.toNat ≤ 57
def valN : List UInt8 → Nat → Nat
  | [], n => n
  | b :: l, n => valN l (10 * n + (b.toNat - 48))
theorem valN_app : ∀ (l m : List UInt8) (n : Nat), valN (l ++ m) n = valN m (valN l n)
  | [], m, n => rfl
  | b :: l, m, n => by rw [List.cons_append, valN, valN, valN_app l m]
theorem numGo_ok : ∀ (l : List UInt8) (n : Nat), allDig l → numGo l (n : Int) = (valN l n : Int)
  | [], n, _ => rfl
  | b :: l, n, h => by
    have hb := h b (List.mem_cons_self)
    unfold numGo valN
    rw [if_neg (by omega), ← numGo_ok l _ (fun x hx => h x (List.mem_cons_of_mem _ hx))]
    congr 1; omega
theorem numGo_dig : ∀ (l : List UInt8) (n : Int), 0 ≤ numGo l n → allDig l
  | [], n, _ => by intro b hb; cases hb
  | b :: l, n, h => by
    unfold numGo at h
    split at h
    · omega
    · rename_i hb
      intro x hx
      rcases List.mem_cons.1 hx with rfl | hx
      · omega
      · exact numGo_dig l _ h x hx
theorem u8_nat (n : Nat) (h : n < 256) : (UInt8.ofNat n).toNat = n := by simp [Nat.mod_eq_of_lt h]
theorem dec_dig : ∀ (f u : Nat), u < f → allDig (Lib.decDigits u)
  | 0, u, h => absurd h (Nat.not_lt_zero _)
  | f + 1, u, h => by
    rw [Lib.decDigits]
    split
    · intro b hb
      rw [List.mem_singleton.1 hb, u8_nat _ (by omega)]; omega
    · intro b hb
      rcases List.mem_append.1 hb with hb | hb
      · exact dec_dig f (u / 10) (by omega) b hb
      · rw [List.mem_singleton.1 hb, u8_nat _ (by omega)]; omega
theorem dec_val : ∀ (f u : Nat), u < f → valN (Lib.decDigits u) 0 = u
  | 0, u, h => absurd h (Nat.not_lt_zero _)
  | f + 1, u, h => by
    rw [Lib.decDigits]
    split
    · simp only [valN]
      rw [u8_nat _ (by omega)]; omega
    · rw [valN_app, dec_val f (u / 10) (by omega)]
      simp only [valN]
      rw [u8_nat _ (by omega)]; omega
theorem dec_ne (u : Nat) : Lib.decDigits u ≠ [] := by
  rw [Lib.decDigits]
  split <;> simp
theorem head_app {α : Type} (l m : List α) (h : l ≠ []) : (l ++ m).head? = l.head? := by
  cases l with
  | nil => exact absurd rfl h
  | cons x l => rfl
theorem dec_head : ∀ (f u : Nat), u < f → (Lib.decDigits u).head? = some 48 → u = 0
  | 0, u, h, _ => absurd h (Nat.not_lt_zero _)
  | f + 1, u, h, he => by
    rw [Lib.decDigits] at he
    split at he
    · rename_i hu
      simp only [List.head?_cons, Option.some.injEq] at he
      have := congrArg UInt8.toNat he
      rw [u8_nat _ (by omega)] at this
      have e : (48 : UInt8).toNat = 48 := rfl
      omega
    · rw [head_app _ _ (dec_ne _)] at he
      have := dec_head f (u / 10) (by omega) he
      omega
theorem valN_pos : ∀ (l : List UInt8) (n : Nat), 0 < n → 0 < valN l n
  | [], n, h => h
  | b :: l, n, h => valN_pos l _ (by omega)
/-- a word of digits without a nought ahead is its number's. -/
theorem dec_back : ∀ (k : Nat) (l : List UInt8), l.length = k → l ≠ [] → allDig l → (l.head? = some 48 → l = [48]) → Lib.decDigits (valN l 0) = l
  | 0, l, hk, hl, _, _ => absurd (List.eq_nil_of_length_eq_zero hk) hl
  | k + 1, l, hk, hl, hd, hz => by
    obtain ⟨l2, d, rfl⟩ : ∃ l2 d, l = l2 ++ [d] := ⟨l.dropLast, l.getLast hl, (List.dropLast_concat_getLast hl).symm⟩
    have hdd := hd d (by simp)
    rw [valN_app]
    simp only [valN]
    by_cases h2 : l2 = []
    · subst h2
      simp only [valN, List.nil_append]
      rw [Lib.decDigits, dif_pos (by omega)]
      congr 1
      apply UInt8.toNat_inj.1
      rw [u8_nat _ (by omega)]; omega
    · have hd2 : allDig l2 := fun b hb => hd b (by simp [hb])
      have hh : (l2 ++ [d]).head? = l2.head? := head_app _ _ h2
      have hz2 : l2.head? = some 48 → False := fun e => by
        have := hz (by rw [hh]; exact e)
        have h3 := congrArg List.length this
        simp at h3
        exact h2 h3
      have hlen : l2.length = k := by simpa using hk
      have ih := dec_back k l2 hlen h2 hd2 (fun e => absurd e hz2)
      have hpos : 0 < valN l2 0 := by
        match l2, h2, hd2, hz2 with
        | b :: l3, _, hd3, hz3 =>
          have hb := hd3 b (List.mem_cons_self)
          have hb48 : b.toNat ≠ 48 := fun e => hz3 (by
            rw [List.head?_cons]
            congr 1
            exact UInt8.toNat_inj.1 (by rw [e]; rfl))
          unfold valN
          exact valN_pos l3 _ (by omega)
      rw [Lib.decDigits, dif_neg (by omega)]
      rw [show (10 * valN l2 0 + (d.toNat - 48)) / 10 = valN l2 0 by omega, show (10 * valN l2 0 + (d.toNat - 48)) % 10 = d.toNat - 48 by omega, ih]
      congr 2
      apply UInt8.toNat_inj.1
      rw [u8_nat _ (by omega)]; omega
theorem itoaB_data (n : Int) (h : 0 ≤ n) : (itoaB n).data.toList = Lib.decDigits n.toNat := by
  unfold itoaB Lib.itoa
  rw [if_neg (by omega)]
theorem data_ext {a b : ByteArray} (h : a.data.toList = b.data.toList) : a = b := by
  obtain ⟨⟨a⟩⟩ := a
  obtain ⟨⟨b⟩⟩ := b
  have : a = b := h
  rw [this]
/-- a word read is its number told -/
theorem numW_back (w : ByteArray) (h : 0 ≤ numW w) : itoaB (numW w) = w := by
  have hl := bs_len w
  unfold numW at h ⊢
  split at h
  · omega
  · rename_i hc
    rw [if_neg hc]
    have hd := numGo_dig _ _ h
    have hv := numGo_ok w.data.toList 0 hd
    rw [Int.natCast_zero] at hv
    rw [hv]
    apply data_ext
    rw [itoaB_data _ (by omega), Int.toNat_natCast]
    refine dec_back _ _ rfl (fun e => hc (.inl (by rw [← hl, e]; rfl))) hd (fun e => ?_)
    have hw : w = ⟨#[48]⟩ := Decidable.byContradiction fun h2 => hc (.inr (.inr ⟨by rw [← List.head?_eq_getElem?]; exact e, h2⟩))
    rw [hw]
theorem numW_put (n : Int) (h0 : 0 ≤ n) (h1 : n ≤ 1000000) : numW (itoaB n) = n := by
  have hz := itoaB_size n h0 h1
  have hd := itoaB_data n h0
  have hl := bs_len (itoaB n)
  rw [hd] at hl
  have hne := dec_ne n.toNat
  unfold numW
  rw [if_neg, hd, show (0 : Int) = ((0 : Nat) : Int) from rfl, numGo_ok _ 0 (dec_dig _ _ (Nat.lt_succ_self _)), dec_val _ _ (Nat.lt_succ_self _)]
  · omega
  · rintro (h | h | ⟨h, h2⟩)
    · rw [h] at hl; exact hne (List.eq_nil_of_length_eq_zero hl)
    · omega
    · rw [hd, ← List.head?_eq_getElem?] at h
      have := dec_head _ _ (Nat.lt_succ_self _) h
      have hn0 : n = 0 := by omega
      subst hn0
      exact h2 (by rw [itoaB_lt 0 (by decide) (by decide)]; rfl)
end Dv
