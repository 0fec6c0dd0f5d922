/- Plain: words told and read again. -/
import Derived.Test.YtcfcigjkijkhdaaDoorO11
import Derived.Test.YtcfcigjkijkhdaaDoorO10
set_option linter.unusedVariables false
set_option linter.unusedSimpArgs false
namespace Dv
open Go Go.Proofs

theorem names_inj : ∀ i, i < 22 → ∀ j, j < 22 → namesL.getD i ⟨#[]⟩ = namesL.getD j ⟨#[]⟩ → i = j := by decide +kernel
theorem nameOf_nat (k : Int) (h : 1 ≤ k ∧ k ≤ 21) : nameOf k = namesL.getD k.toNat ⟨#[]⟩ := by unfold nameOf; rw [if_pos h]
theorem nameOf_ne (k : Int) (h : 1 ≤ k ∧ k ≤ 21) : nameOf k ≠ ⟨#[]⟩ := by
  intro e
  have := name_some k h
  rw [e] at this
  revert this; decide +kernel
theorem nameOf_kind {k : Int} (h : nameOf k ≠ ⟨#[]⟩) : 1 ≤ k ∧ k ≤ 21 := Decidable.byContradiction fun h2 => h (name_none k h2)
theorem nameOf_inj {a b : Int} (h : nameOf a = nameOf b) (hn : nameOf a ≠ ⟨#[]⟩) : a = b := by
  have ha := nameOf_kind hn
  have hb := nameOf_kind (k := b) (by rw [← h]; exact hn)
  rw [nameOf_nat a ha, nameOf_nat b hb] at h
  have := names_inj a.toNat (by omega) b.toNat (by omega) h
  omega
theorem nameOf_size (k : Int) (h : 1 ≤ k ∧ k ≤ 21) : 2 ≤ (nameOf k).size ∧ (nameOf k).size ≤ 8 := by
  refine ⟨?_, name_size k⟩
  have : ∀ i, i < 22 → 1 ≤ i → 2 ≤ (namesL.getD i ⟨#[]⟩).size := by decide +kernel
  rw [nameOf_nat k h]
  exact this k.toNat (by omega) (by omega)
theorem nameOf_blank (k : Int) : (32 : UInt8) ∉ (nameOf k).data.toList := by
  have : ∀ i, i < 22 → (32 : UInt8) ∉ (namesL.getD i ⟨#[]⟩).data.toList := by decide +kernel
  by_cases h : 1 ≤ k ∧ k ≤ 21
  · rw [nameOf_nat k h]; exact this k.toNat (by omega)
  · rw [name_none k h]; simp
/-! an op's words -/
def tailT (l : List Int) : List UInt8 := l.flatMap fun n => 32 :: (itoaB n).data.toList
theorem textL_data : ∀ (l : List Int) (acc : ByteArray), (textL acc l).data.toList = acc.data.toList ++ tailT l
  | [], acc => by simp [textL, tailT]
  | n :: l, acc => by
    rw [textL, textL_data l]
    simp only [tailT, List.flatMap_cons, ByteArray.data_append, Array.toList_append, List.append_assoc, sepB]
    rfl
theorem textO_data {o : OpD} (h : opOkB o = true) : (textO o).data.toList = (nameOf o.kind).data.toList ++ tailT ((numsL o).take (manyK o.kind)) := by
  unfold textO
  rw [if_pos h, textL_data]
theorem textO_off {o : OpD} (h : ¬ opOkB o = true) : textO o = ⟨#[]⟩ := by unfold textO; rw [if_neg h]
theorem dig_blank {l : List UInt8} (h : allDig l) : (32 : UInt8) ∉ l := fun hm => by
  have := h _ hm
  have e : (32 : UInt8).toNat = 32 := rfl
  omega
theorem itoaB_dig (n : Int) (h : 0 ≤ n) : allDig (itoaB n).data.toList := by
  rw [itoaB_data n h]
  exact dec_dig _ _ (Nat.lt_succ_self _)
theorem tailT_map (l : List Int) : tailT l = (l.map fun n => (itoaB n).data.toList).flatMap (fun x => 32 :: x) := by
  unfold tailT
  rw [List.flatMap_map]
theorem map_data_inj : ∀ (l m : List ByteArray), l.map (·.data.toList) = m.map (·.data.toList) → l = m
  | [], [], _ => rfl
  | [], _ :: _, h => by simp at h
  | _ :: _, [], h => by simp at h
  | a :: l, b :: m, h => by
    simp only [List.map_cons, List.cons.injEq] at h
    rw [data_ext h.1, map_data_inj l m h.2]
theorem words_text {o : OpD} (h : opOkB o = true) : wordsO (textO o) = nameOf o.kind :: ((numsL o).take (manyK o.kind)).map itoaB := by
  apply map_data_inj
  rw [words_eq, textO_data h, tailT_map, splitL_words 32 _ _ (nameOf_blank _)]
  · simp [List.map_map, Function.comp_def]
  · intro x hx
    obtain ⟨n, hn, rfl⟩ := List.mem_map.1 hx
    exact dig_blank (itoaB_dig n (nums_rng h n (List.mem_of_mem_take hn)).1)
theorem tryO_text {o : OpD} (h : opOkB o = true) : tryO (wordsO (textO o)) o.kind.toNat = some o := by
  have hk := opOk_kind h
  have hkn : ((o.kind.toNat : Nat) : Int) = o.kind := by omega
  have hl := take_nums_len o
  have hm : (((numsL o).take (manyK o.kind)).map itoaB).map numW = (numsL o).take (manyK o.kind) := by
    rw [List.map_map]
    conv => rhs; rw [← List.map_id ((numsL o).take (manyK o.kind))]
    apply List.map_congr_left
    intro n hn
    have := nums_rng h n (List.mem_of_mem_take hn)
    exact numW_put n this.1 this.2
  rw [words_text h]
  unfold tryO
  rw [hkn]
  rw [if_neg]
  · rw [List.drop_succ_cons, List.drop_zero, hm, of_nums h, if_pos h]
  · rintro (h1 | h1 | h1)
    · exact nameOf_ne _ hk h1
    · exact h1 rfl
    · apply h1; rw [List.length_cons, List.length_map, hl]
theorem tryO_some {W : List ByteArray} {k : Nat} {o : OpD} (h : tryO W k = some o) : nameOf k ≠ ⟨#[]⟩ ∧ nameOf k = W.getD 0 ⟨#[]⟩ ∧ W.length = manyK k + 1 ∧ opOkB o = true ∧ o = ofI k ((W.drop 1).map numW) := by
  unfold tryO at h
  split at h
  · cases h
  · rename_i hc
    split at h
    · rename_i ho
      have := Option.some.inj h
      subst this
      refine ⟨fun e => hc (.inl e), Decidable.byContradiction fun e => hc (.inr (.inl e)), Decidable.byContradiction fun e => hc (.inr (.inr e)), ho, rfl⟩
    · cases h
theorem parseF_some (W : List ByteArray) : ∀ (f k : Nat) (o : OpD), parseF W f k = some o → ∃ j, k ≤ j ∧ j < k + f ∧ tryO W j = some o
  | 0, k, o, h => by cases h
  | f + 1, k, o, h => by
    unfold parseF at h
    split at h
    · rename_i o' ht
      exact ⟨k, Nat.le_refl _, by omega, by rw [ht, ← h]⟩
    · obtain ⟨j, h1, h2, h3⟩ := parseF_some W f (k + 1) o h
      exact ⟨j, by omega, by omega, h3⟩
theorem parseF_none (W : List ByteArray) : ∀ (f k : Nat), parseF W f k = none → ∀ j, k ≤ j → j < k + f → tryO W j = none
  | 0, k, _, j, h1, h2 => by omega
  | f + 1, k, h, j, h1, h2 => by
    unfold parseF at h
    split at h
    · cases h
    · rename_i ht
      by_cases e : j = k
      · rw [e]; exact ht
      · exact parseF_none W f (k + 1) h j (by omega) (by omega)
theorem parseO_text {o : OpD} (h : opOkB o = true) : parseO (textO o) = some o := by
  have hk := opOk_kind h
  have ht := tryO_text h
  unfold parseO
  cases hp : parseF (wordsO (textO o)) 22 0 with
  | none => rw [parseF_none _ 22 0 hp o.kind.toNat (by omega) (by omega)] at ht; cases ht
  | some x =>
    obtain ⟨j, _, _, hj⟩ := parseF_some _ 22 0 x hp
    obtain ⟨a1, a2, _⟩ := tryO_some hj
    obtain ⟨b1, b2, _⟩ := tryO_some ht
    have e := nameOf_inj (a2.trans b2.symm) a1
    have e2 : j = o.kind.toNat := by omega
    rw [e2, ht] at hj
    exact hj.symm
theorem parseO_back {s : ByteArray} {o : OpD} (h : parseO s = some o) : opOkB o = true ∧ textO o = s := by
  obtain ⟨j, _, _, hj⟩ := parseF_some _ 22 0 o h
  obtain ⟨a1, a2, a3, a4, a5⟩ := tryO_some hj
  refine ⟨a4, data_ext ?_⟩
  have hkj : o.kind = j := by rw [a5]; rfl
  have hm := manyK_le o.kind
  obtain ⟨hW0, _⟩ := words_len s
  have hwe := words_eq s
  generalize wordsO s = W at *
  match W, hW0 with
  | w :: ws, _ =>
  have hl : ws.length = manyK o.kind := by rw [hkj]; rw [List.length_cons] at a3; omega
  have hn : (numsL o).take (manyK o.kind) = ws.map numW := by
    have := nums_of j (ws.map numW) (by rw [List.length_map]; omega)
    rw [List.length_map, hl] at this
    rw [a5] at this ⊢
    exact this
  have hws : ∀ x ∈ ws, itoaB (numW x) = x := fun x hx => numW_back x (by
    have : numW x ∈ (numsL o).take (manyK o.kind) := by rw [hn]; exact List.mem_map_of_mem hx
    exact (nums_rng a4 _ (List.mem_of_mem_take this)).1)
  rw [textO_data a4, hn, tailT_map, hkj, a2]
  have hj2 := splitL_join 32 s.data.toList w.data.toList (ws.map (·.data.toList)) (by rw [← hwe]; rfl)
  rw [hj2]
  show w.data.toList ++ _ = _
  congr 2
  rw [List.map_map]
  apply List.map_congr_left
  intro x hx
  show (itoaB (numW x)).data.toList = x.data.toList
  rw [hws x hx]

/-! the document's -/
theorem scan_dig (d x : Nat) (acc : List Int) (rest : List UInt8) (hd : d < 10) (hx : x < 1000000) (hl : acc.length ≤ 5) : scan8 (UInt8.ofNat (48 + d) :: rest) (acc ++ [(x : Int)]) = scan8 rest (acc ++ [((10 * x + d : Nat) : Int)]) := by
  have hb := u8_nat (48 + d) (by omega)
  have hlen : (acc ++ [(x : Int)]).length = acc.length + 1 := by simp
  have hg : (acc ++ [(x : Int)]).getD (acc.length + 1 - 1) 0 = (x : Int) := by
    rw [Nat.add_sub_cancel]
    simp [List.getD]
  have hs : ∀ y : Int, (acc ++ [(x : Int)]).set (acc.length + 1 - 1) y = acc ++ [y] := fun y => by
    rw [Nat.add_sub_cancel, List.set_append, if_neg (by omega), Nat.sub_self]; rfl
  rw [scan8, hlen, hg, hb, if_pos (by omega), if_neg (by omega), if_pos (by omega), hs]
  congr 3
  omega
theorem scan_dec : ∀ (f u : Nat) (acc : List Int) (rest : List UInt8), u < f → u ≤ 1000000 → acc.length ≤ 5 → scan8 (Lib.decDigits u ++ rest) (acc ++ [0]) = scan8 rest (acc ++ [(u : Int)])
  | 0, u, _, _, h, _, _ => absurd h (Nat.not_lt_zero _)
  | f + 1, u, acc, rest, h, h1, hl => by
    rw [Lib.decDigits]
    split
    · rename_i hu
      have := scan_dig u 0 acc rest hu (by decide) hl
      rw [Nat.mul_zero, Nat.zero_add] at this
      exact this
    · rw [List.append_assoc, scan_dec f (u / 10) acc _ (by omega) (by omega) hl, List.singleton_append, scan_dig (u % 10) (u / 10) acc rest (by omega) (by omega) hl]
      congr 3
      omega
theorem scan_tail : ∀ (l acc : List Int), (∀ n ∈ l, 0 ≤ n ∧ n ≤ 1000000) → acc.length + l.length ≤ 6 → scan8 (tailT l) acc = acc ++ l
  | [], acc, _, _ => by simp [tailT, scan8]
  | n :: l, acc, h, hl => by
    have hn := h n (List.mem_cons_self)
    rw [List.length_cons] at hl
    have e : tailT (n :: l) = 32 :: (Lib.decDigits n.toNat ++ tailT l) := by
      simp only [tailT, List.flatMap_cons, List.cons_append]
      rw [itoaB_data n hn.1]
    rw [e, scan8, if_pos (by omega), if_pos (by rfl), scan_dec _ _ _ _ (Nat.lt_succ_self _) (by omega) (by omega), Int.toNat_of_nonneg hn.1, scan_tail l _ (fun x hx => h x (List.mem_cons_of_mem _ hx)) (by simp; omega)]
    simp
theorem try8_text {o : OpD} (h : opOkB o = true) : try8 (textO o) o.kind.toNat = some o := by
  have hk := opOk_kind h
  have hkn : ((o.kind.toNat : Nat) : Int) = o.kind := by omega
  have hl := take_nums_len o
  have hm := manyK_le o.kind
  have hd := textO_data h
  have hbl := bs_len (textO o)
  have hnl := bs_len (nameOf o.kind)
  have hsz : (nameOf o.kind).size ≤ (textO o).size := by rw [← hbl, hd, List.length_append]; omega
  have hsc : scan8 ((textO o).data.toList.drop (nameOf o.kind).size) [] = (numsL o).take (manyK o.kind) := by
    rw [hd, ← hnl, List.drop_left, scan_tail _ [] (fun n hn => nums_rng h n (List.mem_of_mem_take hn)) (by rw [hl]; simpa using hm)]
    rfl
  unfold try8
  rw [hkn, if_neg, hsc, of_nums h, if_pos rfl]
  rintro (h1 | h1)
  · omega
  · apply h1
    apply data_ext
    rw [Lib.extract_from_zero, hd, ← hnl, List.take_left]
theorem try8_some {s : ByteArray} {k : Nat} {o : OpD} (hk : 1 ≤ k ∧ k ≤ 21) (h : try8 s k = some o) : opOkB o = true ∧ textO o = s := by
  unfold try8 at h
  split at h
  · cases h
  · rename_i hc
    split at h
    · rename_i ht
      have := Option.some.inj h
      rw [this] at ht
      refine ⟨?_, ht⟩
      cases ho : opOkB o with
      | true => rfl
      | false =>
        rw [textO_off (by rw [ho]; decide)] at ht
        have hs := (nameOf_size k (by omega)).1
        have : s.size = 0 := by rw [← ht]; rfl
        exact absurd (.inl (by omega)) hc
    · cases h
theorem parse8F_some (s : ByteArray) : ∀ (f k : Nat) (o : OpD), parse8F s f k = some o → ∃ j, k ≤ j ∧ j < k + f ∧ try8 s j = some o
  | 0, k, o, h => by cases h
  | f + 1, k, o, h => by
    unfold parse8F at h
    split at h
    · rename_i o' ht
      exact ⟨k, Nat.le_refl _, by omega, by rw [ht, ← h]⟩
    · obtain ⟨j, h1, h2, h3⟩ := parse8F_some s f (k + 1) o h
      exact ⟨j, by omega, by omega, h3⟩
theorem parse8F_none (s : ByteArray) : ∀ (f k : Nat), parse8F s f k = none → ∀ j, k ≤ j → j < k + f → try8 s j = none
  | 0, k, _, j, h1, h2 => by omega
  | f + 1, k, h, j, h1, h2 => by
    unfold parse8F at h
    split at h
    · cases h
    · rename_i ht
      by_cases e : j = k
      · rw [e]; exact ht
      · exact parse8F_none s f (k + 1) h j (by omega) (by omega)
theorem parse8_eq (s : ByteArray) : parse8 s = parseO s := by
  have h1 : ∀ o, parse8 s = some o → parseO s = some o := fun o h => by
    obtain ⟨j, h2, h3, h4⟩ := parse8F_some s 21 1 o h
    obtain ⟨g1, g2⟩ := try8_some ⟨h2, by omega⟩ h4
    rw [← g2]
    exact parseO_text g1
  cases hp : parseO s with
  | some o =>
    obtain ⟨g1, g2⟩ := parseO_back hp
    have hk := opOk_kind g1
    have ht := try8_text g1
    rw [g2] at ht
    cases hq : parse8 s with
    | some x => rw [← hp]; exact (h1 x hq).symm
    | none => rw [parse8F_none s 21 1 hq o.kind.toNat (by omega) (by omega)] at ht; cases ht
  | none =>
    cases hq : parse8 s with
    | none => rfl
    | some x => rw [h1 x hq] at hp; cases hp
end Dv
