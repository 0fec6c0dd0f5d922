/- Plain: an op's bytes are few, its words stand apart. -/
import Derived.Test.YtehbfgkhcmepbaaDoorO12
import Derived.Test.YtehbfgkhcmepbaaDoorPB
set_option linter.unusedVariables false
set_option linter.unusedSimpArgs false
namespace Dv
open Go Go.Proofs

theorem putO_rng (o : OpD) : ∀ x ∈ putO o, 0 ≤ x ∧ x ≤ 255 := by
  unfold putO
  split
  · exact listB_rng _
  · simp
theorem flat_few : ∀ l : List Int, (∀ n ∈ l, 0 ≤ n ∧ n ≤ 1000000) → (l.flatMap numB).length ≤ 3 * l.length
  | [], _ => by simp
  | n :: l, h => by
    have hn := h n (List.mem_cons_self)
    have ih := flat_few l (fun x hx => h x (List.mem_cons_of_mem _ hx))
    have hN : isNum n = true := decide_eq_true ⟨by omega, by unfold most53; omega⟩
    have h1 : (numB n).length ≤ 2 + 1 := by rw [numB_of hN]; exact digs_up 2 8 n (by omega)
    rw [List.flatMap_cons, List.length_append, List.length_cons]
    omega
theorem putO_few {o : OpD} (h : opOkB o = true) : 2 ≤ (putO o).length ∧ (putO o).length ≤ 20 := by
  have hk := opOk_kind h
  have hm := manyK_le o.kind
  have hl := take_nums_len o
  have ha := opOk_all h
  have hf := flat_few ((numsL o).take (manyK o.kind)) (fun n hn => nums_rng h n (List.mem_of_mem_take hn))
  have hNk : isNum o.kind = true := decide_eq_true ⟨by omega, by unfold most53; omega⟩
  have hNl : isNum ((o.kind :: (numsL o).take (manyK o.kind)).length : Int) = true := decide_eq_true ⟨by omega, by rw [List.length_cons, hl]; unfold most53; omega⟩
  have h1 : (numB o.kind).length ≤ 0 + 1 := by rw [numB_of hNk]; exact digs_up 0 8 _ (by omega)
  have h2 : (numB ((o.kind :: (numsL o).take (manyK o.kind)).length : Int)).length ≤ 0 + 1 := by rw [numB_of hNl]; exact digs_up 0 8 _ (by rw [List.length_cons, hl]; omega)
  have h3 := numB_one hNk
  have h4 := numB_one hNl
  rw [putO_of h]
  unfold listB
  rw [if_pos ha, List.length_append, List.flatMap_cons, List.length_append]
  omega
theorem tailT_blank : ∀ (l : List Int), (∀ n ∈ l, 0 ≤ n) → ∀ i, (tailT l)[i]? = some 32 → i + 1 < (tailT l).length ∧ (tailT l)[i + 1]? ≠ some 32
  | [], _, i, h => by simp [tailT] at h
  | n :: l, hn, i, h => by
    have h0 := hn n (List.mem_cons_self)
    have hd := itoaB_dig n h0
    have hb := dig_blank hd
    have hne : (itoaB n).data.toList ≠ [] := by rw [itoaB_data n h0]; exact dec_ne _
    have e : tailT (n :: l) = 32 :: ((itoaB n).data.toList ++ tailT l) := by simp [tailT]
    generalize (itoaB n).data.toList = D at *
    rw [e] at h ⊢
    have hDl : 0 < D.length := List.length_pos_iff.2 hne
    cases i with
    | zero =>
      refine ⟨by rw [List.length_cons, List.length_append]; omega, ?_⟩
      rw [List.getElem?_cons_succ, List.getElem?_append_left hDl]
      intro h2
      exact hb (List.mem_of_getElem? h2)
    | succ j =>
      rw [List.getElem?_cons_succ] at h ⊢
      by_cases hj : j < D.length
      · rw [List.getElem?_append_left hj] at h
        exact absurd (List.mem_of_getElem? h) hb
      · rw [List.getElem?_append_right (by omega)] at h ⊢
        obtain ⟨g1, g2⟩ := tailT_blank l (fun x hx => hn x (List.mem_cons_of_mem _ hx)) _ h
        refine ⟨by rw [List.length_cons, List.length_append]; omega, ?_⟩
        rw [show j + 1 - D.length = j - D.length + 1 by omega]
        exact g2
theorem tailT_head : ∀ (l : List Int), l ≠ [] → (tailT l)[0]? = some 32
  | [], h => absurd rfl h
  | n :: l, _ => by simp [tailT]
theorem tailT_len : ∀ (l : List Int), (∀ n ∈ l, 0 ≤ n ∧ n ≤ 1000000) → (tailT l).length ≤ 8 * l.length
  | [], _ => by simp [tailT]
  | n :: l, h => by
    have hn := h n (List.mem_cons_self)
    have ih := tailT_len l (fun x hx => h x (List.mem_cons_of_mem _ hx))
    have hz := itoaB_size n hn.1 hn.2
    have hl := bs_len (itoaB n)
    have e : tailT (n :: l) = 32 :: ((itoaB n).data.toList ++ tailT l) := by simp [tailT]
    rw [e, List.length_cons, List.length_append, List.length_cons]
    omega
theorem textO_size {o : OpD} (h : opOkB o = true) : (textO o).size = (nameOf o.kind).size + (tailT ((numsL o).take (manyK o.kind))).length ∧ 2 ≤ (textO o).size ∧ (textO o).size ≤ 100 := by
  have hk := opOk_kind h
  have hn := nameOf_size o.kind hk
  have hm := manyK_le o.kind
  have hl := take_nums_len o
  have ht := tailT_len ((numsL o).take (manyK o.kind)) (fun n hn => nums_rng h n (List.mem_of_mem_take hn))
  have hb := bs_len (textO o)
  have hb2 := bs_len (nameOf o.kind)
  rw [textO_data h, List.length_append] at hb
  omega
theorem textO_blank {o : OpD} (h : opOkB o = true) (i : Nat) (hi : (textO o).data.toList[i]? = some 32) : 0 < i ∧ i + 1 < (textO o).size ∧ (textO o).data.toList[i + 1]? ≠ some 32 := by
  have hk := opOk_kind h
  have hn := nameOf_size o.kind hk
  have hb2 := bs_len (nameOf o.kind)
  have hbl := nameOf_blank o.kind
  have hs := (textO_size h).1
  rw [textO_data h] at hi ⊢
  by_cases hj : i < (nameOf o.kind).data.toList.length
  · rw [List.getElem?_append_left hj] at hi
    exact absurd (List.mem_of_getElem? hi) hbl
  · rw [List.getElem?_append_right (by omega)] at hi ⊢
    obtain ⟨g1, g2⟩ := tailT_blank _ (fun n hn => (nums_rng h n (List.mem_of_mem_take hn)).1) _ hi
    refine ⟨by omega, by omega, ?_⟩
    rw [show i + 1 - (nameOf o.kind).data.toList.length = i - (nameOf o.kind).data.toList.length + 1 by omega]
    exact g2
theorem textO_name {o : OpD} (h : opOkB o = true) : (nameOf o.kind).size ≤ (textO o).size ∧ (textO o).extract 0 (nameOf o.kind).size = nameOf o.kind ∧ ((textO o).size = (nameOf o.kind).size ∨ (textO o).data.toList[(nameOf o.kind).size]? = some 32) := by
  have hs := (textO_size h).1
  have hb2 := bs_len (nameOf o.kind)
  refine ⟨by omega, ?_, ?_⟩
  · apply data_ext
    rw [Lib.extract_from_zero, textO_data h, ← hb2, List.take_left]
  · by_cases he : (numsL o).take (manyK o.kind) = []
    · left
      rw [hs, he]; rfl
    · right
      rw [textO_data h, ← hb2, List.getElem?_append_right (Nat.le_refl _), Nat.sub_self]
      exact tailT_head _ he
end Dv
