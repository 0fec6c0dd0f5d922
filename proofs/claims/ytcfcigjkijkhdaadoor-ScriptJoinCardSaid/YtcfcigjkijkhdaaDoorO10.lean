/- Plain: ops as bytes. -/
import Derived.Test.YtcfcigjkijkhdaaDoorO3
import Derived.Test.YtcfcigjkijkhdaaDoorO5
import Derived.Test.YtcfcigjkijkhdaaDoorPB
set_option linter.unusedVariables false
set_option linter.unusedSimpArgs false
namespace Dv
open Go Go.Proofs

theorem nums_of (k : Int) (l : List Int) (h : l.length ≤ 6) : (numsL (ofI k l)).take l.length = l := by
  match l, h with
  | [], _ => rfl
  | [_], _ => rfl
  | [_, _], _ => rfl
  | [_, _, _], _ => rfl
  | [_, _, _, _], _ => rfl
  | [_, _, _, _, _], _ => rfl
  | [_, _, _, _, _, _], _ => rfl
theorem opOkL_zero : ∀ (m : Nat) (l : List Int) (i : Nat), opOkL m l i = true → ∀ j, m ≤ i + j → l.getD j 0 = 0
  | m, [], i, _, j, _ => rfl
  | m, x :: l, i, h, j, hj => by
    simp only [opOkL, Bool.and_eq_true] at h
    cases j with
    | zero =>
      have := h.1
      rw [decide_eq_false (by omega)] at this
      unfold numOk at this
      simp at this
      show x = 0
      exact this.2
    | succ j => exact opOkL_zero m l (i + 1) h.2 j (by omega)
theorem of_nums {o : OpD} (h : opOkB o = true) : ofI o.kind ((numsL o).take (manyK o.kind)) = o := by
  have h2 := h
  rw [opOkB_eq, Bool.and_eq_true] at h2
  have hz : ∀ j, ((numsL o).take (manyK o.kind)).getD j 0 = (numsL o).getD j 0 := fun j => by
    by_cases hj : j < manyK o.kind
    · simp only [List.getD]; rw [List.getElem?_take_of_lt hj]
    · rw [opOkL_zero _ _ 0 h2.2 j (by omega)]
      simp only [List.getD]
      rw [List.getElem?_eq_none (by rw [List.length_take]; omega)]; rfl
  unfold ofI
  simp only [hz]
  rfl
theorem ofI_kind (k : Int) (l : List Int) : (ofI k l).kind = k := rfl
theorem putO_of {o : OpD} (h : opOkB o = true) : putO o = listB (o.kind :: (numsL o).take (manyK o.kind)) := by unfold putO; rw [if_pos h]
theorem opOk_all {o : OpD} (h : opOkB o = true) : (o.kind :: (numsL o).take (manyK o.kind)).all isNum = true := by
  have hk := opOk_kind h
  rw [List.all_eq_true]
  intro x hx
  rcases List.mem_cons.1 hx with rfl | hx
  · exact decide_eq_true ⟨by omega, by unfold most53; omega⟩
  · have := nums_rng h x (List.mem_of_mem_take hx)
    exact decide_eq_true ⟨by omega, by unfold most53; omega⟩
theorem take_nums_len (o : OpD) : ((numsL o).take (manyK o.kind)).length = manyK o.kind := by
  have := manyK_le o.kind
  rw [List.length_take]; simp [numsL]; omega
theorem getO_put {o : OpD} (h : opOkB o = true) : getO (putO o) = some o := by
  have hk := opOk_kind h
  have hm := manyK_le o.kind
  have hl := take_nums_len o
  have hL := getL_put (o.kind :: (numsL o).take (manyK o.kind)) [] 7 (opOk_all h) (by rw [List.length_cons]; omega) (by rw [List.length_cons]; omega)
  rw [List.append_nil, ← putO_of h] at hL
  unfold getO
  rw [hL]
  have hof : ofI o.kind ((numsL o).take (manyK o.kind)) = o := of_nums h
  have e1 : (o.kind :: (numsL o).take (manyK o.kind)).getD 0 0 = o.kind := rfl
  have e2 : (o.kind :: (numsL o).take (manyK o.kind)).drop 1 = (numsL o).take (manyK o.kind) := rfl
  dsimp only
  rw [e1, e2, hof, if_pos]
  exact ⟨rfl, by simp, decide_eq_true hk, by rw [List.length_cons]; omega, h⟩
theorem getO_back {b : List Int} (hb : ∀ c ∈ b, 0 ≤ c ∧ c ≤ 255) {o : OpD} (h : getO b = some o) : opOkB o = true ∧ putO o = b := by
  unfold getO at h
  cases hL : getL b 0 7 with
  | none => rw [hL] at h; cases h
  | some xe =>
  obtain ⟨xs, e⟩ := xe
  rw [hL] at h
  dsimp only at h
  obtain ⟨h1, h2, h3, h4⟩ := getL_back hb hL
  split at h
  · rename_i hc
    obtain ⟨c1, c2, c3, c4, c5⟩ := hc
    have h := Option.some.inj h
    subst h
    refine ⟨c5, ?_⟩
    rw [putO_of c5]
    match xs, c2 with
    | x :: l, _ =>
    have e1 : (x :: l).getD 0 0 = x := rfl
    have e2 : (x :: l).drop 1 = l := rfl
    rw [e1] at c4 ⊢
    rw [e2, ofI_kind]
    have hl : l.length = manyK x := by rw [List.length_cons] at c4; omega
    have hm := manyK_le x
    rw [← hl, nums_of x l (by omega), h2, c1, List.take_length]
  · cases h
theorem putO_ne {o : OpD} (h : opOkB o = true) : putO o ≠ [] := by
  intro he
  have := getO_put h
  rw [he] at this
  cases this
theorem putO_ok {o : OpD} (h : putO o ≠ []) : opOkB o = true := by
  unfold putO at h
  split at h
  · assumption
  · exact absurd rfl h
theorem getOR_eq {b : List Int} (hb : ∀ c ∈ b, 0 ≤ c ∧ c ≤ 255) : getOR b = getO b := by
  have h1 : ∀ o, getOR b = some o → getO b = some o := fun o h => by
    unfold getOR at h
    cases hL : getL b 0 7 with
    | none => rw [hL] at h; cases h
    | some xe =>
    obtain ⟨xs, e⟩ := xe
    rw [hL] at h
    dsimp only at h
    split at h
    · rename_i hc
      have h := Option.some.inj h
      rw [h] at hc
      have := getO_put (putO_ok hc.2.1)
      rw [hc.2.2] at this
      exact this
    · cases h
  have h2 : ∀ o, getO b = some o → getOR b = some o := fun o h => by
    obtain ⟨g1, g2⟩ := getO_back hb h
    have g3 := putO_ne g1
    unfold getO at h
    unfold getOR
    cases hL : getL b 0 7 with
    | none => rw [hL] at h; cases h
    | some xe =>
    obtain ⟨xs, e⟩ := xe
    rw [hL] at h
    dsimp only at h ⊢
    split at h
    · rename_i hc
      have h := Option.some.inj h
      rw [h, if_pos ⟨hc.2.1, g3, g2⟩]
    · cases h
  cases hq : getOR b with
  | some o => exact (h1 o hq).symm
  | none =>
    cases hq2 : getO b with
    | none => rfl
    | some o => rw [h2 o hq2] at hq; cases hq
end Dv
