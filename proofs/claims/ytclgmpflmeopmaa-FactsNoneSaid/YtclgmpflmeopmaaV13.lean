/- The logical machine: part V13. -/
import Derived.Test.YtclgmpflmeopmaaV12
set_option linter.unusedVariables false
set_option linter.unusedSimpArgs false
namespace Dv
open Go

/-! ## Events, in whatever order -/
structure Evn where
  tr : List Nat
  td : Option Nat
  r : LV
  rd : List Nat
  ow : List (Nat × LObj)

def Evn.wr (e : Evn) : List Nat := e.ow.map (·.1)

theorem updO_out : ∀ (l : List (Nat × LObj)) (obj : Nat → OSt) (o : Nat), o ∉ l.map (·.1) → updO l obj o = obj o
  | [], _, _, _ => rfl
  | (k, ob) :: r, obj, o, h => by
    simp only [List.map_cons, List.mem_cons, not_or] at h
    simp only [updO]; rw [if_neg h.1]; exact updO_out r obj o h.2
theorem updO_in : ∀ (l : List (Nat × LObj)) (obj obj' : Nat → OSt) (o : Nat), o ∈ l.map (·.1) → updO l obj o = updO l obj' o
  | [], _, _, _, h => by cases h
  | (k, ob) :: r, obj, obj', o, h => by
    simp only [updO]
    by_cases ho : o = k
    · rw [if_pos ho, if_pos ho]
    · rw [if_neg ho, if_neg ho]
      exact updO_in r obj obj' o (by simpa [ho] using h)

section
variable (E : Nat → Evn) (g0 : Nat → LV) (o0 : Nat → OSt)
def stD (D : Nat → Bool) : Nat → (Nat → LV) × (Nat → OSt)
  | 0 => (g0, o0)
  | k + 1 => if D k then (getP (E k).td (E k).r (stD D k).1, updO (E k).ow (stD D k).2) else stD D k

variable {E g0 o0}
theorem stD_eqG {D D' : Nat → Bool} {t : Nat} : ∀ k, (∀ j, j < k → (E j).td = some t → D j = D' j) → (stD E g0 o0 D k).1 t = (stD E g0 o0 D' k).1 t
  | 0, _ => rfl
  | k + 1, h => by
    have ih := stD_eqG k (fun j hj => h j (by omega))
    simp only [stD]
    by_cases ht : (E k).td = some t
    · have := h k (by omega) ht
      rw [this]
      split
      · simp [getP, ht]
      · exact ih
    · have key : ∀ D : Nat → Bool, (if D k = true then (getP (E k).td (E k).r (stD E g0 o0 D k).1, updO (E k).ow (stD E g0 o0 D k).2) else stD E g0 o0 D k).1 t = (stD E g0 o0 D k).1 t := fun D => by
        split
        · simp [getP, ht]
        · rfl
      rw [key, key]; exact ih

theorem stD_eqO {D D' : Nat → Bool} {o : Nat} : ∀ k, (∀ j, j < k → o ∈ (E j).wr → D j = D' j) → (stD E g0 o0 D k).2 o = (stD E g0 o0 D' k).2 o
  | 0, _ => rfl
  | k + 1, h => by
    have ih := stD_eqO k (fun j hj => h j (by omega))
    simp only [stD]
    by_cases ht : o ∈ (E k).wr
    · have := h k (by omega) ht
      rw [this]
      split
      · exact updO_in _ _ _ _ ht
      · exact ih
    · have key : ∀ D : Nat → Bool, (if D k = true then (getP (E k).td (E k).r (stD E g0 o0 D k).1, updO (E k).ow (stD E g0 o0 D k).2) else stD E g0 o0 D k).2 o = (stD E g0 o0 D k).2 o := fun D => by
        split
        · exact updO_out _ _ _ ht
        · rfl
      rw [key, key]; exact ih

theorem stD_lastG {D : Nat → Bool} {t i : Nat} (hD : D i = true) (ht : (E i).td = some t) : ∀ k, i < k → (∀ j, i < j → j < k → (E j).td = some t → D j = false) → (stD E g0 o0 D k).1 t = (E i).r
  | 0, h, _ => by omega
  | k + 1, h, hl => by
    simp only [stD]
    by_cases hk : k = i
    · subst hk; rw [if_pos hD]; simp [getP, ht]
    · have ih := stD_lastG hD ht k (by omega) (fun j h1 h2 => hl j h1 (by omega))
      by_cases hkt : (E k).td = some t
      · have := hl k (by omega) (by omega) hkt
        rw [if_neg (by simp [this])]; exact ih
      · split
        · simpa [getP, hkt] using ih
        · exact ih

theorem stD_lastO {D : Nat → Bool} {o i : Nat} (hD : D i = true) (ht : o ∈ (E i).wr) : ∀ k, i < k → (∀ j, i < j → j < k → o ∈ (E j).wr → D j = false) → ∀ obj, (stD E g0 o0 D k).2 o = updO (E i).ow obj o
  | 0, h, _, _ => by omega
  | k + 1, h, hl, obj => by
    simp only [stD]
    by_cases hk : k = i
    · subst hk; rw [if_pos hD]; exact updO_in _ _ _ _ ht
    · have ih := stD_lastO hD ht k (by omega) (fun j h1 h2 => hl j h1 (by omega)) obj
      by_cases hkt : o ∈ (E k).wr
      · have := hl k (by omega) (by omega) hkt
        rw [if_neg (by simp [this])]; exact ih
      · split
        · exact (updO_out _ _ _ hkt).trans ih
        · exact ih

/-- Two events that may not change places. -/
def Clash (x y : Evn) : Prop :=
  (∃ t, x.td = some t ∧ (t ∈ y.tr ∨ y.td = some t)) ∨ (∃ t, y.td = some t ∧ t ∈ x.tr) ∨ (∃ o, o ∈ x.wr ∧ (o ∈ y.rd ∨ o ∈ y.wr)) ∨ (∃ o, o ∈ y.wr ∧ o ∈ x.rd)

variable {n : Nat} {R : Nat → Nat → Prop} (hR : ∀ i j, i < j → j < n → Clash (E i) (E j) → R i j)
include hR

/-- What an event reads stands as it would in the text's order. -/
theorem stD_readG {D : Nat → Bool} (hdown : ∀ j, j < n → D j = true → ∀ i, R i j → D i = true) {i : Nat} (hi : i < n) (hDi : D i = false) (hready : ∀ k, R k i → D k = true) {t : Nat} (ht : t ∈ (E i).tr ∨ (E i).td = some t) :
    (stD E g0 o0 D n).1 t = (stD E g0 o0 (fun j => decide (j < i)) n).1 t := by
  refine stD_eqG n (fun j hj hjt => ?_)
  rcases Nat.lt_trichotomy j i with h | h | h
  · rw [hready j (hR j i h hi (.inl ⟨t, hjt, ht⟩))]; simp [h]
  · subst h; simp [hDi]
  · have : D j = false := by
      cases hDj : D j with
      | false => rfl
      | true =>
        have hc : Clash (E i) (E j) := by
          rcases ht with ht | ht
          · exact .inr (.inl ⟨t, hjt, ht⟩)
          · exact .inl ⟨t, ht, .inr hjt⟩
        have := hdown j hj hDj i (hR i j h hj hc)
        rw [hDi] at this; cases this
    rw [this]; simp; omega

theorem stD_readO {D : Nat → Bool} (hdown : ∀ j, j < n → D j = true → ∀ i, R i j → D i = true) {i : Nat} (hi : i < n) (hDi : D i = false) (hready : ∀ k, R k i → D k = true) {o : Nat} (ho : o ∈ (E i).rd ∨ o ∈ (E i).wr) :
    (stD E g0 o0 D n).2 o = (stD E g0 o0 (fun j => decide (j < i)) n).2 o := by
  refine stD_eqO n (fun j hj hjo => ?_)
  rcases Nat.lt_trichotomy j i with h | h | h
  · rw [hready j (hR j i h hi (.inr (.inr (.inl ⟨o, hjo, ho⟩))))]; simp [h]
  · subst h; simp [hDi]
  · have : D j = false := by
      cases hDj : D j with
      | false => rfl
      | true =>
        have hc : Clash (E i) (E j) := by
          rcases ho with ho | ho
          · exact .inr (.inr (.inr ⟨o, hjo, ho⟩))
          · exact .inr (.inr (.inl ⟨o, ho, .inr hjo⟩))
        have := hdown j hj hDj i (hR i j h hj hc)
        rw [hDi] at this; cases this
    rw [this]; simp; omega

/-- One event more. -/
theorem stD_one {D : Nat → Bool} (hdown : ∀ j, j < n → D j = true → ∀ i, R i j → D i = true) {i : Nat} (hi : i < n) (hDi : D i = false) :
    stD E g0 o0 (fun j => D j || j == i) n = (getP (E i).td (E i).r (stD E g0 o0 D n).1, updO (E i).ow (stD E g0 o0 D n).2) := by
  have hlater : ∀ j, i < j → j < n → Clash (E i) (E j) → D j = false := fun j h hj hc => by
    cases hDj : D j with
    | false => rfl
    | true =>
      have := hdown j hj hDj i (hR i j h hj hc)
      rw [hDi] at this; cases this
  refine Prod.ext (funext fun t => ?_) (funext fun o => ?_)
  · simp only [getP]
    by_cases ht : (E i).td = some t
    · rw [if_pos ht]
      refine stD_lastG (D := fun j => D j || j == i) (by simp) ht n hi (fun j h1 h2 hj => ?_)
      have := hlater j h1 h2 (.inl ⟨t, ht, .inr hj⟩)
      simp [this]; omega
    · rw [if_neg ht]
      refine stD_eqG n (fun j hj hjt => ?_)
      have : j ≠ i := fun e => ht (e ▸ hjt)
      simp [this]
  · show (stD E g0 o0 (fun j => D j || j == i) n).2 o = updO (E i).ow (stD E g0 o0 D n).2 o
    by_cases ho : o ∈ (E i).wr
    · refine stD_lastO (D := fun j => D j || j == i) (by simp) ho n hi (fun j h1 h2 hj => ?_) _
      have := hlater j h1 h2 (.inr (.inr (.inl ⟨o, ho, .inr hj⟩)))
      simp [this]; omega
    · rw [updO_out _ _ _ ho]
      refine stD_eqO n (fun j hj hjo => ?_)
      have : j ≠ i := fun e => ho (e ▸ hjo)
      simp [this]
end

/-- THE WAY THROUGH A REGION WHOSE ORDER IS OPEN: whatever may come next takes the state of the done ones to that of one more. -/
theorem wpAny_events {P : Program} {ops : Array Oper} {Q : Exit → Act → World → Prop} {E : Nat → Evn} {g0 : Nat → LV} {o0 : Nat → OSt} {R : Nat → Nat → Prop} (Inv : (Nat → LV) → (Nat → OSt) → Act → World → Prop)
    (hR : ∀ i j, i < j → j < ops.size → Clash (E i) (E j) → R i j)
    (hpre : ∀ j o, ops[j]? = some o → ∀ i, R i j → ∃ e ∈ o.after, Region.binds .any e = true ∧ (e.on = i ∨ R i e.on))
    (hback : ∀ j o, ops[j]? = some o → ∀ e ∈ o.after, Region.binds .any e = true → e.on < j)
    (hRlt : ∀ i j, R i j → i < ops.size)
    (hstep : ∀ i g obj, i < ops.size → (∀ t, t ∈ (E i).tr ∨ (E i).td = some t → g t = (stD E g0 o0 (fun j => decide (j < i)) ops.size).1 t) → (∀ o, o ∈ (E i).rd ∨ o ∈ (E i).wr → obj o = (stD E g0 o0 (fun j => decide (j < i)) ops.size).2 o) →
      ∀ a w K, Inv g obj a w → (∀ a' w', Inv (getP (E i).td (E i).r g) (updO (E i).ow obj) a' w' → K a' w') → wpOp P ops Q i K a w)
    (hQ : ∀ a w, Inv (stD E g0 o0 (fun _ => true) ops.size).1 (stD E g0 o0 (fun _ => true) ops.size).2 a w → Q .normal a w) :
    ∀ (fuel : Nat) (listed : Array Bool) (a : Act) (w : World), listed.size = ops.size → listed.toList.count false = fuel →
      (∀ j o, ops[j]? = some o → listed.getD j false = true → ∀ e ∈ o.after, Region.binds .any e = true → listed.getD e.on false = true) →
      Inv (stD E g0 o0 (fun j => listed.getD j false) ops.size).1 (stD E g0 o0 (fun j => listed.getD j false) ops.size).2 a w →
      wpAny P .any ops Q fuel listed a w := by
  -- what is ready, when all is listed
  have hleast : ∀ listed : Array Bool, listed.size = ops.size → Region.ready .any ops listed = [] → ∀ j, j < ops.size → listed.getD j false = true := by
    intro listed hls hr j
    induction j using Nat.strongRecOn with
    | _ j ih =>
      intro hj
      cases hl : listed.getD j false with
      | true => rfl
      | false =>
        have hjj : j < listed.size := by omega
        have hmem : j ∈ Region.ready .any ops listed := by
          rw [mem_ready]
          refine ⟨?_, ops[j], Array.getElem?_eq_getElem hj, fun e he hb => ?_⟩
          · simp [hjj] at hl ⊢; exact hl
          · have hlt := hback j _ (Array.getElem?_eq_getElem hj) e he hb
            exact ih e.on hlt (by omega)
        rw [hr] at hmem; cases hmem
  have hdone : ∀ listed : Array Bool, listed.size = ops.size → Region.ready .any ops listed = [] → stD E g0 o0 (fun j => listed.getD j false) ops.size = stD E g0 o0 (fun _ => true) ops.size := by
    intro listed hls hr
    have h := hleast listed hls hr
    refine Prod.ext (funext fun t => stD_eqG _ (fun j hj _ => ?_)) (funext fun o => stD_eqO _ (fun j hj _ => ?_))
    · exact h j hj
    · exact h j hj
  intro fuel
  induction fuel with
  | zero =>
    intro listed a w hls hc hcl hI
    have hall : ∀ j, j < ops.size → listed.getD j false = true := by
      intro j hj
      have hjj : j < listed.size := by omega
      have h1 := List.count_eq_zero.1 hc
      cases hx : listed[j] with
      | true => simp [hjj, hx]
      | false => exact absurd (by rw [← hx]; simp) h1
    have hr : Region.ready .any ops listed = [] := by
      apply List.eq_nil_iff_forall_not_mem.2
      intro j hj
      rw [mem_ready] at hj
      obtain ⟨h1, o, ho, _⟩ := hj
      have hjlt := (Array.getElem?_eq_some_iff.1 ho).1
      have h2 := hall j hjlt
      have hjj : j < listed.size := by omega
      simp [hjj] at h1 h2
      rw [h1] at h2; cases h2
    refine ⟨hr, hQ a w ?_⟩
    rw [← hdone listed hls hr]; exact hI
  | succ fuel ih =>
    intro listed a w hls hc hcl hI
    refine ⟨fun hr => hQ a w (by rw [← hdone listed hls hr]; exact hI), fun i hi => ?_⟩
    rw [mem_ready] at hi
    obtain ⟨hun, o, ho, hall⟩ := hi
    have hilt := (Array.getElem?_eq_some_iff.1 ho).1
    have hil : i < listed.size := by omega
    have hDi : listed.getD i false = false := by simp [hil] at hun ⊢; exact hun
    -- closed below
    have hdown : ∀ j, j < ops.size → listed.getD j false = true → ∀ k, R k j → listed.getD k false = true := by
      intro j
      induction j using Nat.strongRecOn with
      | _ j ihj =>
        intro hj hDj k hk
        obtain ⟨e, he, hb, hek⟩ := hpre j _ (Array.getElem?_eq_getElem hj) k hk
        have hlt := hback j _ (Array.getElem?_eq_getElem hj) e he hb
        have hDe := hcl j _ (Array.getElem?_eq_getElem hj) hDj e he hb
        rcases hek with rfl | hek
        · exact hDe
        · exact ihj e.on hlt (by omega) hDe k hek
    have hready : ∀ k, R k i → listed.getD k false = true := by
      intro k hk
      obtain ⟨e, he, hb, hek⟩ := hpre i o ho k hk
      have hlt := hback i o ho e he hb
      rcases hek with rfl | hek
      · exact hall e he hb
      · exact hdown e.on (by omega) (hall e he hb) k hek
    refine hstep i _ _ hilt (fun t ht => stD_readG (D := fun j => listed.getD j false) hR hdown hilt hDi hready ht) (fun q hq => stD_readO (D := fun j => listed.getD j false) hR hdown hilt hDi hready hq) a w _ hI (fun a' w' hI' => ?_)
    have hset : ∀ j, (listed.setIfInBounds i true).getD j false = (listed.getD j false || j == i) := by
      intro j
      by_cases hj : j = i
      · subst hj; simp [hil]
      · rw [getD_set_ne false (fun e => hj e.symm)]
        simp [hj]
    refine ih (listed.setIfInBounds i true) a' w' (by simpa using hls) ?_ ?_ ?_
    · have hget : listed.toList[i]? = some false := by
        simp [hil] at hun
        simp [hil, hun]
      have : (listed.setIfInBounds i true).toList.count false + 1 = listed.toList.count false := by
        rw [Array.toList_setIfInBounds]
        have : ∀ (l : List Bool) (i : Nat), l[i]? = some false → (l.set i true).count false + 1 = l.count false := by
          intro l
          induction l with
          | nil => intro i h; simp at h
          | cons x l ihl =>
            intro i h
            cases i with
            | zero => simp at h; subst h; simp
            | succ i =>
              have := ihl i (by simpa using h)
              simp only [List.set_cons_succ, List.count_cons]
              omega
        exact this _ _ hget
      omega
    · intro j oj hoj hj e he hb
      rw [hset] at hj ⊢
      simp only [Bool.or_eq_true, beq_iff_eq] at hj ⊢
      rcases hj with hj | rfl
      · exact .inl (hcl j oj hoj hj e he hb)
      · rw [ho] at hoj; cases hoj
        exact .inl (hall e he hb)
    · have e1 : (fun j => (listed.setIfInBounds i true).getD j false) = (fun j => listed.getD j false || j == i) := funext hset
      rw [e1, stD_one hR hdown hilt hDi]
      exact hI'
end Dv
