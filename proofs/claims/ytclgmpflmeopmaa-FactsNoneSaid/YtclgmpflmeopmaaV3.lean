/- The logical machine: part V3. -/
import Derived.Test.YtclgmpflmeopmaaV2
set_option linter.unusedVariables false
set_option linter.unusedSimpArgs false
namespace Dv
open Go

/-! ## Stores -/
theorem splice_cons {α : Type} (l : List α) (o : Nat) (x : α) (xs : List α) (h : o < l.length) : splice (l.set o x) (o + 1) xs = splice l o (x :: xs) := by
  unfold splice
  rw [List.take_set, List.take_add_one, List.getElem?_eq_getElem h, List.drop_set]
  simp only [List.length_cons, show ¬ (o + 1 + xs.length ≤ o) by omega]
  rw [if_pos (by omega), List.set_append, List.length_take, Nat.min_eq_left (by omega), if_neg (by omega)]
  simp only [Option.toList_some, Nat.sub_self, List.set_cons_zero, List.append_assoc, List.singleton_append, List.cons_append, List.nil_append]
  rw [show o + 1 + xs.length = o + (xs.length + 1) by omega]

theorem splice_length {α : Type} (l : List α) (o : Nat) (xs : List α) (h : o + xs.length ≤ l.length) : (splice l o xs).length = l.length := by
  unfold splice
  simp only [List.length_append, List.length_take, List.length_drop]; omega

theorem heap_setCells {b : Nat} {et : TypeId} {fr : Nat × Nat} : ∀ (vs : List Value) (o : Nat) (w : World) (C : Array Value), w.heap[b]? = some (.cells C et fr) → o + vs.length ≤ C.size →
    ∃ C', (w.setCells b o vs).heap[b]? = some (.cells C' et fr) ∧ C'.toList = splice C.toList o vs
  | [], o, w, C, h, hl => ⟨C, h, by simp [splice]⟩
  | v :: r, o, w, C, h, hl => by
    simp only [List.length_cons] at hl
    have h1 : (w.setCell ⟨b, o, none⟩ v).heap[b]? = some (.cells (C.setIfInBounds o v) et fr) := by
      simp [World.setCell, Array.getElem?_modify, h]
    obtain ⟨C', h2, h3⟩ := heap_setCells r (o + 1) _ _ h1 (by simp; omega)
    refine ⟨C', by rw [World.setCells]; exact h2, ?_⟩
    rw [h3, Array.toList_setIfInBounds, splice_cons _ _ _ _ (by simp; omega)]

theorem heap_setCells_other {b k : Nat} (h : k ≠ b) : ∀ (vs : List Value) (o : Nat) (w : World), (w.setCells b o vs).heap[k]? = w.heap[k]?
  | [], _, _ => rfl
  | v :: r, o, w => by
    rw [World.setCells, heap_setCells_other h r]
    simp only [World.setCell, Array.getElem?_modify]
    rw [if_neg (by omega)]

theorem size_setCells (b : Nat) : ∀ (vs : List Value) (o : Nat) (w : World), (w.setCells b o vs).heap.size = w.heap.size
  | [], _, _ => rfl
  | v :: r, o, w => by rw [World.setCells, size_setCells b r]; simp

theorem rest_setCells (b : Nat) : ∀ (vs : List Value) (o : Nat) (w : World), (w.setCells b o vs).os = w.os ∧ (w.setCells b o vs).tape = w.tape ∧ (w.setCells b o vs).output = w.output
  | [], _, _ => ⟨rfl, rfl, rfl⟩
  | v :: r, o, w => by rw [World.setCells]; exact rest_setCells b r (o + 1) _

theorem shape_setCells (b : Nat) : ∀ (vs : List Value) (o : Nat) (w : World) (k : Nat), (w.setCells b o vs).shape? k = w.shape? k
  | [], _, _, _ => rfl
  | v :: r, o, w, k => by
    rw [World.setCells, shape_setCells b r]
    simp only [World.setCell, World.shape?, Array.getElem?_modify]
    by_cases hb : b = k
    · subst hb
      simp only [if_true]
      cases w.heap[b]? with
      | none => rfl
      | some x => cases x <;> simp
    · rw [if_neg hb]

theorem heap_alloc_old' (w : World) (o : Obj) (k : Nat) (h : k < w.heap.size) : (w.alloc o).heap[k]? = w.heap[k]? := by
  show (w.heap.push o)[k]? = _
  rw [Array.getElem?_push, if_neg (by omega)]
theorem heap_alloc_new' (w : World) (o : Obj) : (w.alloc o).heap[w.heap.size]? = some o := by
  show (w.heap.push o)[w.heap.size]? = _
  rw [Array.getElem?_push, if_pos rfl]

theorem own_lt {J : Nat → Prop} {w : World} {ι : Nat → Nat → Option Nat} {o : Nat} {s : OSt} (h : OStRep J w ι o s) {b : Nat} (hb : s.own ι o b) : ∃ C et, w.heap[b]? = some (.cells C et (0, 0)) := by
  cases s with
  | free => exact hb.elim
  | dead => exact hb.elim
  | live ob =>
    cases ob with
    | box et cells =>
      obtain ⟨⟨b', C, h1, h2, h3⟩, _⟩ := h
      have : some b' = some b := h1.symm.trans hb
      cases this
      exact ⟨C, et, h2⟩
    | dat et esz rows =>
      obtain ⟨⟨_, h1⟩, _⟩ := h
      obtain ⟨⟨C, h2⟩, _⟩ := h1 b hb
      exact ⟨C, et, h2⟩
    | frz et esz rows => exact hb.elim

theorem lt_of_heap {w : World} {b : Nat} {x : Obj} (h : w.heap[b]? = some x) : b < w.heap.size := (Array.getElem?_eq_some_iff.1 h).1

section
variable {G : Nat → Option (List DV)} {J J' : Nat → Prop} {w w' : World} {ι ι' : Nat → Nat → Option Nat} {obj obj' : Nat → OSt}

theorem Store.own_lt (S : Store G J w ι obj) {b : Nat} (h : Own ι obj b) : b < w.heap.size := by
  obtain ⟨o, ho⟩ := h
  obtain ⟨C, et, hh⟩ := Dv.own_lt (S.rep o) ho
  exact lt_of_heap hh

/-- An object that is left alone stays. -/
theorem OStRep.keep (S : Store G J w ι obj) (E : Ev (Own ι obj) J J' ι ι' w w') {o : Nat} (hk : ∀ n, ι' o n = ι o n) (hb : ∀ b, (obj o).own ι o b → w'.heap[b]? = w.heap[b]?) : OStRep J' w' ι' o (obj o) := by
  have h := S.rep o
  cases hs : obj o with
  | free => rw [hs] at h; intro n; rw [hk]; exact h n
  | dead => trivial
  | live ob =>
    rw [hs] at h hb
    obtain ⟨h, hkey⟩ := h
    cases ob with
    | box et cells =>
      obtain ⟨b, C, h1, h2, h3⟩ := h
      exact ⟨⟨b, C, by rw [hk]; exact h1, by rw [hb b h1]; exact h2, h3.ev S E⟩, trivial⟩
    | dat et esz rows =>
      obtain ⟨h1, h2⟩ := h
      refine ⟨⟨by rw [hk]; exact h1, fun b hb' => ?_⟩, fun n hn => by rw [hk]; exact hkey n hn⟩
      rw [hk] at hb'
      obtain ⟨⟨C, h3⟩, h4⟩ := h2 b hb'
      exact ⟨⟨C, by rw [hb b hb']; exact h3⟩, h4.ev S E (hb b hb')⟩
    | frz et esz rows =>
      obtain ⟨h1, h2⟩ := h
      refine ⟨⟨by rw [hk]; exact h1, fun b hb' => ?_⟩, trivial⟩
      rw [hk] at hb'
      obtain ⟨h3, h4⟩ := h2 b hb'
      exact ⟨E.jmono b h3, h4.ev S E (S.same E b h3)⟩

theorem OSt.own_keep {o : Nat} {s : OSt} (hk : ∀ n, ι' o n = ι o n) {b : Nat} : s.own ι' o b ↔ s.own ι o b := by
  cases s with
  | free => exact Iff.rfl
  | dead => exact Iff.rfl
  | live ob => cases ob <;> simp only [OSt.own, LObj.own, hk]

/-- ONE OBJECT TURNS: object o0; its block is b0, which is its elder one or a new one. -/
theorem Store.turn (S : Store G J w ι obj) (o0 : Nat) (s : OSt) (E : Ev (Own ι obj) J J ι ι' w w') (hk : ∀ o, o ≠ o0 → ∀ n, ι' o n = ι o n)
    (hb : ∀ b, b < w.heap.size → ¬ (obj o0).own ι o0 b → w'.heap[b]? = w.heap[b]?)
    (hs : OStRep J w' ι' o0 s) (hown : ∀ b, s.own ι' o0 b → (obj o0).own ι o0 b ∨ w.heap.size ≤ b) :
    Store G J w' ι' (fun o => if o = o0 then s else obj o) ∧ Ext obj (fun o => if o = o0 then s else obj o) J J ι ι' w w' := by
  have hO : ∀ o b, (if o = o0 then s else obj o).own ι' o b → (o = o0 ∧ s.own ι' o0 b) ∨ (o ≠ o0 ∧ (obj o).own ι o b) := by
    intro o b h
    by_cases ho : o = o0
    · subst ho; rw [if_pos rfl] at h; exact .inl ⟨rfl, h⟩
    · rw [if_neg ho] at h; exact .inr ⟨ho, (OSt.own_keep (hk o ho)).1 h⟩
  have hlt : ∀ o b, (obj o).own ι o b → b < w.heap.size := fun o b h => S.own_lt ⟨o, h⟩
  refine ⟨⟨?_, ?_, ?_, ?_, ?_⟩, ⟨E, ?_⟩⟩
  · intro o
    by_cases ho : o = o0
    · subst ho; rw [if_pos rfl]; exact hs
    · rw [if_neg ho]
      exact OStRep.keep S E (hk o ho) (fun b h => hb b (hlt o b h) (fun h' => ho (S.inj o o0 b h h')))
  · intro o o' b h h'
    rcases hO o b h with ⟨e1, k⟩ | ⟨ho, k⟩ <;> rcases hO o' b h' with ⟨e2, k'⟩ | ⟨ho', k'⟩
    · rw [e1, e2]
    · rw [e1]
      rcases hown b k with h2 | h2
      · exact S.inj _ _ _ h2 k'
      · have := hlt _ _ k'; omega
    · rw [e2]
      rcases hown b k' with h2 | h2
      · exact S.inj _ _ _ k h2
      · have := hlt _ _ k; omega
    · exact S.inj _ _ _ k k'
  · intro o b h hj
    rcases hO o b h with ⟨rfl, h⟩ | ⟨ho, h⟩
    · rcases hown b h with h2 | h2
      · exact S.disj _ _ h2 hj
      · have := S.jlt b hj; omega
    · exact S.disj _ _ h hj
  · intro b hj; rw [S.same E b hj]; exact S.jcell b hj
  · intro g row hg
    obtain ⟨h1, h2⟩ := S.glob g row hg
    exact ⟨h1, h2.ev S E h1⟩
  · rintro b ⟨o, h⟩
    rcases hO o b h with ⟨rfl, h⟩ | ⟨ho, h⟩
    · exact (hown b h).imp (fun h => ⟨_, h⟩) id
    · exact .inl ⟨o, h⟩

/-- A new block changes nothing that was there. -/
theorem Ev.alloc (W J : Nat → Prop) (w : World) (n : Nat) (x : Obj) (hi : ∀ o n b, ι o n = some b → ι' o n = some b) : Ev W J J ι ι' w ({ w with drawn := n }.alloc x) := by
  refine ⟨rfl, rfl, rfl, by simp, fun b hb _ => ?_, fun b hb => ?_, fun _ h => h, fun _ h => .inl h, hi⟩
  · exact heap_alloc_old' { w with drawn := n } x b hb
  · exact shape_of_heap (heap_alloc_old' { w with drawn := n } x b hb)

/-- Cells set in one owned block. -/
theorem Ev.setCells (J : Nat → Prop) (w : World) (b o : Nat) (vs : List Value) (hw : Own ι obj b) (hi : ∀ o n b, ι o n = some b → ι' o n = some b) : Ev (Own ι obj) J J ι ι' w (w.setCells b o vs) := by
  obtain ⟨h1, h2, h3⟩ := rest_setCells b vs o w
  refine ⟨h1, h2, h3, by rw [size_setCells]; exact Nat.le_refl _, fun k hk hn => ?_, fun k hk => shape_setCells b vs o w k, fun _ h => h, fun _ h => .inl h, hi⟩
  exact heap_setCells_other (fun e => hn (by rw [e]; exact hw)) vs o w
end

/-! ## Lists -/
section
variable {J : Nat → Prop} {w : World} {ι : Nat → Nat → Option Nat}

theorem RepL.length : ∀ {xs : List LV} {vs : List Value}, RepL J w ι xs vs → xs.length = vs.length
  | [], [], _ => rfl
  | x :: xs, v :: vs, h => by simp [RepL.length h.2]
  | [], _ :: _, h => h.elim
  | _ :: _, [], h => h.elim
theorem RepC.length : ∀ {xs : List LV} {vs : List Value}, RepC J w ι xs vs → xs.length = vs.length
  | [], [], _ => rfl
  | x :: xs, v :: vs, h => by simp [RepC.length h.2.2]
  | [], _ :: _, h => h.elim
  | _ :: _, [], h => h.elim
theorem RepC.get : ∀ {xs : List LV} {vs : List Value} {i : Nat} {x : LV}, RepC J w ι xs vs → xs[i]? = some x → ∃ v, vs[i]? = some v ∧ v.oneCell' = true ∧ Rep J w ι x v
  | [], [], i, x, _, h => by simp at h
  | y :: xs, v :: vs, 0, x, h, hx => by simp at hx; subst hx; exact ⟨v, by simp, h.1, h.2.1⟩
  | y :: xs, v :: vs, i + 1, x, h, hx => by simpa using RepC.get h.2.2 (by simpa using hx)
  | [], _ :: _, _, _, h, _ => h.elim
  | _ :: _, [], _, _, h, _ => h.elim
theorem RepL.get : ∀ {xs : List LV} {vs : List Value} {i : Nat} {x : LV}, RepL J w ι xs vs → xs[i]? = some x → ∃ v, vs[i]? = some v ∧ Rep J w ι x v
  | [], [], i, x, _, h => by simp at h
  | y :: xs, v :: vs, 0, x, h, hx => by simp at hx; subst hx; exact ⟨v, by simp, h.1⟩
  | y :: xs, v :: vs, i + 1, x, h, hx => by simpa using RepL.get h.2 (by simpa using hx)
  | [], _ :: _, _, _, h, _ => h.elim
  | _ :: _, [], _, _, h, _ => h.elim
theorem RepC.one : ∀ {xs : List LV} {vs : List Value}, RepC J w ι xs vs → ∀ v ∈ vs, v.oneCell' = true
  | [], [], _, v, h => by cases h
  | x :: xs, y :: vs, h, v, hv => by
    rcases List.mem_cons.1 hv with rfl | hv
    · exact h.1
    · exact RepC.one h.2.2 v hv
  | [], _ :: _, h, _, _ => h.elim
  | _ :: _, [], h, _, _ => h.elim
theorem RepC.append : ∀ {xs ys : List LV} {vs us : List Value}, RepC J w ι xs vs → RepC J w ι ys us → RepC J w ι (xs ++ ys) (vs ++ us)
  | [], ys, [], us, _, h => h
  | x :: xs, ys, v :: vs, us, h, k => ⟨h.1, h.2.1, RepC.append h.2.2 k⟩
  | [], _, _ :: _, _, h, _ => h.elim
  | _ :: _, _, [], _, h, _ => h.elim
theorem RepC.take : ∀ (n : Nat) {xs : List LV} {vs : List Value}, RepC J w ι xs vs → RepC J w ι (xs.take n) (vs.take n)
  | 0, _, _, _ => by simp [RepC]
  | n + 1, [], [], _ => by simp [RepC]
  | n + 1, x :: xs, v :: vs, h => by simpa [RepC] using ⟨h.1, h.2.1, RepC.take n h.2.2⟩
  | _ + 1, [], _ :: _, h => h.elim
  | _ + 1, _ :: _, [], h => h.elim
theorem RepC.drop : ∀ (n : Nat) {xs : List LV} {vs : List Value}, RepC J w ι xs vs → RepC J w ι (xs.drop n) (vs.drop n)
  | 0, _, _, h => by simpa using h
  | n + 1, [], [], _ => by simp [RepC]
  | n + 1, x :: xs, v :: vs, h => by simpa using RepC.drop n h.2.2
  | _ + 1, [], _ :: _, h => h.elim
  | _ + 1, _ :: _, [], h => h.elim
theorem RepC.splice {xs ys : List LV} {vs us : List Value} (o : Nat) (h : RepC J w ι xs vs) (k : RepC J w ι ys us) : RepC J w ι (splice xs o ys) (splice vs o us) := by
  unfold Dv.splice
  rw [k.length]
  exact (RepC.append (RepC.append (h.take o) k) (h.drop _))
theorem RepC.toL : ∀ {xs : List LV} {vs : List Value}, RepC J w ι xs vs → RepL J w ι xs vs
  | [], [], _ => trivial
  | x :: xs, v :: vs, h => ⟨h.2.1, RepC.toL h.2.2⟩
  | [], _ :: _, h => h.elim
  | _ :: _, [], h => h.elim
theorem RepC.ofL : ∀ {xs : List LV} {vs : List Value}, RepL J w ι xs vs → (∀ v ∈ vs, v.oneCell' = true) → RepC J w ι xs vs
  | [], [], _, _ => trivial
  | x :: xs, v :: vs, h, k => ⟨k v (by simp), h.1, RepC.ofL h.2 (fun u hu => k u (by simp [hu]))⟩
  | [], _ :: _, h, _ => h.elim
  | _ :: _, [], h, _ => h.elim
theorem RepDL.toL : ∀ {xs : List DV} {vs : List Value}, RepDL J w xs vs → RepL J w ι (xs.map .d) vs
  | [], [], _ => trivial
  | x :: xs, v :: vs, h => ⟨h.1, RepDL.toL h.2⟩
  | [], _ :: _, h => h.elim
  | _ :: _, [], h => h.elim

/-- Rows in memory, by cells. -/
theorem RowD.get {b : Nat} : ∀ {xs : List DV} {off i : Nat} {x : DV}, RowD J w xs b off → xs[i]? = some x → ∃ v, w.cell? ⟨b, off + i, none⟩ = some v ∧ v.oneCell' = true ∧ RepD J w x v
  | [], off, i, x, _, h => by simp at h
  | y :: xs, off, 0, x, h, hx => by simp at hx; subst hx; exact h.1
  | y :: xs, off, i + 1, x, h, hx => by
    have := RowD.get h.2 (by simpa using hx : xs[i]? = some x)
    rwa [show off + (i + 1) = off + 1 + i by omega]
theorem RowD.drop {b : Nat} : ∀ (n : Nat) {xs : List DV} {off : Nat}, RowD J w xs b off → RowD J w (xs.drop n) b (off + n)
  | 0, _, _, h => by simpa using h
  | n + 1, [], _, _ => by simp [RowD]
  | n + 1, x :: xs, off, h => by
    have := RowD.drop n h.2
    rw [show off + (n + 1) = off + 1 + n by omega]
    simpa using this
theorem RowD.take {b : Nat} : ∀ (n : Nat) {xs : List DV} {off : Nat}, RowD J w xs b off → RowD J w (xs.take n) b off
  | 0, _, _, h => by simp [RowD]
  | n + 1, [], _, _ => by simp [RowD]
  | n + 1, x :: xs, off, h => by simpa [RowD] using ⟨h.1, RowD.take n h.2⟩
theorem RowD.append {b : Nat} : ∀ {xs ys : List DV} {off : Nat}, RowD J w xs b off → RowD J w ys b (off + xs.length) → RowD J w (xs ++ ys) b off
  | [], ys, off, _, h => by simpa using h
  | x :: xs, ys, off, h, k => ⟨h.1, RowD.append h.2 (by rw [show off + 1 + xs.length = off + (xs.length + 1) by omega]; exact k)⟩
/-- The values of a row. -/
theorem RowD.vals {b : Nat} : ∀ {xs : List DV} {off : Nat}, RowD J w xs b off → ∃ vs : List Value, RepDL J w xs vs ∧ (∀ v ∈ vs, v.oneCell' = true) ∧ w.rangeAt b off vs
  | [], off, _ => ⟨[], trivial, by simp, fun j v h => by simp at h⟩
  | x :: xs, off, h => by
    obtain ⟨⟨v, h1, h2, h3⟩, hr⟩ := h
    obtain ⟨vs, k1, k2, k3⟩ := RowD.vals hr
    refine ⟨v :: vs, ⟨h3, k1⟩, by simpa [h2] using k2, fun j u hu => ?_⟩
    cases j with
    | zero => simp at hu; subst hu; simpa using h1
    | succ j => have := k3 j u (by simpa using hu); rwa [show off + (j + 1) = off + 1 + j by omega]
theorem RowD.of {b : Nat} : ∀ {xs : List DV} {vs : List Value} {off : Nat}, RepDL J w xs vs → (∀ v ∈ vs, v.oneCell' = true) → w.rangeAt b off vs → RowD J w xs b off
  | [], [], off, _, _, _ => trivial
  | x :: xs, v :: vs, off, h, k, r => by
    refine ⟨⟨v, by simpa using r 0 v (by simp), k v (by simp), h.1⟩, RowD.of h.2 (fun u hu => k u (by simp [hu])) (fun j u hu => ?_)⟩
    have := r (j + 1) u (by simpa using hu)
    rwa [show off + (j + 1) = off + 1 + j by omega] at this
  | [], _ :: _, _, h, _, _ => h.elim
  | _ :: _, [], _, h, _, _ => h.elim
theorem RepDL.length : ∀ {xs : List DV} {vs : List Value}, RepDL J w xs vs → xs.length = vs.length
  | [], [], _ => rfl
  | x :: xs, v :: vs, h => by simp [RepDL.length h.2]
  | [], _ :: _, h => h.elim
  | _ :: _, [], h => h.elim
theorem RowsD.get {b esz : Nat} : ∀ {rs : List (List DV)} {off i : Nat} {r : List DV}, RowsD J w esz rs b off → rs[i]? = some r → r.length = esz ∧ RowD J w r b (off + i * esz)
  | [], off, i, x, _, h => by simp at h
  | y :: xs, off, 0, x, h, hx => by simp at hx; subst hx; simpa using ⟨h.1, h.2.1⟩
  | y :: xs, off, i + 1, x, h, hx => by
    have := RowsD.get h.2.2 (by simpa using hx : xs[i]? = some x)
    rwa [show off + (i + 1) * esz = off + esz + i * esz by rw [Nat.add_mul]; omega]
theorem RowsD.of {b esz : Nat} : ∀ {rs : List (List DV)} {off : Nat}, (∀ i r, rs[i]? = some r → r.length = esz ∧ RowD J w r b (off + i * esz)) → RowsD J w esz rs b off
  | [], _, _ => trivial
  | r :: rs, off, h => by
    have h0 := h 0 r (by simp)
    refine ⟨h0.1, by simpa using h0.2, RowsD.of (fun i x hx => ?_)⟩
    have := h (i + 1) x (by simpa using hx)
    rwa [show off + (i + 1) * esz = off + esz + i * esz by rw [Nat.add_mul]; omega] at this
theorem RowsD.drop {b esz : Nat} : ∀ (n : Nat) {rs : List (List DV)} {off : Nat}, RowsD J w esz rs b off → RowsD J w esz (rs.drop n) b (off + n * esz)
  | 0, _, _, h => by simpa using h
  | n + 1, [], _, _ => by simp [RowsD]
  | n + 1, x :: xs, off, h => by
    have := RowsD.drop n h.2.2
    rw [show off + (n + 1) * esz = off + esz + n * esz by rw [Nat.add_mul]; omega]
    simpa using this
theorem RowsD.take {b esz : Nat} : ∀ (n : Nat) {rs : List (List DV)} {off : Nat}, RowsD J w esz rs b off → RowsD J w esz (rs.take n) b off
  | 0, _, _, h => by simp [RowsD]
  | n + 1, [], _, _ => by simp [RowsD]
  | n + 1, x :: xs, off, h => by simpa [RowsD] using ⟨h.1, h.2.1, RowsD.take n h.2.2⟩
theorem RowsD.append {b esz : Nat} : ∀ {xs ys : List (List DV)} {off : Nat}, RowsD J w esz xs b off → RowsD J w esz ys b (off + xs.length * esz) → RowsD J w esz (xs ++ ys) b off
  | [], ys, off, _, h => by simpa using h
  | x :: xs, ys, off, h, k => ⟨h.1, h.2.1, RowsD.append h.2.2 (by rw [show off + esz + xs.length * esz = off + (xs.length + 1) * esz by rw [Nat.add_mul]; omega]; exact k)⟩
/-- Rows as one row of cells. -/
theorem RowsD.flat {b esz : Nat} : ∀ {rs : List (List DV)} {off : Nat}, RowsD J w esz rs b off → RowD J w rs.flatten b off ∧ rs.flatten.length = rs.length * esz
  | [], _, _ => ⟨trivial, by simp⟩
  | r :: rs, off, h => by
    obtain ⟨k1, k2⟩ := RowsD.flat h.2.2
    refine ⟨?_, by simp [k2, h.1, Nat.add_mul]; omega⟩
    simp only [List.flatten_cons]
    exact RowD.append h.2.1 (by rw [h.1]; exact k1)
theorem RowsD.unflat {b esz : Nat} : ∀ {rs : List (List DV)} {off : Nat}, (∀ r ∈ rs, r.length = esz) → RowD J w rs.flatten b off → RowsD J w esz rs b off
  | [], _, _, _ => trivial
  | r :: rs, off, hl, h => by
    simp only [List.flatten_cons] at h
    have hr := hl r (by simp)
    have h1 := h.take r.length
    have h2 := h.drop r.length
    simp only [List.take_left, List.drop_left] at h1 h2
    rw [hr] at h2
    exact ⟨hr, h1, RowsD.unflat (fun x hx => hl x (by simp [hx])) h2⟩
end
end Dv
