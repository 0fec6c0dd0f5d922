/- The logical machine: part V1. -/
import Derived.ProofKit
import Derived.Deep.MidRow
import Derived.Deep.AppendSrc
import Derived.Deep.Upon
set_option linter.unusedVariables false
set_option linter.unusedSimpArgs false
namespace Dv
open Go

/-- Data that nobody turns any more. -/
inductive DV where
  | val (v : Value)
  | lst (esz : Nat) (rows : List (List DV))
  | fn (f : Fn) (first captured : List DV)
  | ifc (t : TypeId) (v : DV)
  | agg (cs : List DV)


/-- A logical value. -/
inductive LV where
  | top
  | anyb
  | d (x : DV)
  | ptr (o col : Nat)
  | rp (o n esz row col : Nat)
  | ip (row : List DV) (col : Nat)
  | sl (o n esz lo len : Nat)
  | fn (f : Fn) (first captured : List LV)
  | agg (cs : List LV)
  | tup (vs : List LV)
  | ifc (t : TypeId) (v : LV)


section
variable (J : Nat → Prop) (w : World)
mutual
def RepD : DV → Value → Prop
  | .val v, x => x = v
  | .lst esz rows, x => ∃ a n cap, x = .slice a n cap ∧ n = rows.length ∧ n ≤ cap ∧ (rows = [] ∨ ∃ b off, a = some ⟨b, off, none⟩ ∧ J b ∧ RowsD esz rows b off)
  | .fn f fs cs, x => ∃ fs' cs', x = .func f fs' cs' ∧ RepDL fs fs'.toList ∧ RepDL cs cs'.toList
  | .ifc t y, x => ∃ z, x = .iface t z ∧ RepD y z
  | .agg cs, x => ∃ xs, x = .agg xs ∧ RepDL cs xs.toList ∧ ∀ v ∈ xs.toList, v.oneCell' = true
def RepDL : List DV → List Value → Prop
  | [], [] => True
  | x :: xs, v :: vs => RepD x v ∧ RepDL xs vs
  | _, _ => False
def RowD : List DV → Nat → Nat → Prop
  | [], _, _ => True
  | x :: xs, b, off => (∃ v, w.cell? ⟨b, off, none⟩ = some v ∧ v.oneCell' = true ∧ RepD x v) ∧ RowD xs b (off + 1)
def RowsD (esz : Nat) : List (List DV) → Nat → Nat → Prop
  | [], _, _ => True
  | r :: rs, b, off => r.length = esz ∧ RowD r b off ∧ RowsD esz rs b (off + esz)
end

variable (ι : Nat → Nat → Option Nat)
mutual
def Rep : LV → Value → Prop
  | .top, _ => True
  | .anyb, v => ∃ b, v = .bool b
  | .d x, v => RepD J w x v
  | .ptr o col, v => ∃ b, ι o 0 = some b ∧ v = .pointer (some ⟨b, col, none⟩)
  | .rp o n esz row col, v => ∃ b, ι o n = some b ∧ v = .pointer (some ⟨b, row * esz + col, none⟩)
  | .ip row col, v => ∃ b off, J b ∧ v = .pointer (some ⟨b, off + col, none⟩) ∧ RowD J w row b off
  | .sl o n esz lo len, v => (len = 0 ∧ ∃ a, v = .slice a 0 0) ∨
      ∃ b cap et C, ι o n = some b ∧ v = .slice (some ⟨b, lo * esz, none⟩) len cap ∧ len ≤ cap ∧ w.shape? b = some (et, C) ∧ (lo + cap) * esz ≤ C
  | .fn f fs cs, v => ∃ fs' cs', v = .func f fs' cs' ∧ RepL fs fs'.toList ∧ RepL cs cs'.toList
  | .agg cs, v => ∃ xs, v = .agg xs ∧ RepC cs xs.toList
  | .tup vs, v => ∃ xs, v = .tuple xs ∧ RepL vs xs.toList
  | .ifc t x, v => ∃ y, v = .iface t y ∧ Rep x y
def RepL : List LV → List Value → Prop
  | [], [] => True
  | x :: xs, v :: vs => Rep x v ∧ RepL xs vs
  | _, _ => False
def RepC : List LV → List Value → Prop
  | [], [] => True
  | x :: xs, v :: vs => v.oneCell' = true ∧ Rep x v ∧ RepC xs vs
  | _, _ => False
end
end

/-- How a world and its readings go on: the blocks of W may be written; all else stands. -/
structure Ev (W J J' : Nat → Prop) (ι ι' : Nat → Nat → Option Nat) (w w' : World) : Prop where
  os : w'.os = w.os
  tape : w'.tape = w.tape
  output : w'.output = w.output
  size : w.heap.size ≤ w'.heap.size
  same : ∀ b, b < w.heap.size → ¬ W b → w'.heap[b]? = w.heap[b]?
  shape : ∀ b, b < w.heap.size → w'.shape? b = w.shape? b
  jmono : ∀ b, J b → J' b
  jnew : ∀ b, J' b → J b ∨ w.heap.size ≤ b ∨ W b
  imono : ∀ o n b, ι o n = some b → ι' o n = some b

theorem Ev.refl (W J : Nat → Prop) (ι : Nat → Nat → Option Nat) (w : World) : Ev W J J ι ι w w :=
  ⟨rfl, rfl, rfl, Nat.le_refl _, fun _ _ _ => rfl, fun _ _ => rfl, fun _ h => h, fun _ h => .inl h, fun _ _ _ h => h⟩

theorem cell_of_heap {w w' : World} {b o : Nat} (h : w'.heap[b]? = w.heap[b]?) : w'.cell? ⟨b, o, none⟩ = w.cell? ⟨b, o, none⟩ := by
  simp only [World.cell?, h]

theorem shape_of_heap {w w' : World} {b : Nat} (h : w'.heap[b]? = w.heap[b]?) : w'.shape? b = w.shape? b := by
  simp only [World.shape?, h]

section mono
variable {J J' : Nat → Prop} {w w' : World}
mutual
theorem RepD.mono (hj : ∀ b, J b → J' b) (hs : ∀ b, J b → w'.heap[b]? = w.heap[b]?) : ∀ (x : DV) (v : Value), RepD J w x v → RepD J' w' x v
  | .val v, x, h => h
  | .lst esz rows, x, h => by
    obtain ⟨a, n, cap, rfl, hn, hc, h⟩ := h
    refine ⟨a, n, cap, rfl, hn, hc, h.imp id ?_⟩
    rintro ⟨b, off, ha, hb, hr⟩
    exact ⟨b, off, ha, hj b hb, RowsD.mono hj hs esz rows b off (hs b hb) hr⟩
  | .fn f fs cs, x, h => by
    obtain ⟨fs', cs', rfl, h1, h2⟩ := h
    exact ⟨fs', cs', rfl, RepDL.mono hj hs fs _ h1, RepDL.mono hj hs cs _ h2⟩
  | .ifc t y, x, h => by
    obtain ⟨z, rfl, h1⟩ := h
    exact ⟨z, rfl, RepD.mono hj hs y z h1⟩
  | .agg cs, x, h => by
    obtain ⟨xs, rfl, h1, h2⟩ := h
    exact ⟨xs, rfl, RepDL.mono hj hs cs _ h1, h2⟩
theorem RepDL.mono (hj : ∀ b, J b → J' b) (hs : ∀ b, J b → w'.heap[b]? = w.heap[b]?) : ∀ (xs : List DV) (vs : List Value), RepDL J w xs vs → RepDL J' w' xs vs
  | [], [], _ => trivial
  | x :: xs, v :: vs, h => ⟨RepD.mono hj hs x v h.1, RepDL.mono hj hs xs vs h.2⟩
  | [], _ :: _, h => h.elim
  | _ :: _, [], h => h.elim
theorem RowD.mono (hj : ∀ b, J b → J' b) (hs : ∀ b, J b → w'.heap[b]? = w.heap[b]?) : ∀ (xs : List DV) (b off : Nat), w'.heap[b]? = w.heap[b]? → RowD J w xs b off → RowD J' w' xs b off
  | [], _, _, _, _ => trivial
  | x :: xs, b, off, hb, h => by
    obtain ⟨⟨v, hv, h1, hx⟩, hr⟩ := h
    exact ⟨⟨v, by rw [cell_of_heap hb]; exact hv, h1, RepD.mono hj hs x v hx⟩, RowD.mono hj hs xs b (off + 1) hb hr⟩
theorem RowsD.mono (hj : ∀ b, J b → J' b) (hs : ∀ b, J b → w'.heap[b]? = w.heap[b]?) (esz : Nat) : ∀ (rs : List (List DV)) (b off : Nat), w'.heap[b]? = w.heap[b]? → RowsD J w esz rs b off → RowsD J' w' esz rs b off
  | [], _, _, _, _ => trivial
  | r :: rs, b, off, hb, h => ⟨h.1, RowD.mono hj hs r b off hb h.2.1, RowsD.mono hj hs esz rs b (off + esz) hb h.2.2⟩
end

variable {ι ι' : Nat → Nat → Option Nat}
mutual
theorem Rep.mono (hj : ∀ b, J b → J' b) (hs : ∀ b, J b → w'.heap[b]? = w.heap[b]?) (hi : ∀ o n b, ι o n = some b → ι' o n = some b)
    (hsh : ∀ b, (w.shape? b).isSome = true → w'.shape? b = w.shape? b) : ∀ (x : LV) (v : Value), Rep J w ι x v → Rep J' w' ι' x v
  | .top, _, _ => trivial
  | .anyb, _, h => h
  | .d x, v, h => RepD.mono hj hs x v h
  | .ptr o col, v, h => by obtain ⟨b, hb, rfl⟩ := h; exact ⟨b, hi _ _ _ hb, rfl⟩
  | .rp o n esz row col, v, h => by obtain ⟨b, hb, rfl⟩ := h; exact ⟨b, hi _ _ _ hb, rfl⟩
  | .ip row col, v, h => by
    obtain ⟨b, off, hb, rfl, hr⟩ := h
    exact ⟨b, off, hj b hb, rfl, RowD.mono hj hs row b off (hs b hb) hr⟩
  | .sl o n esz lo len, v, h => by
    rcases h with h | ⟨b, cap, et, C, hb, rfl, hl, hS, hC⟩
    · exact .inl h
    · exact .inr ⟨b, cap, et, C, hi _ _ _ hb, rfl, hl, by rw [hsh b (by rw [hS]; rfl)]; exact hS, hC⟩
  | .fn f fs cs, v, h => by
    obtain ⟨fs', cs', rfl, h1, h2⟩ := h
    exact ⟨fs', cs', rfl, RepL.mono hj hs hi hsh fs _ h1, RepL.mono hj hs hi hsh cs _ h2⟩
  | .agg cs, v, h => by obtain ⟨xs, rfl, h1⟩ := h; exact ⟨xs, rfl, RepC.mono hj hs hi hsh cs _ h1⟩
  | .tup vs, v, h => by obtain ⟨xs, rfl, h1⟩ := h; exact ⟨xs, rfl, RepL.mono hj hs hi hsh vs _ h1⟩
  | .ifc t x, v, h => by obtain ⟨y, rfl, h1⟩ := h; exact ⟨y, rfl, Rep.mono hj hs hi hsh x y h1⟩
theorem RepL.mono (hj : ∀ b, J b → J' b) (hs : ∀ b, J b → w'.heap[b]? = w.heap[b]?) (hi : ∀ o n b, ι o n = some b → ι' o n = some b)
    (hsh : ∀ b, (w.shape? b).isSome = true → w'.shape? b = w.shape? b) : ∀ (xs : List LV) (vs : List Value), RepL J w ι xs vs → RepL J' w' ι' xs vs
  | [], [], _ => trivial
  | x :: xs, v :: vs, h => ⟨Rep.mono hj hs hi hsh x v h.1, RepL.mono hj hs hi hsh xs vs h.2⟩
  | [], _ :: _, h => h.elim
  | _ :: _, [], h => h.elim
theorem RepC.mono (hj : ∀ b, J b → J' b) (hs : ∀ b, J b → w'.heap[b]? = w.heap[b]?) (hi : ∀ o n b, ι o n = some b → ι' o n = some b)
    (hsh : ∀ b, (w.shape? b).isSome = true → w'.shape? b = w.shape? b) : ∀ (xs : List LV) (vs : List Value), RepC J w ι xs vs → RepC J' w' ι' xs vs
  | [], [], _ => trivial
  | x :: xs, v :: vs, h => ⟨h.1, Rep.mono hj hs hi hsh x v h.2.1, RepC.mono hj hs hi hsh xs vs h.2.2⟩
  | [], _ :: _, h => h.elim
  | _ :: _, [], h => h.elim
end
end mono

/-- The objects. -/
inductive LObj where
  | box (et : TypeId) (cells : List LV)
  | dat (et : TypeId) (esz : Nat) (rows : List (List DV))
  | frz (et : TypeId) (esz : Nat) (rows : List (List DV))

inductive OSt where
  | free
  | dead
  | live (ob : LObj)

/-- The block that a live object owns. -/
def LObj.own (ι : Nat → Nat → Option Nat) (o : Nat) : LObj → Nat → Prop
  | .box _ _, b => ι o 0 = some b
  | .dat _ _ rows, b => ι o rows.length = some b
  | .frz .., _ => False

def OSt.own (ι : Nat → Nat → Option Nat) (o : Nat) : OSt → Nat → Prop
  | .live ob, b => ob.own ι o b
  | _, _ => False

def ObjRep (J : Nat → Prop) (w : World) (ι : Nat → Nat → Option Nat) (o : Nat) : LObj → Prop
  | .box et cells => ∃ b C, ι o 0 = some b ∧ w.heap[b]? = some (.cells C et (0, 0)) ∧ RepC J w ι cells C.toList
  | .dat et esz rows => (rows = [] ∨ (ι o rows.length).isSome = true) ∧ ∀ b, ι o rows.length = some b → (∃ C, w.heap[b]? = some (.cells C et (0, 0))) ∧ RowsD J w esz rows b 0
  | .frz et esz rows => (rows = [] ∨ (ι o rows.length).isSome = true) ∧ ∀ b, ι o rows.length = some b → J b ∧ RowsD J w esz rows b 0

def OStRep (J : Nat → Prop) (w : World) (ι : Nat → Nat → Option Nat) (o : Nat) : OSt → Prop
  | .free => ∀ n, ι o n = none
  | .dead => True
  | .live ob => ObjRep J w ι o ob ∧ (match ob with | .dat _ _ rows => ∀ n, rows.length < n → ι o n = none | _ => True)

/-- The store: what is owned, and what stands. -/
structure Store (G : Nat → Option (List DV)) (J : Nat → Prop) (w : World) (ι : Nat → Nat → Option Nat) (obj : Nat → OSt) : Prop where
  rep : ∀ o, OStRep J w ι o (obj o)
  inj : ∀ o o' b, (obj o).own ι o b → (obj o').own ι o' b → o = o'
  disj : ∀ o b, (obj o).own ι o b → ¬ J b
  jcell : ∀ b, J b → ∃ C t f, w.heap[b]? = some (.cells C t f)
  glob : ∀ g row, G g = some row → J g ∧ RowD J w row g 0

theorem Store.jlt {G : Nat → Option (List DV)} {J : Nat → Prop} {w : World} {ι : Nat → Nat → Option Nat} {obj : Nat → OSt} (S : Store G J w ι obj) (b : Nat) (h : J b) : b < w.heap.size := by
  obtain ⟨C, t, f, h⟩ := S.jcell b h
  exact (Array.getElem?_eq_some_iff.1 h).1

def Own (ι : Nat → Nat → Option Nat) (obj : Nat → OSt) (b : Nat) : Prop := ∃ o, (obj o).own ι o b
theorem Store.own_cell {G : Nat → Option (List DV)} {J : Nat → Prop} {w : World} {ι : Nat → Nat → Option Nat} {obj : Nat → OSt} (S : Store G J w ι obj) {b : Nat} (h : Own ι obj b) : ∃ C t f, w.heap[b]? = some (.cells C t f) := by
  obtain ⟨o, h⟩ := h
  have hr := S.rep o
  cases ho : obj o with
  | free => rw [ho] at h; exact h.elim
  | dead => rw [ho] at h; exact h.elim
  | live ob =>
    rw [ho] at h hr
    cases ob with
    | box et cells =>
      obtain ⟨⟨b', C, h1, h2, _⟩, _⟩ := hr
      have h : ι o 0 = some b := h
      rw [h1] at h; cases h
      exact ⟨_, _, _, h2⟩
    | dat et esz rows =>
      obtain ⟨⟨_, h1⟩, _⟩ := hr
      obtain ⟨⟨C, h2⟩, _⟩ := h1 b h
      exact ⟨_, _, _, h2⟩
    | frz et esz rows => exact h.elim

/-- From one store to a later one. -/
structure Ext (obj obj' : Nat → OSt) (J J' : Nat → Prop) (ι ι' : Nat → Nat → Option Nat) (w w' : World) : Prop where
  ev : Ev (Own ι obj) J J' ι ι' w w'
  own : ∀ b, Own ι' obj' b → Own ι obj b ∨ w.heap.size ≤ b

theorem Ext.refl (obj : Nat → OSt) (J : Nat → Prop) (ι : Nat → Nat → Option Nat) (w : World) : Ext obj obj J J ι ι w w := ⟨Ev.refl .., fun _ h => .inl h⟩

theorem Ext.trans {o1 o2 o3 : Nat → OSt} {J1 J2 J3 : Nat → Prop} {i1 i2 i3 : Nat → Nat → Option Nat} {w1 w2 w3 : World}
    (h : Ext o1 o2 J1 J2 i1 i2 w1 w2) (k : Ext o2 o3 J2 J3 i2 i3 w2 w3) : Ext o1 o3 J1 J3 i1 i3 w1 w3 := by
  have hs := h.ev.size
  refine ⟨⟨k.ev.os.trans h.ev.os, k.ev.tape.trans h.ev.tape, k.ev.output.trans h.ev.output, Nat.le_trans hs k.ev.size, ?_, ?_, fun b hb => k.ev.jmono b (h.ev.jmono b hb), ?_, fun o n b hb => k.ev.imono _ _ _ (h.ev.imono _ _ _ hb)⟩, ?_⟩
  · intro b hb hn
    rw [k.ev.same b (by omega) (fun hw => (h.own b hw).elim hn (by omega)), h.ev.same b hb hn]
  · intro b hb
    rw [k.ev.shape b (by omega), h.ev.shape b hb]
  · intro b hb
    rcases k.ev.jnew b hb with hb | hb | hb
    · exact h.ev.jnew b hb
    · exact .inr (.inl (by omega))
    · rcases h.own b hb with hb | hb
      · exact .inr (.inr hb)
      · exact .inr (.inl hb)
  · intro b hb
    rcases k.own b hb with hb | hb
    · exact h.own b hb
    · exact .inr (by omega)

theorem shape_lt {w : World} {b : Nat} (h : (w.shape? b).isSome = true) : b < w.heap.size := by
  unfold World.shape? at h
  rcases Nat.lt_or_ge b w.heap.size with hb | hb
  · exact hb
  · rw [Array.getElem?_eq_none hb] at h; cases h

section
variable {G : Nat → Option (List DV)} {J J' : Nat → Prop} {w w' : World} {ι ι' : Nat → Nat → Option Nat} {obj obj' : Nat → OSt}

theorem Store.same (S : Store G J w ι obj) (E : Ev (Own ι obj) J J' ι ι' w w') (b : Nat) (hb : J b) : w'.heap[b]? = w.heap[b]? :=
  E.same b (S.jlt b hb) (fun ⟨o, ho⟩ => S.disj o b ho hb)

/-- What was read reads on. -/
theorem Rep.ev (S : Store G J w ι obj) (E : Ev (Own ι obj) J J' ι ι' w w') {x : LV} {v : Value} (h : Rep J w ι x v) : Rep J' w' ι' x v :=
  Rep.mono E.jmono (S.same E) E.imono (fun b hb => E.shape b (shape_lt hb)) x v h
theorem RepL.ev (S : Store G J w ι obj) (E : Ev (Own ι obj) J J' ι ι' w w') {x : List LV} {v : List Value} (h : RepL J w ι x v) : RepL J' w' ι' x v :=
  RepL.mono E.jmono (S.same E) E.imono (fun b hb => E.shape b (shape_lt hb)) x v h
theorem RepC.ev (S : Store G J w ι obj) (E : Ev (Own ι obj) J J' ι ι' w w') {x : List LV} {v : List Value} (h : RepC J w ι x v) : RepC J' w' ι' x v :=
  RepC.mono E.jmono (S.same E) E.imono (fun b hb => E.shape b (shape_lt hb)) x v h
theorem RepD.ev (S : Store G J w ι obj) (E : Ev (Own ι obj) J J' ι ι' w w') {x : DV} {v : Value} (h : RepD J w x v) : RepD J' w' x v :=
  RepD.mono E.jmono (S.same E) x v h
theorem RowD.ev (S : Store G J w ι obj) (E : Ev (Own ι obj) J J' ι ι' w w') {x : List DV} {b off : Nat} (hb : J b) (h : RowD J w x b off) : RowD J' w' x b off :=
  RowD.mono E.jmono (S.same E) x b off (S.same E b hb) h
theorem RowsD.ev (S : Store G J w ι obj) (E : Ev (Own ι obj) J J' ι ι' w w') {esz : Nat} {x : List (List DV)} {b off : Nat} (hb : w'.heap[b]? = w.heap[b]?) (h : RowsD J w esz x b off) : RowsD J' w' esz x b off :=
  RowsD.mono E.jmono (S.same E) esz x b off hb h
end
end Dv
