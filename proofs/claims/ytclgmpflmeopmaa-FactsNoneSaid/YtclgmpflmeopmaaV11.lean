/- The logical machine: part V11. -/
import Derived.Test.YtclgmpflmeopmaaV10
set_option linter.unusedVariables false
set_option linter.unusedSimpArgs false
namespace Dv
open Go

/-- The callee's names in the caller's. -/
def piOf (ρ : List Nat) (base i : Nat) : Nat := match ρ[i]? with
  | some o => o
  | none => base + (i - ρ.length)

/-- Objects that are only read from now on. -/
def frzs (obj : Nat → OSt) : List Nat → List (Nat × LObj)
  | [] => []
  | z :: Z => match obj z with
    | .live (.dat et e rows) => (z, .frz et e rows) :: frzs obj Z
    | _ => frzs obj Z

/-- WHAT A CALL DOES, by a contract. -/
structure CallEff (P : Program) (G : Nat → Option (List DV)) (f : Nat) (args : List LV) (obj : Nat → OSt) (base : Nat) (e : Eff) : Prop where
  mk ::
  ex : ∃ (ρ Z : List Nat) (tmp : Bool) (fargs : List LV) (fobjs : List LObj) (r : LV) (fobjs' : List LObj),
    ρ.Nodup ∧ (∀ z ∈ Z, z ∉ ρ) ∧ (∀ z ∈ Z, ∃ et e rows, obj z = .live (.dat et e rows) ∨ obj z = .live (.frz et e rows)) ∧ fobjs.length = ρ.length ∧ (∀ (i o : Nat), ρ[i]? = some o → ∃ ob, fobjs[i]? = some ob ∧ obj o = .live (rnO (piOf ρ base) ob)) ∧ fobjs.all (idlO ρ.length) = true ∧
    argRs obj ρ Z args fargs ∧ (tmp = true → noJ r = true ∧ fobjs' = [] ∧ ρ = []) ∧ fobjs.length ≤ fobjs'.length ∧
    Tri P G f fargs fobjs r fobjs' ∧
    e = { r := rn (piOf ρ base) r, rd := ρ ++ Z, wr := (ρ.zip (fobjs'.map (rnO (piOf ρ base)))) ++ (if tmp then [] else frzs obj Z), nw := (fobjs'.drop ρ.length).map (rnO (piOf ρ base)) }

section
variable {P : Program} {G : Nat → Option (List DV)} {J J' : Nat → Prop} {w w' : World} {ι ι' : Nat → Nat → Option Nat} {obj : Nat → OSt}

theorem noJ_rn (π : Nat → Nat) : (∀ x : LV, noJ x = true → noJ (rn π x) = true) ∧ (∀ xs : List LV, noJs xs = true → noJs (rnL π xs) = true) := by
  have one : ∀ n, (∀ x : LV, sizeOf x < n → noJ x = true → noJ (rn π x) = true) ∧ (∀ xs : List LV, sizeOf xs < n → noJs xs = true → noJs (rnL π xs) = true) := by
    intro n
    induction n with
    | zero => exact ⟨fun _ h => absurd h (by omega), fun _ h => absurd h (by omega)⟩
    | succ n ih =>
      refine ⟨fun x hs h => ?_, fun xs hs h => ?_⟩
      · cases x <;> simp only [rn] <;> (try exact h) <;> simp only [noJ, Bool.and_eq_true] at h ⊢ <;> simp at hs
        · exact ⟨ih.2 _ (by omega) h.1, ih.2 _ (by omega) h.2⟩
        · exact ih.2 _ (by omega) h
        · exact ih.2 _ (by omega) h
        · exact ih.1 _ (by omega) h
      · cases xs with
        | nil => rfl
        | cons x xs =>
          simp only [rnL, noJs, Bool.and_eq_true] at h ⊢
          simp at hs
          exact ⟨ih.1 _ (by omega) h.1, ih.2 _ (by omega) h.2⟩
  exact ⟨fun x => (one (sizeOf x + 1)).1 x (by omega), fun xs => (one (sizeOf xs + 1)).2 xs (by omega)⟩

theorem newO_get : ∀ (l : List LObj) (base : Nat) (obj : Nat → OSt) (o : Nat), newO base l obj o = if base ≤ o then (match l[o - base]? with | some ob => .live ob | none => obj o) else obj o
  | [], base, obj, o => by simp [newO]
  | ob :: r, base, obj, o => by
    simp only [newO]
    by_cases h : o = base
    · subst h; simp
    · rw [if_neg h, newO_get r (base + 1) obj o]
      by_cases h2 : base + 1 ≤ o
      · rw [if_pos h2, if_pos (by omega)]
        have : o - base = (o - (base + 1)) + 1 := by omega
        rw [this]; simp
      · rw [if_neg h2, if_neg (by omega)]

theorem updO_append : ∀ (l m : List (Nat × LObj)) (obj : Nat → OSt), updO (l ++ m) obj = updO l (updO m obj)
  | [], _, _ => rfl
  | (k, ob) :: r, m, obj => by simp only [List.cons_append, updO, updO_append r m obj]

theorem updO_zip : ∀ (ρ : List Nat) (l : List LObj) (obj : Nat → OSt) (o : Nat), ρ.Nodup → ρ.length ≤ l.length →
    (∀ (i : Nat), ρ[i]? = some o → ∃ ob, l[i]? = some ob ∧ updO (ρ.zip l) obj o = .live ob) ∧ (o ∉ ρ → updO (ρ.zip l) obj o = obj o)
  | [], l, obj, o, _, _ => ⟨fun i h => by simp at h, fun _ => rfl⟩
  | k :: ρ, [], obj, o, _, h => by simp at h
  | k :: ρ, x :: l, obj, o, hn, h => by
    have hn' := List.nodup_cons.1 hn
    obtain ⟨h1, h2⟩ := updO_zip ρ l obj o hn'.2 (by simpa using h)
    refine ⟨fun i hi => ?_, fun ho => ?_⟩
    · cases i with
      | zero =>
        simp at hi; subst hi
        exact ⟨x, by simp, by simp [updO]⟩
      | succ i =>
        have hi' : ρ[i]? = some o := by simpa using hi
        obtain ⟨ob, k1, k2⟩ := h1 i hi'
        refine ⟨ob, by simpa using k1, ?_⟩
        simp only [List.zip_cons_cons, updO]
        have hok : o ≠ k := fun e => hn'.1 (by rw [← e]; exact List.mem_of_getElem? hi')
        rw [if_neg hok]
        exact k2
    · simp only [List.mem_cons, not_or] at ho
      simp only [List.zip_cons_cons, updO]
      rw [if_neg ho.1]; exact h2 ho.2

theorem updO_frzs (obj0 : Nat → OSt) : ∀ (Z : List Nat) (obj : Nat → OSt) (o : Nat),
    (o ∈ Z → ∀ et e rows, obj0 o = .live (.dat et e rows) → updO (frzs obj0 Z) obj o = .live (.frz et e rows)) ∧ ((o ∉ Z ∨ ∀ et e rows, obj0 o ≠ .live (.dat et e rows)) → updO (frzs obj0 Z) obj o = obj o)
  | [], obj, o => ⟨(fun h => by cases h), (fun _ => rfl)⟩
  | z :: Z, obj, o => by
    obtain ⟨h1, h2⟩ := updO_frzs obj0 Z obj o
    refine ⟨fun ho et e rows hob => ?_, fun ho => ?_⟩
    · simp only [frzs]
      by_cases hz : o = z
      · subst hz; rw [hob]; simp [updO]
      · have hoZ : o ∈ Z := (List.mem_cons.1 ho).resolve_left hz
        split
        · simp only [updO]; rw [if_neg hz]; exact h1 hoZ et e rows hob
        · exact h1 hoZ et e rows hob
    · simp only [frzs]
      have hr : updO (frzs obj0 Z) obj o = obj o := h2 (ho.imp (fun h hm => h (by simp [hm])) id)
      split
      · rename_i et e rows hob
        simp only [updO]
        by_cases hz : o = z
        · subst hz
          rcases ho with ho | ho
          · exact absurd (by simp) ho
          · exact absurd hob (ho et e rows)
        · rw [if_neg hz]; exact hr
      · exact hr

theorem objL_map (l : List LObj) (o : Nat) : objL (l.map some) o = (match l[o]? with | some ob => .live ob | none => .free) := by
  unfold objL
  rw [List.getElem?_map]
  cases l[o]? <;> rfl

theorem nodup_inj : ∀ {l : List Nat} {i j : Nat}, l.Nodup → (hi : i < l.length) → (hj : j < l.length) → l[i] = l[j] → i = j
  | [], i, _, _, hi, _, _ => by simp at hi
  | x :: l, 0, 0, _, _, _, _ => rfl
  | x :: l, 0, j + 1, hn, _, hj, h => by
    have := (List.nodup_cons.1 hn).1
    simp at h hj
    exact absurd (by rw [h]; exact List.getElem_mem _) this
  | x :: l, i + 1, 0, hn, hi, _, h => by
    have := (List.nodup_cons.1 hn).1
    simp at h hi
    exact absurd (by rw [← h]; exact List.getElem_mem _) this
  | x :: l, i + 1, j + 1, hn, hi, hj, h => by
    simp at h hi hj
    rw [nodup_inj (List.nodup_cons.1 hn).2 hi hj h]

theorem piOf_old {ρ : List Nat} {base i o : Nat} (h : ρ[i]? = some o) : piOf ρ base i = o := by simp [piOf, h]
theorem piOf_new {ρ : List Nat} {base i : Nat} (h : ρ.length ≤ i) : piOf ρ base i = base + (i - ρ.length) := by
  simp [piOf, List.getElem?_eq_none h]

theorem enter_run {f : Nat} (h : entersT P f = true) (args : Array Value) (w : World) : (callFunc f args).run P w = .ok (.enter f args) w := by
  unfold entersT at h
  split at h
  · rename_i fn hfn
    simp only [Bool.and_eq_true, bne_iff_ne, ne_eq] at h
    obtain ⟨h1, h2⟩ := h
    have h3 : fn.body.isNone = false := by cases hb : fn.body <;> simp_all
    simp only [callFunc, Sem.run_bind, run_program, Result.andThen_ok, hfn, h3]
    rw [if_neg (by simpa using h1)]
    rfl
  · cases h

/-- the callee's store out of the caller's. -/
theorem Store.sub (S : Store G J w ι obj) {ρ Z : List Nat} {fobjs : List LObj} {base : Nat} (hn : ρ.Nodup) (hz : ∀ z ∈ Z, z ∉ ρ) (hl : fobjs.length = ρ.length)
    (ho : ∀ (i o : Nat), ρ[i]? = some o → ∃ ob, fobjs[i]? = some ob ∧ obj o = .live (rnO (piOf ρ base) ob)) (hid : fobjs.all (idlO ρ.length) = true) :
    Store G (fun b => J b ∨ OwnZ ι obj Z b) w (subι ι ρ) (objL (fobjs.map some)) ∧ (∀ i b, (objL (fobjs.map some) i).own (subι ι ρ) i b → ∃ o, ρ[i]? = some o ∧ (obj o).own ι o b) := by
  have hown : ∀ i b, (objL (fobjs.map some) i).own (subι ι ρ) i b → ∃ o, ρ[i]? = some o ∧ (obj o).own ι o b := by
    intro i b h
    rw [objL_map] at h
    cases hi : fobjs[i]? with
    | none => rw [hi] at h; exact h.elim
    | some ob =>
      rw [hi] at h
      have hlt : i < ρ.length := by rw [← hl]; exact (List.getElem?_eq_some_iff.1 hi).1
      obtain ⟨ob', k1, k2⟩ := ho i _ (List.getElem?_eq_getElem hlt)
      rw [hi] at k1; cases k1
      refine ⟨ρ[i], List.getElem?_eq_getElem hlt, ?_⟩
      rw [k2]
      cases ob <;> (simp [OSt.own, LObj.own, rnO, subι, List.getElem?_eq_getElem hlt] at h ⊢; try exact h)
  refine ⟨⟨fun i => ?_, ?_, ?_, ?_, ?_⟩, hown⟩
  · rw [objL_map]
    cases hi : fobjs[i]? with
    | none =>
      intro n
      have : ρ[i]? = none := List.getElem?_eq_none (by rw [← hl]; exact List.getElem?_eq_none_iff.1 hi)
      simp [subι, this]
    | some ob =>
      have hlt : i < ρ.length := by rw [← hl]; exact (List.getElem?_eq_some_iff.1 hi).1
      have hρ := List.getElem?_eq_getElem hlt
      obtain ⟨ob', k1, k2⟩ := ho i _ hρ
      rw [hi] at k1; cases k1
      have hrep := S.rep ρ[i]
      rw [k2] at hrep
      have hsub : ∀ n, subι ι ρ i n = ι ρ[i] n := fun n => by simp [subι, hρ]
      have hidl : idlO ρ.length ob = true := (List.all_eq_true.1 hid) ob (List.mem_of_getElem? hi)
      cases ob with
      | box et cells =>
        obtain ⟨⟨b, C, h1, h2, h3⟩, _⟩ := hrep
        refine ⟨⟨b, C, by rw [hsub]; exact h1, h2, ?_⟩, trivial⟩
        have h4 : RepC J w (subι ι ρ) cells C.toList := RepC.rn (k0 := ρ.length) (π := piOf ρ base) (fun o n b ho hb => by
          have hq := List.getElem?_eq_getElem ho
          rw [piOf_old hq] at hb
          simp [subι, hq, hb]) cells _ (by simpa [idlO] using hidl) h3
        exact RepC.mono (fun _ h => .inl h) (fun _ _ => rfl) (fun _ _ _ h => h) (fun _ _ => rfl) _ _ h4
      | dat et e rows =>
        obtain ⟨⟨h1, h2⟩, h3⟩ := hrep
        refine ⟨⟨by rw [hsub]; exact h1, fun b hb => ?_⟩, fun n hn => by rw [hsub]; exact h3 n hn⟩
        rw [hsub] at hb
        obtain ⟨h4, h5⟩ := h2 b hb
        exact ⟨h4, RowsD.mono (fun _ h => .inl h) (fun _ _ => rfl) _ _ _ _ rfl h5⟩
      | frz et e rows =>
        obtain ⟨⟨h1, h2⟩, h3⟩ := hrep
        refine ⟨⟨by rw [hsub]; exact h1, fun b hb => ?_⟩, trivial⟩
        rw [hsub] at hb
        obtain ⟨h4, h5⟩ := h2 b hb
        exact ⟨.inl h4, RowsD.mono (fun _ h => .inl h) (fun _ _ => rfl) _ _ _ _ rfl h5⟩
  · intro i i' b h h'
    obtain ⟨o, k1, k2⟩ := hown i b h
    obtain ⟨o', k1', k2'⟩ := hown i' b h'
    have := S.inj o o' b k2 k2'
    subst this
    have hi := (List.getElem?_eq_some_iff.1 k1).1
    have hi' := (List.getElem?_eq_some_iff.1 k1').1
    have e1 := (List.getElem?_eq_some_iff.1 k1).2
    have e2 := (List.getElem?_eq_some_iff.1 k1').2
    exact nodup_inj hn hi hi' (e1.trans e2.symm)
  · rintro i b h hJ
    obtain ⟨o, k1, k2⟩ := hown i b h
    rcases hJ with hJ | ⟨z, hz1, hz2⟩
    · exact S.disj o b k2 hJ
    · have := S.inj o z b k2 hz2
      subst this
      exact hz o hz1 (List.mem_of_getElem? k1)
  · rintro b (h | ⟨z, _, h⟩)
    · exact S.jcell b h
    · exact S.own_cell ⟨z, h⟩
  · intro g row hg
    obtain ⟨h1, h2⟩ := S.glob g row hg
    exact ⟨.inl h1, RowD.mono (fun _ h => .inl h) (fun _ _ => rfl) _ _ _ rfl h2⟩

/-- Back from a call. -/
theorem After.call (S : Store G J w ι obj) {ρ Z : List Nat} {tmp : Bool} {fobjs fobjs' : List LObj} {base : Nat} {r : LV} {v : Value} (hn : ρ.Nodup) (hz : ∀ z ∈ Z, z ∉ ρ) (hl : fobjs.length = ρ.length)
    (ho : ∀ (i o : Nat), ρ[i]? = some o → ∃ ob, fobjs[i]? = some ob ∧ obj o = .live (rnO (piOf ρ base) ob)) (hid : fobjs.all (idlO ρ.length) = true)
    (hZd : ∀ z ∈ Z, ∃ et e rows, obj z = .live (.dat et e rows) ∨ obj z = .live (.frz et e rows)) (htmp : tmp = true → noJ r = true ∧ fobjs' = [] ∧ ρ = []) (hle : fobjs.length ≤ fobjs'.length) (hfree : ∀ j, j < fobjs'.length - ρ.length → obj (base + j) = .free)
    (hA : After G (objL (fobjs.map some)) (objL (fobjs'.map some)) (fun b => J b ∨ OwnZ ι obj Z b) (subι ι ρ) w r v w') :
    After G obj (applyO obj base { r := rn (piOf ρ base) r, rd := ρ ++ Z, wr := (ρ.zip (fobjs'.map (rnO (piOf ρ base)))) ++ (if tmp then [] else frzs obj Z), nw := (fobjs'.drop ρ.length).map (rnO (piOf ρ base)) }) J ι w (rn (piOf ρ base) r) v w' := by
  obtain ⟨SF, hownF⟩ := S.sub (base := base) hn hz hl ho hid
  obtain ⟨J2, ι2, S2, hr, E2⟩ := hA
  -- names
  generalize hm : fobjs'.length = m at *
  have hkm : ρ.length ≤ m := by omega
  have hnew : ∀ j, j < m - ρ.length → ∀ n, ι (base + j) n = none := fun j hj => by
    have := S.rep (base + j); rw [hfree j hj] at this; exact this
  have hρlive : ∀ {i o : Nat}, ρ[i]? = some o → ∃ ob, obj o = .live ob := fun h => by obtain ⟨ob, _, k⟩ := ho _ _ h; exact ⟨_, k⟩
  have hinj : ∀ i i', i < m → i' < m → piOf ρ base i = piOf ρ base i' → i = i' := by
    intro i i' hi hi' h
    rcases Nat.lt_or_ge i ρ.length with h1 | h1 <;> rcases Nat.lt_or_ge i' ρ.length with h2 | h2
    · rw [piOf_old (List.getElem?_eq_getElem h1), piOf_old (List.getElem?_eq_getElem h2)] at h
      exact nodup_inj hn h1 h2 h
    · rw [piOf_old (List.getElem?_eq_getElem h1), piOf_new h2] at h
      obtain ⟨ob, k⟩ := hρlive (List.getElem?_eq_getElem h1)
      rw [h, hfree _ (by omega)] at k; cases k
    · rw [piOf_new h1, piOf_old (List.getElem?_eq_getElem h2)] at h
      obtain ⟨ob, k⟩ := hρlive (List.getElem?_eq_getElem h2)
      rw [← h, hfree _ (by omega)] at k; cases k
    · rw [piOf_new h1, piOf_new h2] at h; omega
  let idx : Nat → Option Nat := fun o => (List.range m).find? (fun i => piOf ρ base i == o)
  have hidx : ∀ i, i < m → idx (piOf ρ base i) = some i := by
    intro i hi
    cases hx : idx (piOf ρ base i) with
    | none =>
      have := List.find?_eq_none.1 hx i (by simpa using hi)
      simp at this
    | some i' =>
      have h1 := List.find?_some hx
      have h2 : i' < m := by simpa using List.mem_of_find?_eq_some hx
      simp only [beq_iff_eq] at h1
      rw [hinj i' i h2 hi h1]
  have hidx' : ∀ o i, idx o = some i → i < m ∧ piOf ρ base i = o := by
    intro o i hx
    have h1 := List.find?_some hx
    have h2 : i < m := by simpa using List.mem_of_find?_eq_some hx
    exact ⟨h2, by simpa using h1⟩
  let ι' : Nat → Nat → Option Nat := fun o n => match idx o with | some i => ι2 i n | none => ι o n
  have hι' : ∀ i n, i < m → ι' (piOf ρ base i) n = ι2 i n := fun i n hi => by simp only [ι', hidx i hi]
  have hι0 : ∀ o n, idx o = none → ι' o n = ι o n := fun o n h => by simp only [ι', h]
  have hι2none : ∀ i n, m ≤ i → ι2 i n = none := fun i n hi => by
    have := S2.rep i
    rw [objL_map, List.getElem?_eq_none (by rw [hm]; exact hi)] at this
    exact this n
  have himono : ∀ o n b, ι o n = some b → ι' o n = some b := by
    intro o n b hb
    cases hx : idx o with
    | none => rw [hι0 o n hx]; exact hb
    | some i =>
      obtain ⟨hi, hpi⟩ := hidx' o i hx
      rw [← hpi, hι' i n hi]
      rcases Nat.lt_or_ge i ρ.length with h1 | h1
      · rw [piOf_old (List.getElem?_eq_getElem h1)] at hpi
        exact E2.ev.imono i n b (by simp [subι, List.getElem?_eq_getElem h1, hpi, hb])
      · rw [piOf_new h1] at hpi
        rw [← hpi, hnew _ (by omega)] at hb; cases hb
  have hun : ∀ o n b, ι2 o n = some b → ι' (piOf ρ base o) n = some b := by
    intro o n b hb
    rcases Nat.lt_or_ge o m with h1 | h1
    · rw [hι' o n h1]; exact hb
    · rw [hι2none o n h1] at hb; cases hb
  let J' : Nat → Prop := fun b => if tmp = true then J b else J2 b
  have hJJ' : ∀ b, J b → J' b := fun b hb => by
    simp only [J']; split
    · exact hb
    · exact E2.ev.jmono b (.inl hb)
  have hownFle : ∀ b, Own (subι ι ρ) (objL (fobjs.map some)) b → ∃ o, o ∈ ρ ∧ (obj o).own ι o b := fun b ⟨i, hi⟩ => by
    obtain ⟨o, k1, k2⟩ := hownF i b hi
    exact ⟨o, List.mem_of_getElem? k1, k2⟩
  have E : Ev (Own ι obj) J J' ι ι' w w' := by
    refine ⟨E2.ev.os, E2.ev.tape, E2.ev.output, E2.ev.size, fun b hb hno => E2.ev.same b hb (fun h => ?_), E2.ev.shape, hJJ', fun b hb => ?_, himono⟩
    · obtain ⟨o, _, k⟩ := hownFle b h; exact hno ⟨o, k⟩
    · simp only [J'] at hb
      split at hb
      · exact .inl hb
      · rcases E2.ev.jnew b hb with (h | ⟨z, _, h⟩) | h | h
        · exact .inl h
        · exact .inr (.inr ⟨z, h⟩)
        · exact .inr (.inl h)
        · obtain ⟨o, _, k⟩ := hownFle b h; exact .inr (.inr ⟨o, k⟩)
  -- what the objects are
  generalize hobj' : applyO obj base { r := rn (piOf ρ base) r, rd := ρ ++ Z, wr := (ρ.zip (fobjs'.map (rnO (piOf ρ base)))) ++ (if tmp then [] else frzs obj Z), nw := (fobjs'.drop ρ.length).map (rnO (piOf ρ base)) } = obj'
  have hob1 : ∀ i ob, fobjs'[i]? = some ob → obj' (piOf ρ base i) = .live (rnO (piOf ρ base) ob) := by
    intro i ob hi
    have him : i < m := by rw [← hm]; exact (List.getElem?_eq_some_iff.1 hi).1
    rw [← hobj']
    simp only [applyO, newO_get]
    rcases Nat.lt_or_ge i ρ.length with h1 | h1
    · have hρi := List.getElem?_eq_getElem h1
      rw [piOf_old hρi]
      have hupd := ((updO_zip ρ (fobjs'.map (rnO (piOf ρ base))) (updO (if tmp then [] else frzs obj Z) obj) ρ[i] hn (by simp; omega)).1 i hρi)
      obtain ⟨ob', k1, k2⟩ := hupd
      rw [List.getElem?_map, hi] at k1
      simp only [Option.map_some, Option.some.injEq] at k1
      subst k1
      rw [updO_append, k2]
      split
      · rename_i hb
        split
        · rename_i ob2 hob2
          obtain ⟨ob3, k3⟩ := hρlive hρi
          have hlt : ρ[i] - base < m - ρ.length := by
            have := (List.getElem?_eq_some_iff.1 hob2).1
            simp at this; omega
          have := hfree _ hlt
          rw [show base + (ρ[i] - base) = ρ[i] by omega, k3] at this
          cases this
        · rfl
      · rfl
    · rw [piOf_new h1, if_pos (by omega)]
      have : base + (i - ρ.length) - base = i - ρ.length := by omega
      rw [this, List.getElem?_map, List.getElem?_drop, show ρ.length + (i - ρ.length) = i by omega, hi]
      rfl
  have hZobj : ∀ {o : Nat}, o ∉ ρ → updO ((ρ.zip (fobjs'.map (rnO (piOf ρ base)))) ++ (if tmp then [] else frzs obj Z)) obj o = updO (if tmp then [] else frzs obj Z) obj o := fun h => by
    rw [updO_append]
    exact (updO_zip ρ _ _ _ hn (by simp; omega)).2 h
  have hnoidx : ∀ o, idx o = none → o ∉ ρ ∧ obj' o = updO (if tmp then [] else frzs obj Z) obj o := by
    intro o hx
    have hno : ∀ i, i < m → piOf ρ base i ≠ o := fun i hi h => by rw [← h, hidx i hi] at hx; cases hx
    have hρ : o ∉ ρ := fun h => by
      obtain ⟨i, hi, he⟩ := List.mem_iff_getElem.1 h
      exact hno i (by omega) (by rw [piOf_old (List.getElem?_eq_getElem hi)]; exact he)
    refine ⟨hρ, ?_⟩
    rw [← hobj']
    simp only [applyO, newO_get]
    split
    · rename_i hb
      split
      · rename_i ob hob
        have hlt := (List.getElem?_eq_some_iff.1 hob).1
        simp at hlt
        exact absurd (by rw [piOf_new (by omega)]; omega) (hno (ρ.length + (o - base)) (by omega))
      · exact hZobj hρ
    · exact hZobj hρ
  -- what is owned
  have hown2 : ∀ o b, (obj' o).own ι' o b → (∃ i, i < m ∧ piOf ρ base i = o ∧ (objL (fobjs'.map some) i).own ι2 i b) ∨ (idx o = none ∧ obj' o = obj o ∧ (obj o).own ι o b ∧ (tmp = false → o ∉ Z)) := by
    intro o b h
    cases hx : idx o with
    | some i =>
      obtain ⟨hi, hpi⟩ := hidx' o i hx
      left
      refine ⟨i, hi, hpi, ?_⟩
      have hget := List.getElem?_eq_getElem (l := fobjs') (i := i) (by omega)
      rw [objL_map, hget]
      rw [← hpi, hob1 i _ hget] at h
      have : ∀ ob : LObj, (OSt.live (rnO (piOf ρ base) ob)).own ι' (piOf ρ base i) b → (OSt.live ob).own ι2 i b := fun ob h => by
        cases ob <;> (simp [OSt.own, LObj.own, rnO, hι' i _ hi] at h ⊢; try exact h)
      exact this _ h
    | none =>
      right
      obtain ⟨hρ, hob⟩ := hnoidx o hx
      have hk : ∀ n, ι' o n = ι o n := fun n => hι0 o n hx
      by_cases ht : tmp = true
      · rw [if_pos ht] at hob
        simp only [updO] at hob
        rw [hob] at h
        exact ⟨rfl, hob, (OSt.own_keep hk).1 h, fun hf => by rw [ht] at hf; cases hf⟩
      · rw [if_neg ht] at hob
        by_cases hd : o ∈ Z ∧ ∃ et e rows, obj o = .live (.dat et e rows)
        · obtain ⟨hZ, et, e, rows, hd⟩ := hd
          rw [(updO_frzs obj Z obj o).1 hZ et e rows hd] at hob
          rw [hob] at h
          exact h.elim
        · have hob' : obj' o = obj o := by
            rw [hob]
            refine (updO_frzs obj Z obj o).2 ?_
            rcases Classical.em (o ∈ Z) with hZ | hZ
            · exact .inr (fun et e rows hh => hd ⟨hZ, et, e, rows, hh⟩)
            · exact .inl hZ
          rw [hob'] at h
          refine ⟨rfl, hob', (OSt.own_keep hk).1 h, fun _ hZ => ?_⟩
          obtain ⟨et, e, rows, hh | hh⟩ := hZd o hZ
          · exact hd ⟨hZ, et, e, rows, hh⟩
          · rw [hh] at h; exact h
  have hlt : ∀ o b, (obj o).own ι o b → b < w.heap.size := fun o b h => S.own_lt ⟨o, h⟩
  have hcallee : ∀ i b, (objL (fobjs'.map some) i).own ι2 i b → (∃ o, o ∈ ρ ∧ (obj o).own ι o b) ∨ w.heap.size ≤ b := fun i b h => (E2.own b ⟨i, h⟩).imp (hownFle b) id
  have hρidx : ∀ o, o ∈ ρ → idx o ≠ none := fun o ho' hx => (hnoidx o hx).1 ho'
  have S' : Store G J' w' ι' obj' := by
    refine ⟨fun o => ?_, ?_, ?_, ?_, ?_⟩
    · cases hx : idx o with
      | some i =>
        obtain ⟨hi, hpi⟩ := hidx' o i hx
        have hget := List.getElem?_eq_getElem (l := fobjs') (i := i) (by omega)
        have h2 := S2.rep i
        rw [objL_map, hget] at h2
        rw [← hpi, hob1 i _ hget]
        have htf : tmp ≠ true := fun ht => by
          have := (htmp ht).2.1
          rw [this] at hm; simp at hm; omega
        have hJ2 : ∀ b, J2 b → J' b := fun b hb => by simp only [J']; rw [if_neg htf]; exact hb
        generalize fobjs'[i] = ob at h2 ⊢
        cases ob with
        | box et cells =>
          obtain ⟨⟨b, C, h3, h4, h5⟩, _⟩ := h2
          exact ⟨⟨b, C, by rw [hι' i 0 hi]; exact h3, h4, RepC.mono hJ2 (fun _ _ => rfl) (fun _ _ _ h => h) (fun _ _ => rfl) _ _ (RepC.unrn hun _ _ h5)⟩, trivial⟩
        | dat et e rows =>
          obtain ⟨⟨h3, h4⟩, h5⟩ := h2
          refine ⟨⟨by rw [hι' i _ hi]; exact h3, fun b hb => ?_⟩, fun n hn' => by rw [hι' i n hi]; exact h5 n hn'⟩
          rw [hι' i _ hi] at hb
          obtain ⟨h6, h7⟩ := h4 b hb
          exact ⟨h6, RowsD.mono hJ2 (fun _ _ => rfl) _ _ _ _ rfl h7⟩
        | frz et e rows =>
          obtain ⟨⟨h3, h4⟩, h5⟩ := h2
          refine ⟨⟨by rw [hι' i _ hi]; exact h3, fun b hb => ?_⟩, trivial⟩
          rw [hι' i _ hi] at hb
          obtain ⟨h6, h7⟩ := h4 b hb
          exact ⟨hJ2 b h6, RowsD.mono hJ2 (fun _ _ => rfl) _ _ _ _ rfl h7⟩
      | none =>
        obtain ⟨hρ, hob⟩ := hnoidx o hx
        have hk : ∀ n, ι' o n = ι o n := fun n => hι0 o n hx
        have hblk : ∀ b, (obj o).own ι o b → w'.heap[b]? = w.heap[b]? := fun b hb => E2.ev.same b (hlt o b hb) (fun h => by
          obtain ⟨o', h1, h2⟩ := hownFle b h
          have := S.inj o o' b hb h2
          subst this; exact hρ h1)
        have keep := OStRep.keep S E hk hblk
        by_cases ht : tmp = true
        · rw [if_pos ht] at hob
          simp only [updO] at hob
          rw [hob]; exact keep
        · rw [if_neg ht] at hob
          by_cases hZ : o ∈ Z
          · obtain ⟨et, e, rows, hd | hd⟩ := hZd o hZ
            rotate_left 1
            · rw [(updO_frzs obj Z obj o).2 (.inr (fun _ _ _ hh => by rw [hd] at hh; cases hh))] at hob
              rw [hob]; exact keep
            rw [(updO_frzs obj Z obj o).1 hZ et e rows hd] at hob
            rw [hob]
            rw [hd] at keep
            obtain ⟨⟨h1, h2⟩, _⟩ := keep
            refine ⟨⟨h1, fun b hb => ?_⟩, trivial⟩
            obtain ⟨_, h3⟩ := h2 b hb
            refine ⟨?_, h3⟩
            simp only [J']; rw [if_neg ht]
            refine E2.ev.jmono b (.inr ⟨o, hZ, ?_⟩)
            rw [hd]
            rw [hk] at hb; exact hb
          · rw [(updO_frzs obj Z obj o).2 (.inl hZ)] at hob
            rw [hob]; exact keep
    · intro o o' b h h'
      rcases hown2 o b h with ⟨i, hi, hpi, k⟩ | ⟨hx, _, k, _⟩ <;> rcases hown2 o' b h' with ⟨i', hi', hpi', k'⟩ | ⟨hx', _, k', _⟩
      · rw [← hpi, ← hpi', S2.inj i i' b k k']
      · rcases hcallee i b k with ⟨o2, h1, h2⟩ | h1
        · have := S.inj _ _ _ h2 k'
          subst this
          exact absurd hx' (hρidx _ h1)
        · have := hlt _ _ k'; omega
      · rcases hcallee i' b k' with ⟨o2, h1, h2⟩ | h1
        · have := S.inj _ _ _ h2 k
          subst this
          exact absurd hx (hρidx _ h1)
        · have := hlt _ _ k; omega
      · exact S.inj _ _ _ k k'
    · intro o b h hJb
      rcases hown2 o b h with ⟨i, hi, hpi, k⟩ | ⟨hx, _, k, hZ⟩
      · have htf : tmp ≠ true := fun ht => by
          have := (htmp ht).2.1
          rw [this] at hm; simp at hm; omega
        simp only [J'] at hJb
        rw [if_neg htf] at hJb
        exact S2.disj i b k hJb
      · simp only [J'] at hJb
        split at hJb
        · exact S.disj o b k hJb
        · rename_i htf
          rcases E2.ev.jnew b hJb with (h1 | ⟨z, hz1, hz2⟩) | h1 | h1
          · exact S.disj o b k h1
          · have := S.inj _ _ _ k hz2
            subst this
            exact hZ (by simpa using htf) hz1
          · have := hlt _ _ k; omega
          · obtain ⟨o2, h3, h4⟩ := hownFle b h1
            have := S.inj _ _ _ k h4
            subst this
            exact hρidx _ h3 hx
    · intro b hb
      simp only [J'] at hb
      split at hb
      · rw [S.same E b hb]; exact S.jcell b hb
      · exact S2.jcell b hb
    · intro g row hg
      obtain ⟨h1, h2⟩ := S.glob g row hg
      exact ⟨hJJ' g h1, h2.ev S E h1⟩
  refine ⟨J', ι', S', ?_, E, ?_⟩
  · have h1 := Rep.unrn hun r v hr
    by_cases ht : tmp = true
    · have hnr : noJ (rn (piOf ρ base) r) = true := by
        have : ∀ (x : LV), noJ x = true → noJ (rn (piOf ρ base) x) = true := by
          intro x
          exact (noJ_rn (piOf ρ base)).1 x
        exact this r (htmp ht).1
      exact Rep.noJ trivial _ _ hnr h1
    · have : J' = J2 := by funext b; simp only [J']; rw [if_neg ht]
      rw [this]; exact h1
  · rintro b ⟨o, h⟩
    rcases hown2 o b h with ⟨i, hi, hpi, k⟩ | ⟨hx, _, k, _⟩
    · rcases hcallee i b k with ⟨o2, h1, h2⟩ | h1
      · exact .inl ⟨o2, h2⟩
      · exact .inr h1
    · exact .inl ⟨o, k⟩
end
end Dv
