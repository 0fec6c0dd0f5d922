/- The logical machine: part V14. -/
import Derived.Test.YtclgmpflmeopmaaV13
set_option linter.unusedVariables false
set_option linter.unusedSimpArgs false
namespace Dv
open Go

/-! ## An operation's answer hangs on what it looks at -/
section
variable {P : Program} {G : Nat → Option (List DV)} {get get' : Nat → LV} {obj obj' : Nat → OSt} {base : Nat}

theorem Opd.ev_congr {x : Opd} (h : ∀ t ∈ x.tmps, get' t = get t) : x.ev G get' = x.ev G get := by
  cases x with
  | t n => exact h n (by simp [Opd.tmps])
  | _ => rfl

theorem evs_congr : ∀ {xs : List Opd}, (∀ t ∈ xs.flatMap Opd.tmps, get' t = get t) → xs.map (·.ev G get') = xs.map (·.ev G get)
  | [], _ => rfl
  | x :: xs, h => by
    simp only [List.flatMap_cons, List.mem_append] at h
    simp only [List.map_cons]
    rw [Opd.ev_congr (fun t ht => h t (.inl ht)), evs_congr (fun t ht => h t (.inr ht))]

theorem fillL_congr : ∀ {parts : List (Nat × Nat × Opd)} {cells : List LV}, (∀ t ∈ parts.flatMap (fun p => p.2.2.tmps), get' t = get t) → fillL G get' cells parts = fillL G get cells parts
  | [], _, _ => rfl
  | (off, size, x) :: rest, cells, h => by
    simp only [List.flatMap_cons, List.mem_append] at h
    simp only [fillL]
    rw [Opd.ev_congr (fun t ht => h t (.inl ht))]
    cases (x.ev G get).cells with
    | none => rfl
    | some cs =>
      dsimp only
      split
      · exact fillL_congr (fun t ht => h t (.inr ht))
      · rfl

theorem rowsOf_congr {esz : Nat} : ∀ {xs : List Opd}, (∀ t ∈ xs.flatMap Opd.tmps, get' t = get t) → rowsOf G get' esz xs = rowsOf G get esz xs
  | [], _ => rfl
  | x :: xs, h => by
    simp only [List.flatMap_cons, List.mem_append] at h
    simp only [rowsOf]
    rw [Opd.ev_congr (fun t ht => h t (.inl ht)), rowsOf_congr (fun t ht => h t (.inr ht))]

theorem oev_congr : ∀ {o : Option Opd}, (∀ t ∈ Opd.otmps o, get' t = get t) → o.map (·.ev G get') = o.map (·.ev G get)
  | none, _ => rfl
  | some x, h => by simp only [Option.map_some]; rw [Opd.ev_congr h]

theorem effF_get {i : I} (h : ∀ t ∈ i.tmps, get' t = get t) : effF G get' obj base i = effF G get obj base i := by
  cases i <;> simp only [I.tmps, List.mem_append] at h <;> simp only [effF] <;> first
    | rfl
    | (rw [Opd.ev_congr h]; done)
    | (rw [Opd.ev_congr (fun t ht => h t (.inl ht)), Opd.ev_congr (fun t ht => h t (.inr ht))]; done)
    | (rw [Opd.ev_congr (fun t ht => h t (.inl (.inl ht))), Opd.ev_congr (fun t ht => h t (.inl (.inr ht))), Opd.ev_congr (fun t ht => h t (.inr ht))]; done)
    | (rw [fillL_congr h]; done)
    | (rw [rowsOf_congr h]; done)
    | (rw [evs_congr (fun t ht => h t (.inl ht)), evs_congr (fun t ht => h t (.inr ht))]; done)
    | (rw [Opd.ev_congr (fun t ht => h t (.inl (.inl (.inl ht)))), oev_congr (fun t ht => h t (.inl (.inl (.inr ht)))), oev_congr (fun t ht => h t (.inl (.inr ht))), oev_congr (fun t ht => h t (.inr ht))]; done)
    | (rw [Opd.ev_congr (fun t ht => h t (.inl (.inl ht))), oev_congr (fun t ht => h t (.inl (.inr ht))), oev_congr (fun t ht => h t (.inr ht))]; done)

theorem srcRows_obj {esz : Nat} {y : LV} {new : List (List DV)} {rd : List Nat} (h : srcRows obj esz y = some (new, rd)) (ho : ∀ o ∈ rd, obj' o = obj o) : srcRows obj' esz y = some (new, rd) := by
  cases y with
  | sl o n e lo len =>
    simp only [srcRows] at h ⊢
    have : rd = [o] := by
      split at h
      · split at h <;> cases h; rfl
      · split at h <;> cases h; rfl
      · cases h
    subst this
    rw [ho o (by simp)]; exact h
  | d x =>
    have : srcRows obj' esz (.d x) = srcRows obj esz (.d x) := by
      cases x with
      | val v =>
        cases v with
        | slice a n c => cases a <;> cases n <;> cases c <;> rfl
        | _ => rfl
      | _ => rfl
    rw [this]; exact h
  | _ => exact h

theorem effF_obj {i : I} {e : Eff} (h : effF G get obj base i = some e) (ho : ∀ o ∈ e.rd, obj' o = obj o) : effF G get obj' base i = some e := by
  cases i with
  | ld1 x =>
    simp only [effF] at h ⊢
    cases hx : x.ev G get with
    | ptr o col =>
      rw [hx] at h; dsimp only at h ⊢
      have : e.rd = [o] := by
        (repeat' split at h) <;> (try (cases h; done)) <;> cases h <;> rfl
      rw [ho o (by simp [this])]; exact h
    | rp o n esz row col =>
      rw [hx] at h; dsimp only at h ⊢
      have : e.rd = [o] := by
        (repeat' split at h) <;> (try (cases h; done)) <;> cases h <;> rfl
      rw [ho o (by simp [this])]; exact h
    | _ => rw [hx] at h; exact h
  | ldn size x =>
    simp only [effF] at h ⊢
    cases hx : x.ev G get with
    | ptr o col =>
      rw [hx] at h; dsimp only at h ⊢
      have : e.rd = [o] := by
        (repeat' split at h) <;> (try (cases h; done)) <;> cases h <;> rfl
      rw [ho o (by simp [this])]; exact h
    | rp o n esz row col =>
      rw [hx] at h; dsimp only at h ⊢
      have : e.rd = [o] := by
        (repeat' split at h) <;> (try (cases h; done)) <;> cases h <;> rfl
      rw [ho o (by simp [this])]; exact h
    | _ => rw [hx] at h; exact h
  | st size x y =>
    simp only [effF] at h ⊢
    cases hy : (y.ev G get).cells with
    | none => rw [hy] at h; exact h
    | some cs =>
      rw [hy] at h; dsimp only at h ⊢
      split at h
      · rename_i hl
        rw [if_pos hl]
        cases hx : x.ev G get with
        | ptr o col =>
          rw [hx] at h; dsimp only at h ⊢
          have : e.rd = [o] := by
            (repeat' split at h) <;> (try (cases h; done)) <;> cases h <;> rfl
          rw [ho o (by simp [this])]; exact h
        | rp o n esz row col =>
          rw [hx] at h; dsimp only at h ⊢
          have : e.rd = [o] := by
            (repeat' split at h) <;> (try (cases h; done)) <;> cases h <;> rfl
          rw [ho o (by simp [this])]; exact h
        | _ => rw [hx] at h; exact h
      · cases h
  | ixa esz x j =>
    simp only [effF] at h ⊢
    split at h
    · rename_i k jj hj
      split at h
      · rename_i h0
        rw [if_pos h0]
        cases hx : x.ev G get with
        | sl o n e' lo len =>
          rw [hx] at h; dsimp only at h ⊢
          have : e.rd = [o] := by
            (repeat' split at h) <;> (try (cases h; done)) <;> cases h <;> rfl
          rw [ho o (by simp [this])]; exact h
        | d z => rw [hx] at h; cases z <;> exact h
        | _ => rw [hx] at h; exact h
      · cases h
    · cases h
  | app et esz bytes x y =>
    simp only [effF] at h ⊢
    cases hs : srcRows obj esz (y.ev G get) with
    | none => rw [hs] at h; cases h
    | some p =>
      obtain ⟨new, rd⟩ := p
      rw [hs] at h; dsimp only at h
      cases hx : x.ev G get with
      | sl o n e' lo len =>
        rw [hx] at h; dsimp only at h
        have hh : e.rd = o :: rd := by
          split at h
          · split at h
            · cases h; rfl
            · cases h
          · cases h
        rw [srcRows_obj hs (fun q hq => ho q (by rw [hh]; exact List.mem_cons_of_mem _ hq))]
        dsimp only
        rw [ho o (by simp [hh])]; exact h
      | d z =>
        have hrd : e.rd = rd := by
          rw [hx] at h
          (repeat' split at h) <;> (try contradiction) <;> (try (cases h; done)) <;> cases h <;> rfl
        have hsr : srcRows obj' esz (y.ev G get) = some (new, rd) := srcRows_obj hs (by rw [← hrd]; exact ho)
        rw [hsr]; dsimp only
        rw [← h, hx]
        cases z with
        | val v =>
          cases v with
          | slice a n c => cases a <;> cases n <;> cases c <;> rfl
          | _ => rfl
        | _ => rfl
      | _ => rw [hx] at h; cases h
  | _ => exact h

mutual
theorem argR_obj {ρ Z : List Nat} (hZ : ∀ z ∈ Z, obj' z = obj z) : ∀ (x y : LV), argR obj ρ Z x y → argR obj' ρ Z x y := by
  intro x y h
  cases x with
  | sl o n e l k =>
    cases y with
    | d y =>
      cases y with
      | lst e' rs =>
        simp only [argR] at h ⊢
        refine ⟨h.1, ?_⟩
        have h2 := h.2
        have hoZ : o ∈ Z := by
          unfold rowsAt at h2
          split at h2
          · exact h2.1
          · exact h2.1
          · exact h2.elim
        unfold rowsAt at h2 ⊢
        rw [hZ o hoZ]; exact h2
      | _ => simp [argR] at h
    | top => simp [argR]
    | sl _ _ _ _ _ => simp only [argR] at h ⊢; exact h
    | _ => simp [argR] at h
  | agg xs =>
    cases y with
    | agg ys => simp only [argR] at h ⊢; exact argRs_obj hZ xs ys h
    | top => simp [argR]
    | _ => simp [argR] at h
  | tup xs =>
    cases y with
    | tup ys => simp only [argR] at h ⊢; exact argRs_obj hZ xs ys h
    | top => simp [argR]
    | _ => simp [argR] at h
  | fn f a b =>
    cases y with
    | fn f' a' b' => simp only [argR] at h ⊢; exact ⟨h.1, argRs_obj hZ a a' h.2.1, argRs_obj hZ b b' h.2.2⟩
    | top => simp [argR]
    | _ => simp [argR] at h
  | ifc t x =>
    cases y with
    | ifc t' y => simp only [argR] at h ⊢; exact ⟨h.1, argR_obj hZ x y h.2⟩
    | top => simp [argR]
    | _ => simp [argR] at h
  | d x =>
    cases y with
    | d y => simp only [argR] at h ⊢; exact h
    | top => simp [argR]
    | fn f' a' b' => cases x <;> first | (simp only [argR] at h ⊢; exact h) | (simp [argR] at h)
    | _ => cases x <;> simp [argR] at h
  | ptr o c => cases y <;> first | (simp only [argR] at h ⊢; exact h) | (simp [argR] at h ⊢)
  | rp o n e r c => cases y <;> first | (simp only [argR] at h ⊢; exact h) | (simp [argR] at h ⊢)
  | ip r c => cases y <;> first | (simp only [argR] at h ⊢; exact h) | (simp [argR] at h ⊢)
  | top => cases y <;> first | (simp only [argR] at h ⊢; exact h) | (simp [argR] at h ⊢)
  | anyb => cases y <;> first | (simp only [argR] at h ⊢; done) | (simp only [argR] at h ⊢; exact h) | (simp [argR] at h ⊢)
theorem argRs_obj {ρ Z : List Nat} (hZ : ∀ z ∈ Z, obj' z = obj z) : ∀ (xs ys : List LV), argRs obj ρ Z xs ys → argRs obj' ρ Z xs ys
  | [], [], _ => by simp [argRs]
  | x :: xs, y :: ys, h => by
    simp only [argRs] at h ⊢
    exact ⟨argR_obj hZ x y h.1, argRs_obj hZ xs ys h.2⟩
  | [], _ :: _, h => by simp [argRs] at h
  | _ :: _, [], h => by simp [argRs] at h
end

theorem frzs_congr : ∀ {Z : List Nat}, (∀ z ∈ Z, obj' z = obj z) → frzs obj' Z = frzs obj Z
  | [], _ => rfl
  | z :: Z, h => by
    simp only [frzs]
    rw [h z (by simp), frzs_congr (fun y hy => h y (by simp [hy]))]

theorem EffR.local {i : I} {e : Eff} (h : EffR P G get obj base i e) (hg : ∀ t ∈ i.tmps, get' t = get t) (ho : ∀ o ∈ e.rd, obj' o = obj o) : EffR P G get' obj' base i e := by
  by_cases hi : ∃ f args, i = .call f args
  · obtain ⟨f, args, rfl⟩ := hi
    simp only [I.tmps, List.mem_append] at hg
    simp only [EffR] at h ⊢
    rw [Opd.ev_congr (fun t ht => hg t (.inl ht)), evs_congr (fun t ht => hg t (.inr ht))]
    split at h
    · rename_i k fs cs hc
      obtain ⟨ρ, Z, tmp, fargs, fobjs, r, fobjs', hn, hz, hZd, hl, hob, hid, hargR, htmp, hle, hTri, rfl⟩ := h.ex
      simp only [List.mem_append] at ho
      have hZ : ∀ z ∈ Z, obj' z = obj z := fun z hz => ho z (.inr hz)
      refine ⟨⟨ρ, Z, tmp, fargs, fobjs, r, fobjs', hn, hz, fun z hz => by rw [hZ z hz]; exact hZd z hz, hl, fun i o hio => ?_, hid, argRs_obj hZ _ _ hargR, htmp, hle, hTri, by rw [frzs_congr hZ]⟩⟩
      obtain ⟨ob, k1, k2⟩ := hob i o hio
      exact ⟨ob, k1, by rw [ho o (.inl (List.mem_of_getElem? hio))]; exact k2⟩
    · exact h.elim
  · have e1 : ∀ get obj, EffR P G get obj base i e = (effF G get obj base i = some e) := fun get obj => by
      cases i <;> first | rfl | (exfalso; exact hi ⟨_, _, rfl⟩)
    rw [e1] at h ⊢
    rw [effF_get hg]
    exact effF_obj h ho
end
end Dv
