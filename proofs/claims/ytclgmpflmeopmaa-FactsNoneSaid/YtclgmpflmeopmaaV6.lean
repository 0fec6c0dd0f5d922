/- The logical machine: part V6. -/
import Derived.Test.YtclgmpflmeopmaaV5
set_option linter.unusedVariables false
set_option linter.unusedSimpArgs false
namespace Dv
open Go

inductive All2 {α β : Type} (R : α → β → Prop) : List α → List β → Prop
  | nil : All2 R [] []
  | cons {x y xs ys} : R x y → All2 R xs ys → All2 R (x :: xs) (y :: ys)

section
variable {P : Program} {G : Nat → Option (List DV)} {J : Nat → Prop} {w w' : World} {ι : Nat → Nat → Option Nat} {obj : Nat → OSt} {a : Act} {get : Nat → LV} {base : Nat}

theorem fold_splice (off : Nat) : ∀ (vs : List Value) (k : Nat) (cells : Array Value), off + k + vs.length ≤ cells.size →
    ((vs.zipIdx k).foldl (fun cs (p : Value × Nat) => cs.setIfInBounds (off + p.2) p.1) cells).toList = splice cells.toList (off + k) vs
  | [], k, cells, h => by simp [splice]
  | v :: vs, k, cells, h => by
    simp only [List.length_cons] at h
    simp only [List.zipIdx_cons, List.foldl_cons]
    rw [fold_splice off vs (k + 1) (cells.setIfInBounds (off + k) v) (by simp; omega), Array.toList_setIfInBounds, ← Nat.add_assoc, splice_cons _ _ _ _ (by simp; omega)]

theorem fill_sound (S : Store G J w ι obj) (he : ∀ t, Rep J w ι (get t) (a.tmps.getD t Go.undef)) (place : Nat → Option (Nat × Nat)) :
    ∀ (parts : List (Nat × Operand)) (ps : List (Nat × Nat × Opd)) (lcells lcs : List LV) (cells : Array Value),
      All2 (fun (p : Nat × Operand) (q : Nat × Nat × Opd) => place p.1 = some (q.1, q.2.1) ∧ convOpd p.2 = some q.2.2) parts ps →
      RepC J w ι lcells cells.toList → fillL G get lcells ps = some lcs →
      ∃ cs, Instr.fill place cells (parts.map fun p => (p.1, a.eval p.2)) = some cs ∧ RepC J w ι lcs cs.toList
  | [], _, lcells, lcs, cells, h, hr, hf => by
    cases h
    simp only [fillL] at hf; cases hf
    exact ⟨cells, rfl, hr⟩
  | p :: parts, _, lcells, lcs, cells, h, hr, hf => by
    cases h with
    | cons h1 h2 =>
      rename_i q ps
      obtain ⟨hp, hx⟩ := h1
      obtain ⟨off, size, x⟩ := q
      simp only [fillL] at hf
      split at hf
      · rename_i cs hcs
        split at hf
        · rename_i hle
          have hrx := cells_rep (rep_ev S he hx) hcs
          have hl := hrx.length
          have hcl := hr.length
          simp only [Array.length_toList] at hl hcl
          have hsz : (a.eval p.2).cells.size = cs.length := hl.symm
          have hfold : ((a.eval p.2).cells.zipIdx.foldl (fun cs (p : Value × Nat) => cs.setIfInBounds (off + p.2) p.1) cells).toList = splice cells.toList off (a.eval p.2).cells.toList := by
            have := fold_splice off (a.eval p.2).cells.toList 0 cells (by simp [hsz]; omega)
            simp only [Nat.add_zero] at this
            rw [← this, ← Array.foldl_toList]
            simp
          obtain ⟨cs', k1, k2⟩ := fill_sound S he place parts ps (splice lcells off cs) lcs _ h2 (by rw [hfold]; exact hr.splice off hrx) hf
          refine ⟨cs', ?_, k2⟩
          simp only [List.map_cons, Instr.fill, hp]
          rw [if_neg (by rw [hsz]; simp; exact ⟨hle.1, by omega⟩)]
          exact k1
        · cases hf
      · cases hf

theorem placesT_spec {fs : Array Field} : ∀ {parts : List (Nat × Operand)} {ps : List (Nat × Nat × Opd)}, placesT P fs parts = some ps →
    All2 (fun (p : Nat × Operand) (q : Nat × Nat × Opd) => (∃ f, fs[p.1]? = some f ∧ q.1 = f.offset ∧ sizeT P f.type = some q.2.1) ∧ convOpd p.2 = some q.2.2) parts ps
  | [], ps, h => by cases h; exact .nil
  | (i, x) :: rest, ps, h => by
    simp only [placesT] at h
    split at h
    · rename_i f y r h1 h2 h3
      split at h
      · rename_i n hn
        cases h
        exact .cons ⟨⟨f, h1, rfl, hn⟩, h2⟩ (placesT_spec h3)
      · cases h
    · cases h

theorem placesA_spec {n : Nat} : ∀ {parts : List (Nat × Operand)} {ps : List (Nat × Nat × Opd)}, placesA n parts = some ps →
    All2 (fun (p : Nat × Operand) (q : Nat × Nat × Opd) => (some (p.1 * n, n) = some (q.1, q.2.1)) ∧ convOpd p.2 = some q.2.2) parts ps
  | [], ps, h => by cases h; exact .nil
  | (i, x) :: rest, ps, h => by
    simp only [placesA] at h
    split at h
    · rename_i y r h1 h2
      cases h
      exact .cons ⟨rfl, h1⟩ (placesA_spec h2)
    · cases h

theorem forall2_imp {α β : Type} {R T : α → β → Prop} (h : ∀ a b, R a b → T a b) : ∀ {xs : List α} {ys : List β}, All2 R xs ys → All2 T xs ys
  | _, _, .nil => .nil
  | _, _, .cons h1 h2 => .cons (h _ _ h1) (forall2_imp h h2)

theorem run_mapM_sizes : ∀ (fs : List Field) (w : World), (fs.all fun f => (sizeT P f.type).isSome) = true →
    (fs.mapM (fun f => do pure (f.offset, ← sizeOf f.type) : Field → Sem (Nat × Nat))).run P w = .ok (fs.map fun f => (f.offset, (sizeT P f.type).getD 0)) w
  | [], w, _ => rfl
  | f :: fs, w, h => by
    simp only [List.all_cons, Bool.and_eq_true] at h
    obtain ⟨n, hn⟩ := Option.isSome_iff_exists.1 h.1
    obtain ⟨i, hi, hs⟩ := info_of_sizeT hn
    have ih := run_mapM_sizes fs w h.2
    have hsz : (Go.sizeOf f.type).run P w = .ok n w := by simp [Go.sizeOf, typeInfo, hi, hs]
    simp only [List.mapM_cons, Sem.run_bind, hsz, Sem.run_pure, Result.andThen_ok, List.map_cons, hn, Option.getD_some]
    rw [ih]
    rfl

theorem run_mapM_sizesA (fs : Array Field) (w : World) (h : fieldsOk P fs = true) :
    (fs.mapM (fun f => do pure (f.offset, ← sizeOf f.type) : Field → Sem (Nat × Nat))).run P w = .ok (fs.map fun f => (f.offset, (sizeT P f.type).getD 0)) w := by
  rw [Array.mapM_eq_mapM_toList, Sem.run_map, run_mapM_sizes fs.toList w h]
  simp only [Result.andThen_ok]
  congr 1
  apply Array.ext'
  simp

/-- build: a struct or an array out of parts. -/
theorem build_sound (S : Store G J w ι obj) (he : ∀ t, Rep J w ι (get t) (a.tmps.getD t Go.undef)) {T : TypeId} {parts : Array (Nat × Operand)} {zero : List DV} {ps : List (Nat × Nat × Opd)} {cs : List LV}
    (hc : convI P (.build T parts) = some (.build zero ps)) (hf : fillL G get (zero.map .d) ps = some cs) :
    ∃ v, (Instr.build T (parts.map fun (i, x) => (i, a.eval x))).run P w = .ok v w ∧ Rep J w ι (.agg cs) v := by
  simp only [convI] at hc
  have hparts : (parts.map fun (i, x) => (i, a.eval x)).toList = parts.toList.map fun p => (p.1, a.eval p.2) := by simp
  split at hc
  · rename_i z fs hz hu
    split at hc
    · rename_i hok
      split at hc
      · rename_i ps' hps
        cases hc
        obtain ⟨v, hv, hrep⟩ := zeroT_run (J := J) (w := w) (ι := ι) hz
        obtain ⟨cs', k1, k2⟩ := fill_sound S he (fun i => (fs.map fun f => (f.offset, (sizeT P f.type).getD 0))[i]?) parts.toList ps (zero.map .d) cs v.cells
          (forall2_imp (fun p q h => by
            obtain ⟨⟨f, h1, h2, h3⟩, h4⟩ := h
            exact ⟨by simp [h1, h2, h3], h4⟩) (placesT_spec hps)) hrep hf
        refine ⟨.agg cs', ?_, cs', rfl, k2⟩
        simp only [Instr.build, Sem.run_bind, hv, Result.andThen_ok, run_underlying hu w, Sem.run_map, run_mapM_sizesA fs w hok, hparts, Sem.run_pure]
        simp only [k1, Sem.run_pure]
      · cases hc
    · cases hc
  · rename_i z e hz hu
    split at hc
    · rename_i n hn
      split at hc
      · rename_i ps' hps
        cases hc
        obtain ⟨v, hv, hrep⟩ := zeroT_run (J := J) (w := w) (ι := ι) hz
        obtain ⟨i, hi, hs⟩ := info_of_sizeT hn
        obtain ⟨cs', k1, k2⟩ := fill_sound S he (fun i => some (i * n, n)) parts.toList ps (zero.map .d) cs v.cells (placesA_spec hps) hrep hf
        refine ⟨.agg cs', ?_, cs', rfl, k2⟩
        simp only [Instr.build, Sem.run_bind, hv, Result.andThen_ok, run_underlying hu w, Go.sizeOf, typeInfo, run_program, hi, hs, Sem.run_pure, hparts]
        simp only [k1, Sem.run_pure]
      · cases hc
    · cases hc
  · cases hc
end
end Dv
