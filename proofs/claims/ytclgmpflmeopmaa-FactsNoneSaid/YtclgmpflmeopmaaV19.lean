/- The logical machine: part V19. -/
import Derived.Test.YtclgmpflmeopmaaV18
set_option linter.unusedVariables false
set_option linter.unusedSimpArgs false
namespace Dv
open Go

/-! ## A store that nothing touches, in a world that goes on -/
section
variable {G : Nat → Option (List DV)} {J : Nat → Prop} {w w' : World} {ι : Nat → Nat → Option Nat} {obj : Nat → OSt}
theorem Store.still (S : Store G J w ι obj) (hJ : ∀ b, J b → w'.heap[b]? = w.heap[b]?) (hO : ∀ b, Own ι obj b → w'.heap[b]? = w.heap[b]?) (hsh : ∀ b, (w.shape? b).isSome = true → w'.shape? b = w.shape? b) : Store G J w' ι obj := by
  refine ⟨fun o => ?_, S.inj, S.disj, fun b hb => by rw [hJ b hb]; exact S.jcell b hb, fun g row hg => ?_⟩
  · have h := S.rep o
    have hb : ∀ b, (obj o).own ι o b → w'.heap[b]? = w.heap[b]? := fun b hb => hO b ⟨o, hb⟩
    cases hs : obj o with
    | free => rw [hs] at h; exact h
    | dead => trivial
    | live ob =>
      rw [hs] at h hb
      obtain ⟨h, hkey⟩ := h
      cases ob with
      | box et cells =>
        obtain ⟨b, C, h1, h2, h3⟩ := h
        exact ⟨⟨b, C, h1, by rw [hb b h1]; exact h2, RepC.mono (fun _ h => h) hJ (fun _ _ _ h => h) hsh _ _ h3⟩, trivial⟩
      | dat et esz rows =>
        obtain ⟨h1, h2⟩ := h
        refine ⟨⟨h1, fun b hb' => ?_⟩, hkey⟩
        obtain ⟨⟨C, h3⟩, h4⟩ := h2 b hb'
        exact ⟨⟨C, by rw [hb b hb']; exact h3⟩, RowsD.mono (fun _ h => h) hJ _ _ _ _ (hb b hb') h4⟩
      | frz et esz rows =>
        obtain ⟨h1, h2⟩ := h
        refine ⟨⟨h1, fun b hb' => ?_⟩, trivial⟩
        obtain ⟨h3, h4⟩ := h2 b hb'
        exact ⟨h3, RowsD.mono (fun _ h => h) hJ _ _ _ _ (hJ b h3) h4⟩
  · obtain ⟨h1, h2⟩ := S.glob g row hg
    exact ⟨h1, RowD.mono (fun _ h => h) hJ _ _ _ (hJ g h1) h2⟩
theorem shape_cells {w : World} {b : Nat} (h : (w.shape? b).isSome = true) : ∃ C t f, w.heap[b]? = some (.cells C t f) := by
  unfold World.shape? at h
  split at h
  · rename_i c e f hc; exact ⟨c, e, f, hc⟩
  · cases h

/-- Where a walk by hand stands: between the call's world w, and W; the blocks from w's size to n are the walk's own. -/
structure Mid (G : Nat → Option (List DV)) (obj : Nat → OSt) (J : Nat → Prop) (ι : Nat → Nat → Option Nat) (w : World) (n : Nat) (W : World) (J' : Nat → Prop) (ι' : Nat → Nat → Option Nat) : Prop where
  store : Store G J' W ι' obj
  ext : Ext obj obj J J' ι ι' w W
  own : ∀ b, Own ι' obj b → Own ι obj b ∨ n ≤ b
  std : ∀ b, J' b → J b ∨ n ≤ b ∨ Own ι obj b
  size : n ≤ W.heap.size

theorem Mid.start (S : Store G J w ι obj) {W : World} (hos : W.os = w.os) (ht : W.tape = w.tape) (ho : W.output = w.output) (hs : w.heap.size ≤ W.heap.size) (hk : ∀ b, b < w.heap.size → W.heap[b]? = w.heap[b]?) : Mid G obj J ι w W.heap.size W J ι := by
  refine ⟨S.still (fun b hb => hk b (S.jlt b hb)) (fun b hb => hk b ?_) (fun b hb => shape_of_heap (hk b ?_)), ⟨⟨hos, ht, ho, hs, fun b hb _ => hk b hb, fun b hb => shape_of_heap (hk b hb), fun _ h => h, fun _ h => .inl h, fun _ _ _ h => h⟩, fun _ h => .inl h⟩, fun _ h => .inl h, fun _ h => .inl h, Nat.le_refl _⟩
  · obtain ⟨C, t, f, h⟩ := S.own_cell hb
    exact (Array.getElem?_eq_some_iff.1 h).1
  · obtain ⟨C, t, f, h⟩ := shape_cells hb
    exact (Array.getElem?_eq_some_iff.1 h).1
/-- a block of the walk's own, or one that is no cells, beyond n: it may turn. -/
theorem Mid.grown {n : Nat} {W W' : World} {J' : Nat → Prop} {ι' : Nat → Nat → Option Nat} (S : Store G J w ι obj) (h : Mid G obj J ι w n W J' ι') (hn : w.heap.size ≤ n) {row : Option Nat} (hg : W.grownBy W' row) (hr : ∀ r, row = some r → w.heap.size ≤ r ∧ ((r < n ∧ (W'.shape? r) = W.shape? r) ∨ ∀ C t f, W.heap[r]? ≠ some (.cells C t f))) : Mid G obj J ι w n W' J' ι' := by
  have hlt : ∀ b, Own ι obj b → b < w.heap.size := fun b hb => by
    obtain ⟨C, t, f, h⟩ := S.own_cell hb
    exact (Array.getElem?_eq_some_iff.1 h).1
  have ne : ∀ b, (J' b ∨ Own ι' obj b) → some b ≠ row := fun b hb e => by
    obtain ⟨h1, h2⟩ := hr b e.symm
    have hc : ∃ C t f, W.heap[b]? = some (.cells C t f) := hb.elim (h.store.jcell b) h.store.own_cell
    rcases h2 with ⟨h2, _⟩ | h2
    · rcases hb with hb | hb
      · rcases h.std b hb with k | k | k
        · have := S.jlt b k; omega
        · omega
        · have := hlt b k; omega
      · rcases h.own b hb with k | k
        · have := hlt b k; omega
        · omega
    · obtain ⟨C, t, f, hc⟩ := hc
      exact h2 C t f hc
  have blk : ∀ b, (J' b ∨ Own ι' obj b) → W'.heap[b]? = W.heap[b]? := fun b hb => by
    have hc : ∃ C t f, W.heap[b]? = some (.cells C t f) := hb.elim (h.store.jcell b) h.store.own_cell
    obtain ⟨C, t, f, hc⟩ := hc
    exact hg.block b (Array.getElem?_eq_some_iff.1 hc).1 (ne b hb)
  have hsz := h.ext.ev.size
  have shp : ∀ b, b < W.heap.size → (W.shape? b).isSome = true → W'.shape? b = W.shape? b := fun b hb hc => by
    by_cases e : some b = row
    · obtain ⟨h1, h2⟩ := hr b e.symm
      rcases h2 with ⟨_, h2⟩ | h2
      · exact h2
      · obtain ⟨C, t, f, k⟩ := shape_cells hc
        exact absurd k (h2 C t f)
    · exact shape_of_heap (hg.block b hb e)
  refine ⟨h.store.still (fun b hb => blk b (.inl hb)) (fun b hb => blk b (.inr hb)) (fun b hb => ?_), ⟨⟨hg.os.trans h.ext.ev.os, hg.tape.trans h.ext.ev.tape, hg.output.trans h.ext.ev.output, Nat.le_trans hsz hg.size, fun b hb ho => ?_, fun b hb => ?_, h.ext.ev.jmono, h.ext.ev.jnew, h.ext.ev.imono⟩, h.ext.own⟩, h.own, h.std, Nat.le_trans h.size hg.size⟩
  · obtain ⟨C, t, f, k⟩ := shape_cells hb
    exact shp b (Array.getElem?_eq_some_iff.1 k).1 hb
  · rw [hg.block b (by omega) (fun e => by have := (hr b e.symm).1; omega)]; exact h.ext.ev.same b hb ho
  · rw [shape_of_heap (hg.block b (by omega) (fun e => by have := (hr b e.symm).1; omega))]; exact h.ext.ev.shape b hb
/-- a call that hands the objects on, and gets them back. -/
theorem Mid.call {n : Nat} {W W2 : World} {J' : Nat → Prop} {ι' : Nat → Nat → Option Nat} (S : Store G J w ι obj) (h : Mid G obj J ι w n W J' ι') (hn : w.heap.size ≤ n) {r : LV} {v : Value} (hA : After G obj obj J' ι' W r v W2) : ∃ J2 ι2, Mid G obj J ι w n W2 J2 ι2 ∧ Rep J2 W2 ι2 r v ∧ (∀ b, b < W.heap.size → ¬ Own ι' obj b → W2.heap[b]? = W.heap[b]?) ∧ W.heap.size ≤ W2.heap.size := by
  obtain ⟨J2, ι2, S2, R2, E2⟩ := hA
  have hsz := h.size
  refine ⟨J2, ι2, ⟨S2, h.ext.trans E2, fun b hb => ?_, fun b hb => ?_, Nat.le_trans h.size E2.ev.size⟩, R2, E2.ev.same, E2.ev.size⟩
  · rcases E2.own b hb with k | k
    · exact h.own b k
    · exact .inr (by omega)
  · rcases E2.ev.jnew b hb with k | k | k
    · exact h.std b k
    · exact .inr (.inl (by omega))
    · rcases h.own b k with k | k
      · exact .inr (.inr k)
      · exact .inr (.inl k)
theorem Mid.mine {n : Nat} {W : World} {J' : Nat → Prop} {ι' : Nat → Nat → Option Nat} (S : Store G J w ι obj) (h : Mid G obj J ι w n W J' ι') {b : Nat} (h1 : w.heap.size ≤ b) (h2 : b < n) : ¬ Own ι' obj b := fun hb => by
  rcases h.own b hb with k | k
  · obtain ⟨C, t, f, k⟩ := S.own_cell k
    have := (Array.getElem?_eq_some_iff.1 k).1
    omega
  · omega
end
end Dv
