/- Opening a configuration and a state from any reading of the arguments; the post of a law that leaves its arguments as they read. -/
import Derived.Test.YtclgmpflmeopmaaBase
import Derived.ProofKit
import Derived.Deep.Slices
import Derived.Deep.Fields
import Derived.Carry
set_option linter.unusedVariables false
set_option linter.unusedSimpArgs false
namespace Go.Proofs.Ytclgmpflmeopmaa
open Go.ChangeShapes Go.WideShapes Go.RowKit Go.Deep Go.WideElems Dun

section
variable {H : Type} {enc : TypeId × Value → H} {P : Program} {w : World} {base : Nat} {spare : Nat → Bool} {held : Bool}

theorem args_stay (hl : laidOutB P = true) {W W' : World} (hb : Below W.heap.size W W') : ∀ {ts : List TypeId} {vs : List Value} {ds : List (DataW H)} {ps : List MemPlace},
    (∀ t ∈ ts, P.readableRec t = true ∧ t < P.types.size) → DataW.TrodAll enc P W 0 (fun _ => true) true ts vs ds ps → (∀ x ∈ ps, x.block < W.heap.size) → DataW.TrodAll enc P W' 0 (fun b => decide (b < W.heap.size)) true ts vs ds ps
  | [], [], [], _, _, h, _ => h
  | _ :: _, _ :: _, _ :: _, _, hT, ⟨p, q, h1, h2, e⟩, hs =>
    ⟨p, q, Below.trod hl (hT _ (List.mem_cons.2 (Or.inl rfl))).1 (hT _ (List.mem_cons.2 (Or.inl rfl))).2 h1 hb (fun x hx => hs x (by rw [e]; exact List.mem_append_left _ hx)),
      args_stay hl hb (fun t ht => hT t (List.mem_cons.2 (Or.inr ht))) h2 (fun x hx => hs x (by rw [e]; exact List.mem_append_right _ hx)), e⟩

theorem trod_ones {t : TypeId} {fs : Array Field} {fuel : Nat} {cs : List Value} {x : DataW H × List MemPlace} (ht : P.underlying t = some (.struct fs)) (hone : oneCellFields P fs = true) (h : DataW.trod enc P w base spare held fuel t cs = some x) :
    cs.length = P.cellsOf t ∧ ∃ n, ∀ (i : Nat) (f : Field) (v : Value), fs[i]? = some f → cs[i]? = some v → ∃ y, DataW.trod enc P w base spare held n f.type [v] = some y := by
  obtain ⟨xs, n, _, _, hl, hlen, hf⟩ := DataW.trod_struct ht h
  refine ⟨hl, n, fun i f v hi hv => ?_⟩
  obtain ⟨ho, hc⟩ := hone_of hone i f hi
  have h1 := hf i f hi
  rw [ho, hc] at h1
  have hlt : i < fs.size := (Array.getElem?_eq_some_iff.1 hi).1
  have hx : xs[i]? = some (xs[i]'(by omega)) := List.getElem?_eq_getElem (by omega)
  obtain ⟨hlt2, hv2⟩ := List.getElem?_eq_some_iff.1 hv
  rw [List.drop_eq_getElem_cons hlt2, hv2] at h1
  rw [hx] at h1
  exact ⟨_, by simpa using h1⟩

theorem one_int {t : TypeId} {n : Nat} {v : Value} (ht : P.underlying t = some (.int .i64)) (h : ∃ y, DataW.trod enc P w base spare held n t [v] = some y) : ∃ z, v = .int .i64 z := by
  obtain ⟨y, h⟩ := h
  obtain ⟨z, hz, _⟩ := DataW.trod_int ht h
  exact ⟨z, by simpa using hz⟩
theorem one_bool {t : TypeId} {n : Nat} {v : Value} (ht : P.underlying t = some .bool) (h : ∃ y, DataW.trod enc P w base spare held n t [v] = some y) : ∃ z, v = .bool z := by
  obtain ⟨y, h⟩ := h
  obtain ⟨z, hz, _⟩ := DataW.trod_bool ht h
  exact ⟨z, by simpa using hz⟩

theorem rows_open {α : Type} (row : α → List Value) (z : α) {t e : TypeId} {size fuel : Nat} {v : Value} (ht : P.underlying t = some (.slice e)) (hC : P.cellsOf e = size) (hs0 : 0 < size)
    (hel : ∀ (n : Nat) (cs : List Value) (y : DataW H × List MemPlace), DataW.trod enc P w base spare held n e cs = some y → ∃ r, cs = row r) (h : ∃ x, DataW.trod enc P w base spare held fuel t [v] = some x) :
    ∃ (a : Option Addr) (cap : Nat) (rs : List α), v = .slice a rs.length cap ∧ rs.length ≤ maxLen ∧ RowsAt w a size rs.length (fun k => row (rs.getD k z)) := by
  obtain ⟨x, h⟩ := h
  rcases open_slice ht h with ⟨hcs, _⟩ | ⟨a, len, cap, m, n, D, Pl, hcs, _, hl, hm, hmm, _, hx⟩
  · exact ⟨none, 0, [], by simpa using hcs, Nat.zero_le _, fun k hk => by simp at hk⟩
  · have hlm : len ≤ m := by rw [hmm]; split <;> omega
    have hE : ∀ k, k < len → ∃ r, w.cells? base (a.add (k * size)) size = some (row r) := fun k hk => by
      obtain ⟨cs', h1, h2⟩ := hx k (by omega)
      obtain ⟨r, rfl⟩ := hel _ _ _ h2
      exact ⟨r, by rw [hC] at h1; exact h1⟩
    obtain ⟨f, hf⟩ : ∃ f : Nat → α, ∀ k, k < len → w.cells? base (a.add (k * size)) size = some (row (f k)) :=
      ⟨fun k => if hk : k < len then (hE k hk).choose else z, fun k hk => by have := (hE k hk).choose_spec; simpa only [dif_pos hk] using this⟩
    refine ⟨some a, cap, (List.range len).map f, by simpa using hcs, by simp; omega, fun k hk => ?_⟩
    have hk' : k < len := by simpa using hk
    obtain ⟨_, hlen, hc⟩ := World.cells?_some (hf k hk')
    obtain ⟨v0, hv0⟩ : ∃ v0, (row (f k))[0]? = some v0 := by
      rw [List.getElem?_eq_getElem (by omega)]; exact ⟨_, rfl⟩
    have hc0 := (hc 0 hs0).trans hv0
    obtain ⟨b, o, sp⟩ := a
    have hsp : sp = none := by
      obtain ⟨_, hlen', hc'⟩ := World.cells?_some (hf 0 (by omega))
      obtain ⟨u0, hu0⟩ : ∃ u0, (row (f 0))[0]? = some u0 := by
        rw [List.getElem?_eq_getElem (by omega)]; exact ⟨_, rfl⟩
      have := World.cell?_spot ((hc' 0 hs0).trans hu0)
      simpa [Addr.add] using this
    subst hsp
    have hlt := World.block_lt_of_cell? w _ hc0
    refine ⟨b, o, rfl, by simp only [Addr.add] at hlt; (repeat' split at hlt) <;> exact hlt, fun i v hv => ?_⟩
    dsimp only at hv
    have hg : ((List.range len).map f).getD k z = f k := by simp [hk']
    rw [hg] at hv
    obtain ⟨hi, _⟩ := List.getElem?_eq_some_iff.1 hv
    have := (hc i (by omega)).trans hv
    rw [add_plain, add_plain] at this
    exact this
end

theorem list5 {α : Type} {l : List α} (h : l.length = 5) : ∃ c0 c1 c2 c3 c4, l = [c0, c1, c2, c3, c4] := by
  match l, h with
  | [c0, c1, c2, c3, c4], _ => exact ⟨c0, c1, c2, c3, c4, rfl⟩
theorem list6 {α : Type} {l : List α} (h : l.length = 6) : ∃ c0 c1 c2 c3 c4 c5, l = [c0, c1, c2, c3, c4, c5] := by
  match l, h with
  | [c0, c1, c2, c3, c4, c5], _ => exact ⟨c0, c1, c2, c3, c4, c5, rfl⟩
theorem list9 {α : Type} {l : List α} (h : l.length = 9) : ∃ c0 c1 c2 c3 c4 c5 c6 c7 c8, l = [c0, c1, c2, c3, c4, c5, c6, c7, c8] := by
  match l, h with
  | [c0, c1, c2, c3, c4, c5, c6, c7, c8], _ => exact ⟨c0, c1, c2, c3, c4, c5, c6, c7, c8, rfl⟩
theorem list12 {α : Type} {l : List α} (h : l.length = 12) : ∃ c0 c1 c2 c3 c4 c5 c6 c7 c8 c9 c10 c11, l = [c0, c1, c2, c3, c4, c5, c6, c7, c8, c9, c10, c11] := by
  match l, h with
  | [c0, c1, c2, c3, c4, c5, c6, c7, c8, c9, c10, c11], _ => exact ⟨c0, c1, c2, c3, c4, c5, c6, c7, c8, c9, c10, c11, rfl⟩

theorem node_open {H : Type} {enc : TypeId × Value → H} {w : World} {base : Nat} {spare : Nat → Bool} {held : Bool} {fuel : Nat} {cs : List Value} {x : DataW H × List MemPlace} (h : DataW.trod enc Try.prog w base spare held fuel 55 cs = some x) : ∃ r : NodeD, cs = nodeVals r := by
  obtain ⟨hl, n, hf⟩ := trod_ones Try.underlying55 (by kernel_rfl) h
  obtain ⟨c0, c1, c2, c3, c4, rfl⟩ := list5 (hl.trans (by kernel_rfl))
  obtain ⟨z0, rfl⟩ := one_bool Try.underlying4 (hf 0 _ c0 rfl rfl)
  obtain ⟨z1, rfl⟩ := one_bool Try.underlying4 (hf 1 _ c1 rfl rfl)
  obtain ⟨z2, rfl⟩ := one_bool Try.underlying4 (hf 2 _ c2 rfl rfl)
  obtain ⟨z3, rfl⟩ := one_int Try.underlying3 (hf 3 _ c3 rfl rfl)
  obtain ⟨z4, rfl⟩ := one_int Try.underlying3 (hf 4 _ c4 rfl rfl)
  exact ⟨⟨z0, z1, z2, z3, z4⟩, rfl⟩

theorem job_open {H : Type} {enc : TypeId × Value → H} {w : World} {base : Nat} {spare : Nat → Bool} {held : Bool} {fuel : Nat} {cs : List Value} {x : DataW H × List MemPlace} (h : DataW.trod enc Try.prog w base spare held fuel 47 cs = some x) : ∃ r : JobD, cs = jobVals r := by
  obtain ⟨hl, n, hf⟩ := trod_ones Try.underlying47 (by kernel_rfl) h
  obtain ⟨c0, c1, c2, c3, c4, c5, c6, c7, c8, c9, c10, c11, rfl⟩ := list12 (hl.trans (by kernel_rfl))
  obtain ⟨z0, rfl⟩ := one_int Try.underlying3 (hf 0 _ c0 rfl rfl)
  obtain ⟨z1, rfl⟩ := one_int Try.underlying3 (hf 1 _ c1 rfl rfl)
  obtain ⟨z2, rfl⟩ := one_int Try.underlying3 (hf 2 _ c2 rfl rfl)
  obtain ⟨z3, rfl⟩ := one_int Try.underlying3 (hf 3 _ c3 rfl rfl)
  obtain ⟨z4, rfl⟩ := one_int Try.underlying3 (hf 4 _ c4 rfl rfl)
  obtain ⟨z5, rfl⟩ := one_int Try.underlying3 (hf 5 _ c5 rfl rfl)
  obtain ⟨z6, rfl⟩ := one_int Try.underlying3 (hf 6 _ c6 rfl rfl)
  obtain ⟨z7, rfl⟩ := one_int Try.underlying3 (hf 7 _ c7 rfl rfl)
  obtain ⟨z8, rfl⟩ := one_int Try.underlying3 (hf 8 _ c8 rfl rfl)
  obtain ⟨z9, rfl⟩ := one_int Try.underlying3 (hf 9 _ c9 rfl rfl)
  obtain ⟨z10, rfl⟩ := one_int Try.underlying3 (hf 10 _ c10 rfl rfl)
  obtain ⟨z11, rfl⟩ := one_int Try.underlying3 (hf 11 _ c11 rfl rfl)
  exact ⟨⟨z0, z1, z2, z3, z4, z5, z6, z7, z8, z9, z10, z11⟩, rfl⟩

def confVals (c : ConfD) : List Value := [.int .i64 c.nodes, .int .i64 c.queues, .int .i64 c.quota, .int .i64 c.wave, .int .i64 c.lease, .int .i64 c.retry, .int .i64 c.deadline, .int .i64 c.room, .int .i64 c.disk]

theorem conf_cells {H : Type} {enc : TypeId × Value → H} {w : World} {base : Nat} {spare : Nat → Bool} {held : Bool} {fuel : Nat} {cs : List Value} {x : DataW H × List MemPlace} (h : DataW.trod enc Try.prog w base spare held fuel 29 cs = some x) : ∃ r : ConfD, cs = confVals r := by
  obtain ⟨hl, n, hf⟩ := trod_ones Try.underlying29 (by kernel_rfl) h
  obtain ⟨c0, c1, c2, c3, c4, c5, c6, c7, c8, rfl⟩ := list9 (hl.trans (by kernel_rfl))
  obtain ⟨z0, rfl⟩ := one_int Try.underlying3 (hf 0 _ c0 rfl rfl)
  obtain ⟨z1, rfl⟩ := one_int Try.underlying3 (hf 1 _ c1 rfl rfl)
  obtain ⟨z2, rfl⟩ := one_int Try.underlying3 (hf 2 _ c2 rfl rfl)
  obtain ⟨z3, rfl⟩ := one_int Try.underlying3 (hf 3 _ c3 rfl rfl)
  obtain ⟨z4, rfl⟩ := one_int Try.underlying3 (hf 4 _ c4 rfl rfl)
  obtain ⟨z5, rfl⟩ := one_int Try.underlying3 (hf 5 _ c5 rfl rfl)
  obtain ⟨z6, rfl⟩ := one_int Try.underlying3 (hf 6 _ c6 rfl rfl)
  obtain ⟨z7, rfl⟩ := one_int Try.underlying3 (hf 7 _ c7 rfl rfl)
  obtain ⟨z8, rfl⟩ := one_int Try.underlying3 (hf 8 _ c8 rfl rfl)
  exact ⟨⟨z0, z1, z2, z3, z4, z5, z6, z7, z8⟩, rfl⟩

theorem conf_open {H : Type} {enc : TypeId × Value → H} {W : World} {r : Reach} {b0 base : Nat} {spare : Nat → Bool} {held : Bool} {v : Value} {d : DataW H} {p : List MemPlace} (hv : Value.okWide Try.prog W r b0 29 v) (h : DataW.Trod enc Try.prog W base spare held 29 v d p) : ∃ c : ConfD, v = confV c := by
  obtain ⟨cs, rfl, _⟩ := okWide_struct Try.underlying29 hv
  obtain ⟨fuel, hf⟩ := h
  obtain ⟨c, hc⟩ := conf_cells hf
  have : cs.toList = confVals c := by simpa [Value.cells] using hc
  exact ⟨c, by rw [← Array.toArray_toList (xs := cs), this]; rfl⟩

theorem state_open {H : Type} {enc : TypeId × Value → H} {W : World} {r : Reach} {b0 base : Nat} {spare : Nat → Bool} {held : Bool} {v : Value} {d : DataW H} {p : List MemPlace} (hv : Value.okWide Try.prog W r b0 33 v) (h : DataW.Trod enc Try.prog W base spare held 33 v d p) :
    ∃ (s : StateD) (a1 a2 : Option Addr) (c1 c2 : Nat), v = stateV s a1 a2 c1 c2 ∧ StateAt W s a1 a2 ∧ s.nodes.length ≤ maxLen ∧ s.jobs.length ≤ maxLen := by
  obtain ⟨cs, rfl, _⟩ := okWide_struct Try.underlying33 hv
  obtain ⟨fuel, hf⟩ := h
  obtain ⟨hl, n, hn⟩ := trod_ones Try.underlying33 (by kernel_rfl) hf
  have hl6 : cs.toList.length = 6 := by simpa [Value.cells] using hl.trans (by kernel_rfl)
  have hn' : ∀ (i : Nat) (f : Field) (v : Value), _ → cs.toList[i]? = some v → ∃ y, DataW.trod enc Try.prog W base spare held n f.type [v] = some y := fun i f v hi hv => hn i f v hi (by simpa [Value.cells] using hv)
  obtain ⟨c0, c1, c2, c3, c4, c5, he⟩ := list6 hl6
  rw [he] at hn'
  obtain ⟨a1, k1, ns, rfl, hs1, hr1⟩ := rows_open nodeVals zeroNode Try.underlying30 (by kernel_rfl : Try.prog.cellsOf 55 = 5) (by omega) (fun _ _ _ h => node_open h) (hn' 0 _ c0 rfl rfl)
  obtain ⟨a2, k2, js, rfl, hs2, hr2⟩ := rows_open jobVals zeroJob Try.underlying31 (by kernel_rfl : Try.prog.cellsOf 47 = 12) (by omega) (fun _ _ _ h => job_open h) (hn' 1 _ c1 rfl rfl)
  obtain ⟨z2, rfl⟩ := one_int Try.underlying3 (hn' 2 _ c2 rfl rfl)
  obtain ⟨z3, rfl⟩ := one_int Try.underlying3 (hn' 3 _ c3 rfl rfl)
  obtain ⟨z4, rfl⟩ := one_int Try.underlying3 (hn' 4 _ c4 rfl rfl)
  obtain ⟨z5, rfl⟩ := one_int Try.underlying3 (hn' 5 _ c5 rfl rfl)
  refine ⟨⟨ns, js, z2, z3, z4, z5⟩, a1, a2, k1, k2, ?_, ⟨hr1, hr2⟩, hs1, hs2⟩
  rw [← Array.toArray_toList (xs := cs), he]
end Go.Proofs.Ytclgmpflmeopmaa
