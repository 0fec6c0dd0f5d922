/- Opening a configuration and a state out of any reading of the arguments, as logical values; a law's contract as the post that its statement asks for. -/
import Derived.Test.YtkalnfkokkjliaaGreatDoorDB
import Derived.Test.YtkalnfkokkjliaaGreatDoorProg
import Derived.KernelRfl
import Derived.ProofKit
import Derived.Deep.Slices
import Derived.Deep.Fields
import Derived.Carry
set_option linter.unusedVariables false
set_option linter.unusedSimpArgs false
namespace Dv
open Go Go.Proofs
open Go.ChangeShapes Go.WideShapes Go.RowKit Go.Deep Go.WideElems

def J0 (w : World) (b : Nat) : Prop := ∃ C t f, w.heap[b]? = some (.cells C t f)
theorem J0.of_cell {w : World} {a : Addr} {v : Value} (h : w.cell? a = some v) : J0 w a.block := by
  unfold World.cell? at h
  unfold J0
  split at h
  · rename_i C t f hc; exact ⟨C, t, f, hc⟩
  · cases h
def ι0 : Nat → Nat → Option Nat := fun _ _ => none
def noG : Nat → Option (List DV) := fun _ => none
theorem Store.zero (w : World) : Store noG (J0 w) w ι0 (objL []) := by
  refine ⟨fun o => ?_, fun o o' b h => ?_, fun o b h => ?_, fun b h => h, fun g row h => by cases h⟩
  · have : objL [] o = .free := rfl
    rw [this]; intro n; rfl
  · have : objL [] o = .free := rfl
    rw [this] at h; exact h.elim
  · have : objL [] o = .free := rfl
    rw [this] at h; exact h.elim
theorem After.below {G : Nat → Option (List DV)} {r : LV} {v : Value} {w w' : World} (h : After G (objL []) (objL []) (J0 w) ι0 w r v w') : Below w.heap.size w w' := by
  obtain ⟨J, ι, S, R, E⟩ := h
  refine ⟨E.ev.os, E.ev.tape, E.ev.output, E.ev.size, fun k hk => E.ev.same k hk ?_⟩
  rintro ⟨o, ho⟩
  have : objL [] o = .free := rfl
  rw [this] at ho; exact ho.elim

section
variable {H : Type} {enc : TypeId × Value → H} {P : Program} {w : World} {base : Nat} {spare : Nat → Bool} {held : Bool}

theorem args_stay (hl : laidOutB P = true) {W W' : World} (hb : Below W.heap.size W W') : ∀ {ts : List TypeId} {vs : List Value} {ds : List (DataW H)} {ps : List MemPlace},
    (∀ t ∈ ts, P.readableRec t = true ∧ t < P.types.size) → DataW.TrodAll enc P W 0 (fun _ => true) true ts vs ds ps → (∀ x ∈ ps, x.block < W.heap.size) → DataW.TrodAll enc P W' 0 (fun b => decide (b < W.heap.size)) true ts vs ds ps
  | [], [], [], _, _, h, _ => h
  | _ :: _, _ :: _, _ :: _, _, hT, ⟨p, q, h1, h2, e⟩, hs =>
    ⟨p, q, Below.trod hl (hT _ (List.mem_cons.2 (Or.inl rfl))).1 (hT _ (List.mem_cons.2 (Or.inl rfl))).2 h1 hb (fun x hx => hs x (by rw [e]; exact List.mem_append_left _ hx)),
      args_stay hl hb (fun t ht => hT t (List.mem_cons.2 (Or.inr ht))) h2 (fun x hx => hs x (by rw [e]; exact List.mem_append_right _ hx)), e⟩

theorem trod_ones {t : TypeId} {fs : Array Field} {fuel : Nat} {cs : List Value} {x : DataW H × List MemPlace} (ht : P.underlying t = some (.struct fs)) (hone : oneCellFields P fs = true) (h : DataW.trod enc P w base spare held fuel t cs = some x) :
    cs.length = P.cellsOf t ∧ ∃ n, ∀ (i : Nat) (f : Field) (v : Value), fs[i]? = some f → cs[i]? = some v → ∃ y, DataW.trod enc P w base spare held n f.type [v] = some y := by
  obtain ⟨xs, n, _, _, hl, hlen, hf⟩ := DataW.trod_struct ht h
  refine ⟨hl, n, fun i f v hi hv => ?_⟩
  obtain ⟨ho, hc⟩ := hone_of hone i f hi
  have h1 := hf i f hi
  rw [ho, hc] at h1
  have hlt : i < fs.size := (Array.getElem?_eq_some_iff.1 hi).1
  have hx : xs[i]? = some (xs[i]'(by omega)) := List.getElem?_eq_getElem (by omega)
  obtain ⟨hlt2, hv2⟩ := List.getElem?_eq_some_iff.1 hv
  rw [List.drop_eq_getElem_cons hlt2, hv2] at h1
  rw [hx] at h1
  exact ⟨_, by simpa using h1⟩

theorem one_int {t : TypeId} {n : Nat} {v : Value} (ht : P.underlying t = some (.int .i64)) (h : ∃ y, DataW.trod enc P w base spare held n t [v] = some y) : ∃ z, v = .int .i64 z := by
  obtain ⟨y, h⟩ := h
  obtain ⟨z, hz, _⟩ := DataW.trod_int ht h
  exact ⟨z, by simpa using hz⟩
theorem rowD_of {J : Nat → Prop} {b : Nat} : ∀ (vs : List Value) (off : Nat), (∀ v ∈ vs, v.oneCell' = true) → (∀ i v, vs[i]? = some v → w.cell? ⟨b, off + i, none⟩ = some v) → RowD J w (vs.map .val) b off
  | [], _, _, _ => trivial
  | v :: vs, off, h1, h2 => ⟨⟨v, by simpa using h2 0 v rfl, h1 v (by simp), rfl⟩, rowD_of vs (off + 1) (fun u hu => h1 u (by simp [hu])) (fun i u hu => by
      have := h2 (i + 1) u (by simpa using hu)
      rw [show off + 1 + i = off + (i + 1) by omega]; exact this)⟩
end

def confVals (c : ConfD) : List Value := [.int .i64 c.nodes, .int .i64 c.queues, .int .i64 c.quota, .int .i64 c.wave, .int .i64 c.lease, .int .i64 c.retry, .int .i64 c.deadline, .int .i64 c.room, .int .i64 c.disk]
theorem list9 {α : Type} {l : List α} (h : l.length = 9) : ∃ c0 c1 c2 c3 c4 c5 c6 c7 c8, l = [c0, c1, c2, c3, c4, c5, c6, c7, c8] := by
  match l, h with
  | [c0, c1, c2, c3, c4, c5, c6, c7, c8], _ => exact ⟨c0, c1, c2, c3, c4, c5, c6, c7, c8, rfl⟩
theorem conf_cells {H : Type} {enc : TypeId × Value → H} {w : World} {base : Nat} {spare : Nat → Bool} {held : Bool} {fuel : Nat} {cs : List Value} {x : DataW H × List MemPlace} (h : DataW.trod enc Tryz.prog w base spare held fuel 23 cs = some x) : ∃ r : ConfD, cs = confVals r := by
  obtain ⟨hl, n, hf⟩ := trod_ones Tryz.underlying23 (by kernel_rfl) h
  obtain ⟨c0, c1, c2, c3, c4, c5, c6, c7, c8, rfl⟩ := list9 (hl.trans (by kernel_rfl))
  obtain ⟨z0, rfl⟩ := one_int Tryz.underlying3 (hf 0 _ c0 rfl rfl)
  obtain ⟨z1, rfl⟩ := one_int Tryz.underlying3 (hf 1 _ c1 rfl rfl)
  obtain ⟨z2, rfl⟩ := one_int Tryz.underlying3 (hf 2 _ c2 rfl rfl)
  obtain ⟨z3, rfl⟩ := one_int Tryz.underlying3 (hf 3 _ c3 rfl rfl)
  obtain ⟨z4, rfl⟩ := one_int Tryz.underlying3 (hf 4 _ c4 rfl rfl)
  obtain ⟨z5, rfl⟩ := one_int Tryz.underlying3 (hf 5 _ c5 rfl rfl)
  obtain ⟨z6, rfl⟩ := one_int Tryz.underlying3 (hf 6 _ c6 rfl rfl)
  obtain ⟨z7, rfl⟩ := one_int Tryz.underlying3 (hf 7 _ c7 rfl rfl)
  obtain ⟨z8, rfl⟩ := one_int Tryz.underlying3 (hf 8 _ c8 rfl rfl)
  exact ⟨⟨z0, z1, z2, z3, z4, z5, z6, z7, z8⟩, rfl⟩


set_option maxRecDepth 100000 in
theorem conf_open {H : Type} {enc : TypeId × Value → H} {W : World} {r : Reach} {b0 base : Nat} {spare : Nat → Bool} {held : Bool} {v : Value} {d : DataW H} {p : List MemPlace} (hv : Value.okWide Tryz.prog W r b0 23 v) (h : DataW.Trod enc Tryz.prog W base spare held 23 v d p) : ∃ c : ConfD, Rep (J0 W) W ι0 (confV c) v := by
  obtain ⟨cs, rfl, _⟩ := okWide_struct Tryz.underlying23 hv
  obtain ⟨fuel, hf⟩ := h
  obtain ⟨c, hc⟩ := conf_cells hf
  have : cs.toList = confVals c := by simpa [Value.cells] using hc
  refine ⟨c, cs, rfl, ?_⟩
  rw [this]
  simp [confVals,RepC,Rep,RepD,Value.oneCell',LV.int]

end Dv
