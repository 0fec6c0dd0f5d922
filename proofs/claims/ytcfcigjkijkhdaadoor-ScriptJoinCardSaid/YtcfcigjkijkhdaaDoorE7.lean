/- A script's entries as arguments. -/
import Derived.Test.YtcfcigjkijkhdaaDoorE6
import Derived.Test.YtcfcigjkijkhdaaDoorSC
set_option linter.unusedVariables false
set_option linter.unusedSimpArgs false
namespace Dv
open Go Go.Proofs
open Go.ChangeShapes Go.WideShapes Go.RowKit Go.Deep Go.WideElems

def entVals (e : EntD) : List Value := [.int .i64 e.kind, .int .i64 e.a, .int .i64 e.b, .int .i64 e.op.kind, .int .i64 e.op.a, .int .i64 e.op.b, .int .i64 e.op.c, .int .i64 e.op.d, .int .i64 e.op.e, .int .i64 e.op.f]
theorem list10 {α : Type} {l : List α} (h : l.length = 10) : ∃ c0 c1 c2 c3 c4 c5 c6 c7 c8 c9, l = [c0, c1, c2, c3, c4, c5, c6, c7, c8, c9] := by
  match l, h with
  | [c0, c1, c2, c3, c4, c5, c6, c7, c8, c9], _ => exact ⟨c0, c1, c2, c3, c4, c5, c6, c7, c8, c9, rfl⟩
set_option maxRecDepth 100000 in
theorem ent_cells {H : Type} {enc : TypeId × Value → H} {w : World} {base : Nat} {spare : Nat → Bool} {held : Bool} {fuel : Nat} {cs : List Value} {x : DataW H × List MemPlace} (h : DataW.trod enc Tryd.prog w base spare held fuel 25 cs = some x) : ∃ r : EntD, cs = entVals r := by
  obtain ⟨xs, n, _, _, hl, hlen, hf⟩ := DataW.trod_struct Tryd.underlying25 h
  obtain ⟨c0, c1, c2, c3, c4, c5, c6, c7, c8, c9, rfl⟩ := list10 (hl.trans (by kernel_rfl))
  have hi : Tryd.prog.cellsOf 3 = 1 := by kernel_rfl
  have ho : Tryd.prog.cellsOf 23 = 7 := by kernel_rfl
  have some_of : ∀ i, i < 4 → ∃ y, xs[i]? = some y := fun i hi => ⟨_, List.getElem?_eq_getElem (by rw [hlen]; exact hi)⟩
  have h0 : DataW.trod enc Tryd.prog w base spare held n 3 (([c0, c1, c2, c3, c4, c5, c6, c7, c8, c9].drop 0).take (Tryd.prog.cellsOf 3)) = xs[0]? := hf 0 _ rfl
  have h1 : DataW.trod enc Tryd.prog w base spare held n 3 (([c0, c1, c2, c3, c4, c5, c6, c7, c8, c9].drop 1).take (Tryd.prog.cellsOf 3)) = xs[1]? := hf 1 _ rfl
  have h2 : DataW.trod enc Tryd.prog w base spare held n 3 (([c0, c1, c2, c3, c4, c5, c6, c7, c8, c9].drop 2).take (Tryd.prog.cellsOf 3)) = xs[2]? := hf 2 _ rfl
  have h3 : DataW.trod enc Tryd.prog w base spare held n 23 (([c0, c1, c2, c3, c4, c5, c6, c7, c8, c9].drop 3).take (Tryd.prog.cellsOf 23)) = xs[3]? := hf 3 _ rfl
  obtain ⟨y0, e0⟩ := some_of 0 (by decide)
  obtain ⟨y1, e1⟩ := some_of 1 (by decide)
  obtain ⟨y2, e2⟩ := some_of 2 (by decide)
  obtain ⟨y3, e3⟩ := some_of 3 (by decide)
  rw [e0] at h0
  rw [e1] at h1
  rw [e2] at h2
  rw [e3] at h3
  simp only [hi, ho, List.drop_succ_cons, List.drop_zero, List.take_succ_cons, List.take_zero] at h0 h1 h2 h3
  obtain ⟨z0, rfl⟩ := one_int Tryd.underlying3 ⟨_, h0⟩
  obtain ⟨z1, rfl⟩ := one_int Tryd.underlying3 ⟨_, h1⟩
  obtain ⟨z2, rfl⟩ := one_int Tryd.underlying3 ⟨_, h2⟩
  obtain ⟨o, hc⟩ := op_cells h3
  simp only [opVals, List.cons.injEq, and_true] at hc
  obtain ⟨rfl, rfl, rfl, rfl, rfl, rfl, rfl⟩ := hc
  exact ⟨⟨z0, z1, z2, o⟩, rfl⟩
set_option maxRecDepth 100000 in
theorem ent_open {H : Type} {enc : TypeId × Value → H} {W : World} {r : Reach} {b0 base : Nat} {spare : Nat → Bool} {held : Bool} {v : Value} {d : DataW H} {p : List MemPlace} (hv : Value.okWide Tryd.prog W r b0 25 v) (h : DataW.Trod enc Tryd.prog W base spare held 25 v d p) : ∃ c : EntD, Rep (J0 W) W ι0 (entV c) v := by
  obtain ⟨cs, rfl, _⟩ := okWide_struct Tryd.underlying25 hv
  obtain ⟨fuel, hf⟩ := h
  obtain ⟨c, hc⟩ := ent_cells hf
  have : cs.toList = entVals c := by simpa [Value.cells] using hc
  refine ⟨c, cs, rfl, ?_⟩
  rw [this]
  simp [entVals, RepC, Rep, RepD, Value.oneCell', LV.int]
set_option maxRecDepth 100000 in
theorem ents_open {H : Type} {enc : TypeId × Value → H} {W : World} {base : Nat} {spare : Nat → Bool} {held : Bool} {r : Reach} {b0 : Nat} {v : Value} {d : DataW H} {p : List MemPlace} (hv : Value.okWide Tryd.prog W r b0 32 v) (h : DataW.Trod enc Tryd.prog W base spare held 32 v d p) : ∃ l : List EntD, Rep (J0 W) W ι0 (entsV l) v := by
  obtain ⟨a, len, cap, rfl⟩ := okWide_slice Tryd.underlying32 hv
  obtain ⟨fuel, hf⟩ := h
  obtain ⟨l, _, _, hr⟩ := rows_open (size := 10) entVals zeroEnt (fun r v hv => by simp [entVals] at hv; rcases hv with rfl | rfl | rfl | rfl | rfl | rfl | rfl | rfl | rfl | rfl <;> rfl) (fun _ => rfl) Tryd.underlying32 (by kernel_rfl : Tryd.prog.cellsOf 25 = 10) (by omega) (fun _ _ _ h => ent_cells h) ⟨_, hf⟩
  refine ⟨l, ?_⟩
  have e : entRows l = l.map fun r => (entVals r).map DV.val := by simp [entRows, entR, entVals, i64]
  show RepD (J0 W) W (.lst 10 (entRows l)) _
  rw [e]; exact hr
end Dv
