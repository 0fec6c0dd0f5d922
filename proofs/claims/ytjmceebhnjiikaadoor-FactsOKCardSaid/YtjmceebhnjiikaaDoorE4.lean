/- Opening a list of messages, of truth values, of numbers. -/
import Derived.Test.YtjmceebhnjiikaaDoorE1
set_option linter.unusedVariables false
set_option linter.unusedSimpArgs false
namespace Dv
open Go Go.Proofs
open Go.ChangeShapes Go.WideShapes Go.RowKit Go.Deep Go.WideElems

def msgVals (m : MsgD) : List Value := [.int .i64 m.node, .int .i64 m.kind, .int .i64 m.term, .int .i64 m.gen, .int .i64 m.job, .int .i64 m.inc, .int .i64 m.version, .int .i64 m.epoch, .int .i64 m.til, .int .i64 m.mode, .int .i64 m.work]
theorem list11 {α : Type} {l : List α} (h : l.length = 11) : ∃ c0 c1 c2 c3 c4 c5 c6 c7 c8 c9 c10, l = [c0, c1, c2, c3, c4, c5, c6, c7, c8, c9, c10] := by
  match l, h with
  | [c0, c1, c2, c3, c4, c5, c6, c7, c8, c9, c10], _ => exact ⟨c0, c1, c2, c3, c4, c5, c6, c7, c8, c9, c10, rfl⟩
theorem msg_cells {H : Type} {enc : TypeId × Value → H} {w : World} {base : Nat} {spare : Nat → Bool} {held : Bool} {fuel : Nat} {cs : List Value} {x : DataW H × List MemPlace} (h : DataW.trod enc Tryd.prog w base spare held fuel 94 cs = some x) : ∃ r : MsgD, cs = msgVals r := by
  obtain ⟨hl, n, hf⟩ := trod_ones Tryd.underlying94 (by kernel_rfl) h
  obtain ⟨c0, c1, c2, c3, c4, c5, c6, c7, c8, c9, c10, rfl⟩ := list11 (hl.trans (by kernel_rfl))
  obtain ⟨z0, rfl⟩ := one_int Tryd.underlying3 (hf 0 _ c0 rfl rfl)
  obtain ⟨z1, rfl⟩ := one_int Tryd.underlying3 (hf 1 _ c1 rfl rfl)
  obtain ⟨z2, rfl⟩ := one_int Tryd.underlying3 (hf 2 _ c2 rfl rfl)
  obtain ⟨z3, rfl⟩ := one_int Tryd.underlying3 (hf 3 _ c3 rfl rfl)
  obtain ⟨z4, rfl⟩ := one_int Tryd.underlying3 (hf 4 _ c4 rfl rfl)
  obtain ⟨z5, rfl⟩ := one_int Tryd.underlying3 (hf 5 _ c5 rfl rfl)
  obtain ⟨z6, rfl⟩ := one_int Tryd.underlying3 (hf 6 _ c6 rfl rfl)
  obtain ⟨z7, rfl⟩ := one_int Tryd.underlying3 (hf 7 _ c7 rfl rfl)
  obtain ⟨z8, rfl⟩ := one_int Tryd.underlying3 (hf 8 _ c8 rfl rfl)
  obtain ⟨z9, rfl⟩ := one_int Tryd.underlying3 (hf 9 _ c9 rfl rfl)
  obtain ⟨z10, rfl⟩ := one_int Tryd.underlying3 (hf 10 _ c10 rfl rfl)
  exact ⟨⟨z0, z1, z2, z3, z4, z5, z6, z7, z8, z9, z10⟩, rfl⟩
set_option maxRecDepth 100000 in
theorem msgs_open {H : Type} {enc : TypeId × Value → H} {W : World} {base : Nat} {spare : Nat → Bool} {held : Bool} {r : Reach} {b0 : Nat} {v : Value} {d : DataW H} {p : List MemPlace} (hv : Value.okWide Tryd.prog W r b0 59 v) (h : DataW.Trod enc Tryd.prog W base spare held 59 v d p) : ∃ l : List MsgD, Rep (J0 W) W ι0 (msgsV l) v := by
  obtain ⟨a, len, cap, rfl⟩ := okWide_slice Tryd.underlying59 hv
  obtain ⟨fuel, hf⟩ := h
  obtain ⟨l, _, _, hr⟩ := rows_open msgVals zeroMsg (fun r v hv => by simp [msgVals] at hv; rcases hv with rfl | rfl | rfl | rfl | rfl | rfl | rfl | rfl | rfl | rfl | rfl <;> rfl) (fun _ => rfl) Tryd.underlying59 (by kernel_rfl : Tryd.prog.cellsOf 94 = 11) (by omega) (fun _ _ _ h => msg_cells h) ⟨_, hf⟩
  exact ⟨l, hr⟩
def boolsV (l : List Bool) : LV := .d (.lst 1 (l.map fun b => [bl b]))
def intsV (l : List Int) : LV := .d (.lst 1 (l.map fun n => [i64 n]))
set_option maxRecDepth 100000 in
theorem bools_open {H : Type} {enc : TypeId × Value → H} {W : World} {base : Nat} {spare : Nat → Bool} {held : Bool} {r : Reach} {b0 : Nat} {v : Value} {d : DataW H} {p : List MemPlace} (hv : Value.okWide Tryd.prog W r b0 97 v) (h : DataW.Trod enc Tryd.prog W base spare held 97 v d p) : ∃ l : List Bool, Rep (J0 W) W ι0 (boolsV l) v := by
  obtain ⟨a, len, cap, rfl⟩ := okWide_slice Tryd.underlying97 hv
  obtain ⟨fuel, hf⟩ := h
  obtain ⟨l, _, _, hr⟩ := rows_open (size := 1) (fun b : Bool => [Value.bool b]) false (fun r v hv => by simp at hv; rw [hv]; rfl) (fun _ => rfl) Tryd.underlying97 (by kernel_rfl : Tryd.prog.cellsOf 4 = 1) (by omega) (fun _ _ _ h => by
    obtain ⟨z, hz, _⟩ := DataW.trod_bool Tryd.underlying4 h
    exact ⟨z, hz⟩) ⟨_, hf⟩
  exact ⟨l, hr⟩
set_option maxRecDepth 100000 in
theorem ints_open {H : Type} {enc : TypeId × Value → H} {W : World} {base : Nat} {spare : Nat → Bool} {held : Bool} {r : Reach} {b0 : Nat} {v : Value} {d : DataW H} {p : List MemPlace} (hv : Value.okWide Tryd.prog W r b0 84 v) (h : DataW.Trod enc Tryd.prog W base spare held 84 v d p) : ∃ l : List Int, Rep (J0 W) W ι0 (intsV l) v := by
  obtain ⟨a, len, cap, rfl⟩ := okWide_slice Tryd.underlying84 hv
  obtain ⟨fuel, hf⟩ := h
  obtain ⟨l, _, _, hr⟩ := rows_open (size := 1) (fun n : Int => [Value.int .i64 n]) 0 (fun r v hv => by simp at hv; rw [hv]; rfl) (fun _ => rfl) Tryd.underlying84 (by kernel_rfl : Tryd.prog.cellsOf 3 = 1) (by omega) (fun _ _ _ h => by
    obtain ⟨z, hz, _⟩ := DataW.trod_int Tryd.underlying3 h
    exact ⟨z, hz⟩) ⟨_, hf⟩
  exact ⟨l, hr⟩
end Dv
