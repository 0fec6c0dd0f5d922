/- Opening a list of messages, of truth values, of numbers. -/
import Derived.Test.YtclgmpflmeopmaaE1
set_option linter.unusedVariables false
set_option linter.unusedSimpArgs false
namespace Dv
open Go Go.Proofs
open Go.ChangeShapes Go.WideShapes Go.RowKit Go.Deep Go.WideElems

def msgVals (m : MsgD) : List Value := [.int .i64 m.node, .int .i64 m.kind, .int .i64 m.term, .int .i64 m.gen, .int .i64 m.job, .int .i64 m.inc, .int .i64 m.version, .int .i64 m.epoch, .int .i64 m.til, .int .i64 m.mode, .int .i64 m.work]
theorem list11 {α : Type} {l : List α} (h : l.length = 11) : ∃ c0 c1 c2 c3 c4 c5 c6 c7 c8 c9 c10, l = [c0, c1, c2, c3, c4, c5, c6, c7, c8, c9, c10] := by
  match l, h with
  | [c0, c1, c2, c3, c4, c5, c6, c7, c8, c9, c10], _ => exact ⟨c0, c1, c2, c3, c4, c5, c6, c7, c8, c9, c10, rfl⟩
theorem msg_cells {H : Type} {enc : TypeId × Value → H} {w : World} {base : Nat} {spare : Nat → Bool} {held : Bool} {fuel : Nat} {cs : List Value} {x : DataW H × List MemPlace} (h : DataW.trod enc Try.prog w base spare held fuel 53 cs = some x) : ∃ r : MsgD, cs = msgVals r := by
  obtain ⟨hl, n, hf⟩ := trod_ones Try.underlying53 (by kernel_rfl) h
  obtain ⟨c0, c1, c2, c3, c4, c5, c6, c7, c8, c9, c10, rfl⟩ := list11 (hl.trans (by kernel_rfl))
  obtain ⟨z0, rfl⟩ := one_int Try.underlying3 (hf 0 _ c0 rfl rfl)
  obtain ⟨z1, rfl⟩ := one_int Try.underlying3 (hf 1 _ c1 rfl rfl)
  obtain ⟨z2, rfl⟩ := one_int Try.underlying3 (hf 2 _ c2 rfl rfl)
  obtain ⟨z3, rfl⟩ := one_int Try.underlying3 (hf 3 _ c3 rfl rfl)
  obtain ⟨z4, rfl⟩ := one_int Try.underlying3 (hf 4 _ c4 rfl rfl)
  obtain ⟨z5, rfl⟩ := one_int Try.underlying3 (hf 5 _ c5 rfl rfl)
  obtain ⟨z6, rfl⟩ := one_int Try.underlying3 (hf 6 _ c6 rfl rfl)
  obtain ⟨z7, rfl⟩ := one_int Try.underlying3 (hf 7 _ c7 rfl rfl)
  obtain ⟨z8, rfl⟩ := one_int Try.underlying3 (hf 8 _ c8 rfl rfl)
  obtain ⟨z9, rfl⟩ := one_int Try.underlying3 (hf 9 _ c9 rfl rfl)
  obtain ⟨z10, rfl⟩ := one_int Try.underlying3 (hf 10 _ c10 rfl rfl)
  exact ⟨⟨z0, z1, z2, z3, z4, z5, z6, z7, z8, z9, z10⟩, rfl⟩
set_option maxRecDepth 100000 in
theorem msgs_open {H : Type} {enc : TypeId × Value → H} {W : World} {base : Nat} {spare : Nat → Bool} {held : Bool} {r : Reach} {b0 : Nat} {v : Value} {d : DataW H} {p : List MemPlace} (hv : Value.okWide Try.prog W r b0 48 v) (h : DataW.Trod enc Try.prog W base spare held 48 v d p) : ∃ l : List MsgD, Rep (J0 W) W ι0 (msgsV l) v := by
  obtain ⟨a, len, cap, rfl⟩ := okWide_slice Try.underlying48 hv
  obtain ⟨fuel, hf⟩ := h
  obtain ⟨l, _, _, hr⟩ := rows_open msgVals zeroMsg (fun r v hv => by simp [msgVals] at hv; rcases hv with rfl | rfl | rfl | rfl | rfl | rfl | rfl | rfl | rfl | rfl | rfl <;> rfl) (fun _ => rfl) Try.underlying48 (by kernel_rfl : Try.prog.cellsOf 53 = 11) (by omega) (fun _ _ _ h => msg_cells h) ⟨_, hf⟩
  exact ⟨l, hr⟩
def boolsV (l : List Bool) : LV := .d (.lst 1 (l.map fun b => [bl b]))
def intsV (l : List Int) : LV := .d (.lst 1 (l.map fun n => [i64 n]))
set_option maxRecDepth 100000 in
theorem bools_open {H : Type} {enc : TypeId × Value → H} {W : World} {base : Nat} {spare : Nat → Bool} {held : Bool} {r : Reach} {b0 : Nat} {v : Value} {d : DataW H} {p : List MemPlace} (hv : Value.okWide Try.prog W r b0 22 v) (h : DataW.Trod enc Try.prog W base spare held 22 v d p) : ∃ l : List Bool, Rep (J0 W) W ι0 (boolsV l) v := by
  obtain ⟨a, len, cap, rfl⟩ := okWide_slice Try.underlying22 hv
  obtain ⟨fuel, hf⟩ := h
  obtain ⟨l, _, _, hr⟩ := rows_open (size := 1) (fun b : Bool => [Value.bool b]) false (fun r v hv => by simp at hv; rw [hv]; rfl) (fun _ => rfl) Try.underlying22 (by kernel_rfl : Try.prog.cellsOf 4 = 1) (by omega) (fun _ _ _ h => by
    obtain ⟨z, hz, _⟩ := DataW.trod_bool Try.underlying4 h
    exact ⟨z, hz⟩) ⟨_, hf⟩
  exact ⟨l, hr⟩
set_option maxRecDepth 100000 in
theorem ints_open {H : Type} {enc : TypeId × Value → H} {W : World} {base : Nat} {spare : Nat → Bool} {held : Bool} {r : Reach} {b0 : Nat} {v : Value} {d : DataW H} {p : List MemPlace} (hv : Value.okWide Try.prog W r b0 23 v) (h : DataW.Trod enc Try.prog W base spare held 23 v d p) : ∃ l : List Int, Rep (J0 W) W ι0 (intsV l) v := by
  obtain ⟨a, len, cap, rfl⟩ := okWide_slice Try.underlying23 hv
  obtain ⟨fuel, hf⟩ := h
  obtain ⟨l, _, _, hr⟩ := rows_open (size := 1) (fun n : Int => [Value.int .i64 n]) 0 (fun r v hv => by simp at hv; rw [hv]; rfl) (fun _ => rfl) Try.underlying23 (by kernel_rfl : Try.prog.cellsOf 3 = 1) (by omega) (fun _ _ _ h => by
    obtain ⟨z, hz, _⟩ := DataW.trod_int Try.underlying3 h
    exact ⟨z, hz⟩) ⟨_, hf⟩
  exact ⟨l, hr⟩
end Dv
