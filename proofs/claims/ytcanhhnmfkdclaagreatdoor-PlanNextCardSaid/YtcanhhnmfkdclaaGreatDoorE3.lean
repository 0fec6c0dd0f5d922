/- The package's tables, opened out of the condition on memory; ops as arguments. -/
import Derived.Test.YtcanhhnmfkdclaaGreatDoorDA
import Derived.Test.YtcanhhnmfkdclaaGreatDoorE1
import Derived.LaidMore
import Derived.OpenShut
import Derived.LaidHandle
import Derived.MakeChecks
import Derived.Test.YtcanhhnmfkdclaaGreatDoorRows
set_option linter.unusedVariables false
set_option linter.unusedSimpArgs false
namespace Dv
open Go Go.Proofs
open Go.ChangeShapes Go.WideShapes Go.RowKit Go.Deep Go.WideElems

section
variable {H : Type} {enc : TypeId × Value → H} {P : Program} {w : World} {base : Nat} {spare : Nat → Bool} {held : Bool}
theorem array_open {n fuel : Nat} {t e : TypeId} {cs : List Value} {p : List MemPlace} (ht : P.underlying t = some (.array n e)) (hc : P.cellsOf e = 1) (hct : P.cellsOf t = n) {vals : List Value} {ds : List (DataW H)} (hlen : vals.length = n)
    (hel : ∀ (m i : Nat) (cs' : List Value) (x : DataW H × List MemPlace), DataW.trod enc P w base spare held m e cs' = some x → ds[i]? = some x.1 → ∃ v, vals[i]? = some v ∧ cs' = [v])
    (h : DataW.trod enc P w base spare held fuel t cs = some (.agg ds, p)) : cs = vals := by
  obtain ⟨xs, m, rfl, hx, hl, hn, he⟩ := DataW.trod_array ht h
  simp only [Prod.mk.injEq,DataW.agg.injEq] at hx
  obtain ⟨rfl, _⟩ := hx
  apply List.ext_getElem?
  intro i
  by_cases hi : i < n
  · have h1 := he i hi
    rw [hc, Nat.mul_one] at h1
    have hxi : xs[i]? = some xs[i] := List.getElem?_eq_getElem (by omega)
    rw [hxi] at h1
    obtain ⟨v, hv, hcs⟩ := hel m i _ _ h1 (by rw [List.getElem?_map, hxi]; rfl)
    rw [hv]
    have : ((cs.drop i).take 1)[0]? = some v := by rw [hcs]; rfl
    rw [List.getElem?_take_of_lt (by omega), List.getElem?_drop] at this
    simpa using this
  · rw [List.getElem?_eq_none (by omega), List.getElem?_eq_none (by omega)]
end

def manyVals : List Value := manyL.map (.int .i64)
def namesVals : List Value := namesL.map .string
theorem many_data : (Go.Proofs.YtcanhhnmfkdclaaGreatDoor.Rows.laid_dunnage_ops_many : DataW Unit) = .agg (manyL.map fun n => .lit (.int .i64 n)) := by rfl
theorem names_data : (Go.Proofs.YtcanhhnmfkdclaaGreatDoor.Rows.laid_dunnage_ops_names : DataW Unit) = .agg (namesL.map fun s => .lit (.string s.data.toList)) := by rfl
set_option maxRecDepth 100000 in
theorem many_cells {W : World} {fuel : Nat} {cs : List Value} {p : List MemPlace} (h : DataW.trod (fun _ => ()) Tryz.prog W 0 (fun _ => true) false fuel 120 cs = some (Go.Proofs.YtcanhhnmfkdclaaGreatDoor.Rows.laid_dunnage_ops_many, p)) : cs = manyVals := by
  rw [many_data] at h
  refine array_open Tryz.underlying120 (by kernel_rfl) (by kernel_rfl) rfl (fun m i cs' x hx hi => ?_) h
  obtain ⟨k, e1, e2, _⟩ := DataW.trod_int Tryz.underlying3 hx
  rw [List.getElem?_map, e2] at hi
  obtain ⟨a, ha, hb⟩ := Option.map_eq_some_iff.1 hi
  cases hb
  exact ⟨_, by rw [manyVals, List.getElem?_map, ha]; rfl, e1⟩
set_option maxRecDepth 100000 in
theorem names_cells {W : World} {fuel : Nat} {cs : List Value} {p : List MemPlace} (h : DataW.trod (fun _ => ()) Tryz.prog W 0 (fun _ => true) false fuel 127 cs = some (Go.Proofs.YtcanhhnmfkdclaaGreatDoor.Rows.laid_dunnage_ops_names, p)) : cs = namesVals := by
  rw [names_data] at h
  refine array_open Tryz.underlying127 (by kernel_rfl) (by kernel_rfl) rfl (fun m i cs' x hx hi => ?_) h
  obtain ⟨s, e1, e2, _⟩ := DataW.trod_string Tryz.underlying9 hx
  rw [List.getElem?_map, e2] at hi
  obtain ⟨a, ha, hb⟩ := Option.map_eq_some_iff.1 hi
  simp only [DataW.lit.injEq,Lit.string.injEq] at hb
  have : a = s := by
    obtain ⟨a⟩ := a
    obtain ⟨s⟩ := s
    have : a = s := Array.toList_inj.1 hb
    rw [this]
  subst this
  exact ⟨_, by rw [namesVals, List.getElem?_map, ha]; rfl, e1⟩

@[reducible] def tables : List (String × DataW Unit) := [("dunnage/ops.names", Go.Proofs.YtcanhhnmfkdclaaGreatDoor.Rows.laid_dunnage_ops_names), ("dunnage/ops.many", Go.Proofs.YtcanhhnmfkdclaaGreatDoor.Rows.laid_dunnage_ops_many)]
theorem gMany : Tryz.prog.globalNamed "dunnage/ops.many" = some 0 := by kernel_rfl
theorem gNames : Tryz.prog.globalNamed "dunnage/ops.names" = some 1 := by kernel_rfl
theorem tMany : (Tryz.prog.globals[0]?).map (·.type) = some 120 := by kernel_rfl
theorem tNames : (Tryz.prog.globals[1]?).map (·.type) = some 127 := by kernel_rfl
theorem tables_read {W : World} (h : laidMetH Tryz.prog tables W) : (∀ i : Nat, W.cell? ⟨0, i, none⟩ = manyVals[i]?) ∧ (∀ i : Nat, W.cell? ⟨1, i, none⟩ = namesVals[i]?) := by
  rw [MakeChecks.laidMetH_plain _ _ _ (by kernel_rfl)] at h
  obtain ⟨ps, ⟨g0, t0, cs0, f0, p0, q0, hg0, ht0, hv0, hd0, ⟨g1, t1, cs1, f1, p1, q1, hg1, ht1, hv1, hd1, _, _⟩, _⟩, _, _⟩ := h
  obtain rfl := Option.some.inj (gNames.symm.trans hg0)
  obtain rfl := Option.some.inj (gMany.symm.trans hg1)
  obtain rfl := Option.some.inj (tNames.symm.trans ht0)
  obtain rfl := Option.some.inj (tMany.symm.trans ht1)
  refine ⟨fun i => ?_, fun i => ?_⟩
  · rw [World.var?_cell hg1 hv1 i, ← many_cells hd1]; simp
  · rw [World.var?_cell hg0 hv0 i, ← names_cells hd0]; simp
theorem shape_cells2 {W : World} {b : Nat} {vs : List Value} (h : ∀ i : Nat, W.cell? ⟨b, i, none⟩ = vs[i]?) (h0 : 0 < vs.length) : ∃ t, W.shape? b = some (t, vs.length) := by
  have h1 := h 0
  rw [List.getElem?_eq_getElem h0] at h1
  unfold World.cell? at h1
  split at h1
  · rename_i C t f hc
    have hs : C.toList = vs := List.ext_getElem? (fun i => by
      have := h i
      simp only [World.cell?,hc] at this
      rw [← this]; simp)
    refine ⟨t, ?_⟩
    simp only [World.shape?,hc]
    rw [← hs]; simp
  · cases h1
theorem Store.book {W : World} (h : laidMetH Tryz.prog tables W) : Store bookG (J0 W) W ι0 (objL []) := by
  obtain ⟨h1, h2⟩ := tables_read h
  have S := Store.zero W
  refine ⟨S.rep, S.inj, S.disj, S.jcell, fun g row hg => ?_⟩
  unfold bookG at hg
  split at hg
  · rename_i e; subst e
    cases hg
    refine ⟨J0.of_cell (h1 0), ?_⟩
    have := rowD_of (J := J0 W) (w := W) (b := 0) manyVals 0 (fun v hv => by
      simp only [manyVals,List.mem_map] at hv
      obtain ⟨n, _, rfl⟩ := hv
      rfl) (fun i v hv => by rw [Nat.zero_add, h1 i, hv])
    rw [show manyR = manyVals.map DV.val from by unfold manyR manyVals; rw [List.map_map]; rfl]
    refine ⟨this, ?_⟩
    rw [List.length_map]; exact shape_cells2 h1 (by decide)
  · split at hg
    · rename_i e; subst e
      cases hg
      refine ⟨J0.of_cell (h2 0), ?_⟩
      have := rowD_of (J := J0 W) (w := W) (b := 1) namesVals 0 (fun v hv => by
        simp only [namesVals,List.mem_map] at hv
        obtain ⟨n, _, rfl⟩ := hv
        rfl) (fun i v hv => by rw [Nat.zero_add, h2 i, hv])
      rw [show namesR = namesVals.map DV.val from by unfold namesR namesVals; rw [List.map_map]; rfl]
      refine ⟨this, ?_⟩
      rw [List.length_map]; exact shape_cells2 h2 (by decide)
    · cases hg

set_option maxRecDepth 100000 in
theorem door_met (os : Os) (args : Array Value) : laidMetH Tryz.prog tables ((World.doorLaid Tryz.prog 400 os).forCall (fun _ _ => 0) ⟨#[], args, []⟩).memory :=
  laidMetH_of_parts3 (fuel := 8) (laidMet_of_run' 8 (by kernel_rfl) (by kernel_rfl)) (by kernel_rfl) (by kernel_rfl)

def opVals (o : OpD) : List Value := [.int .i64 o.kind, .int .i64 o.a, .int .i64 o.b, .int .i64 o.c, .int .i64 o.d, .int .i64 o.e, .int .i64 o.f]
theorem list7 {α : Type} {l : List α} (h : l.length = 7) : ∃ c0 c1 c2 c3 c4 c5 c6, l = [c0, c1, c2, c3, c4, c5, c6] := by
  match l, h with
  | [c0, c1, c2, c3, c4, c5, c6], _ => exact ⟨c0, c1, c2, c3, c4, c5, c6, rfl⟩
theorem op_cells {H : Type} {enc : TypeId × Value → H} {w : World} {base : Nat} {spare : Nat → Bool} {held : Bool} {fuel : Nat} {cs : List Value} {x : DataW H × List MemPlace} (h : DataW.trod enc Tryz.prog w base spare held fuel 32 cs = some x) : ∃ r : OpD, cs = opVals r := by
  obtain ⟨hl, n, hf⟩ := trod_ones Tryz.underlying32 (by kernel_rfl) h
  obtain ⟨c0, c1, c2, c3, c4, c5, c6, rfl⟩ := list7 (hl.trans (by kernel_rfl))
  obtain ⟨z0, rfl⟩ := one_int Tryz.underlying3 (hf 0 _ c0 rfl rfl)
  obtain ⟨z1, rfl⟩ := one_int Tryz.underlying3 (hf 1 _ c1 rfl rfl)
  obtain ⟨z2, rfl⟩ := one_int Tryz.underlying3 (hf 2 _ c2 rfl rfl)
  obtain ⟨z3, rfl⟩ := one_int Tryz.underlying3 (hf 3 _ c3 rfl rfl)
  obtain ⟨z4, rfl⟩ := one_int Tryz.underlying3 (hf 4 _ c4 rfl rfl)
  obtain ⟨z5, rfl⟩ := one_int Tryz.underlying3 (hf 5 _ c5 rfl rfl)
  obtain ⟨z6, rfl⟩ := one_int Tryz.underlying3 (hf 6 _ c6 rfl rfl)
  exact ⟨⟨z0, z1, z2, z3, z4, z5, z6⟩, rfl⟩
def opsV (l : List OpD) : LV := .d (.lst 7 (l.map opR))
end Dv
