/- The package's tables, opened out of the condition on memory; ops as arguments. -/
import Derived.Test.YtkalnfkokkjliaaGreatDoorDA
import Derived.Test.YtkalnfkokkjliaaGreatDoorE1
import Derived.LaidMore
import Derived.OpenShut
import Derived.LaidHandle
import Derived.MakeChecks
import Derived.Test.YtkalnfkokkjliaaGreatDoorRows
set_option linter.unusedVariables false
set_option linter.unusedSimpArgs false
namespace Dv
open Go Go.Proofs
open Go.ChangeShapes Go.WideShapes Go.RowKit Go.Deep Go.WideElems

section
variable {H : Type} {enc : TypeId × Value → H} {P : Program} {w : World} {base : Nat} {spare : Nat → Bool} {held : Bool}
theorem array_open {n fuel : Nat} {t e : TypeId} {cs : List Value} {p : List MemPlace} (ht : P.underlying t = some (.array n e)) (hc : P.cellsOf e = 1) (hct : P.cellsOf t = n) {vals : List Value} {ds : List (DataW H)} (hlen : vals.length = n)
    (hel : ∀ (m i : Nat) (cs' : List Value) (x : DataW H × List MemPlace), DataW.trod enc P w base spare held m e cs' = some x → ds[i]? = some x.1 → ∃ v, vals[i]? = some v ∧ cs' = [v])
    (h : DataW.trod enc P w base spare held fuel t cs = some (.agg ds, p)) : cs = vals := by
  obtain ⟨xs, m, rfl, hx, hl, hn, he⟩ := DataW.trod_array ht h
  simp only [Prod.mk.injEq,DataW.agg.injEq] at hx
  obtain ⟨rfl, _⟩ := hx
  apply List.ext_getElem?
  intro i
  by_cases hi : i < n
  · have h1 := he i hi
    rw [hc, Nat.mul_one] at h1
    have hxi : xs[i]? = some xs[i] := List.getElem?_eq_getElem (by omega)
    rw [hxi] at h1
    obtain ⟨v, hv, hcs⟩ := hel m i _ _ h1 (by rw [List.getElem?_map, hxi]; rfl)
    rw [hv]
    have : ((cs.drop i).take 1)[0]? = some v := by rw [hcs]; rfl
    rw [List.getElem?_take_of_lt (by omega), List.getElem?_drop] at this
    simpa using this
  · rw [List.getElem?_eq_none (by omega), List.getElem?_eq_none (by omega)]
end

def namesVals : List Value := namesL.map .string
theorem names_data : (Go.Proofs.YtkalnfkokkjliaaGreatDoor.Rows.laid_dunnage_ops_names : DataW Unit) = .agg (namesL.map fun s => .lit (.string s.data.toList)) := by rfl
set_option maxRecDepth 100000 in
theorem names_cells {W : World} {fuel : Nat} {cs : List Value} {p : List MemPlace} (h : DataW.trod (fun _ => ()) Tryz.prog W 0 (fun _ => true) false fuel 284 cs = some (Go.Proofs.YtkalnfkokkjliaaGreatDoor.Rows.laid_dunnage_ops_names, p)) : cs = namesVals := by
  rw [names_data] at h
  refine array_open Tryz.underlying284 (by kernel_rfl) (by kernel_rfl) rfl (fun m i cs' x hx hi => ?_) h
  obtain ⟨s, e1, e2, _⟩ := DataW.trod_string Tryz.underlying9 hx
  rw [List.getElem?_map, e2] at hi
  obtain ⟨a, ha, hb⟩ := Option.map_eq_some_iff.1 hi
  simp only [DataW.lit.injEq,Lit.string.injEq] at hb
  have : a = s := by
    obtain ⟨a⟩ := a
    obtain ⟨s⟩ := s
    have : a = s := Array.toList_inj.1 hb
    rw [this]
  subst this
  exact ⟨_, by rw [namesVals, List.getElem?_map, ha]; rfl, e1⟩

@[reducible] def tables : List (String × DataW Unit) := [("dunnage/ops.names", Go.Proofs.YtkalnfkokkjliaaGreatDoor.Rows.laid_dunnage_ops_names), ("dunnage/ops.many", Go.Proofs.YtkalnfkokkjliaaGreatDoor.Rows.laid_dunnage_ops_many)]
theorem shape_cells2 {W : World} {b : Nat} {vs : List Value} (h : ∀ i : Nat, W.cell? ⟨b, i, none⟩ = vs[i]?) (h0 : 0 < vs.length) : ∃ t, W.shape? b = some (t, vs.length) := by
  have h1 := h 0
  rw [List.getElem?_eq_getElem h0] at h1
  unfold World.cell? at h1
  split at h1
  · rename_i C t f hc
    have hs : C.toList = vs := List.ext_getElem? (fun i => by
      have := h i
      simp only [World.cell?,hc] at this
      rw [← this]; simp)
    refine ⟨t, ?_⟩
    simp only [World.shape?,hc]
    rw [← hs]; simp
  · cases h1
end Dv
