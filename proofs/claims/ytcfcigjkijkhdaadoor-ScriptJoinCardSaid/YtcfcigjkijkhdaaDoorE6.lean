/- The ops' tables (seven are laid), opened out of the condition on memory and the world's shape; ops and strings as arguments. -/
import Derived.Test.YtcfcigjkijkhdaaDoorO13
import Derived.Test.YtcfcigjkijkhdaaDoorE1
import Derived.LaidMore
import Derived.Lib.LaidU8
import Derived.ChangeMaps5
import Derived.Shelf.Vars
import Derived.HandedShaped
import Derived.Lay
import Derived.OpenShut
import Derived.LaidHandle
import Derived.MakeChecks
import Derived.Test.YtcfcigjkijkhdaaDoorRows
set_option linter.unusedVariables false
set_option linter.unusedSimpArgs false
namespace Dv
open Go Go.Proofs
open Go.ChangeShapes Go.WideShapes Go.RowKit Go.Deep Go.WideElems

section
variable {H : Type} {enc : TypeId × Value → H} {P : Program} {w : World} {base : Nat} {spare : Nat → Bool} {held : Bool}
theorem array_open {n fuel : Nat} {t e : TypeId} {cs : List Value} {p : List MemPlace} (ht : P.underlying t = some (.array n e)) (hc : P.cellsOf e = 1) (hct : P.cellsOf t = n) {vals : List Value} {ds : List (DataW H)} (hlen : vals.length = n)
    (hel : ∀ (m i : Nat) (cs' : List Value) (x : DataW H × List MemPlace), DataW.trod enc P w base spare held m e cs' = some x → ds[i]? = some x.1 → ∃ v, vals[i]? = some v ∧ cs' = [v])
    (h : DataW.trod enc P w base spare held fuel t cs = some (.agg ds, p)) : cs = vals := by
  obtain ⟨xs, m, rfl, hx, hl, hn, he⟩ := DataW.trod_array ht h
  simp only [Prod.mk.injEq, DataW.agg.injEq] at hx
  obtain ⟨rfl, _⟩ := hx
  apply List.ext_getElem?
  intro i
  by_cases hi : i < n
  · have h1 := he i hi
    rw [hc, Nat.mul_one] at h1
    have hxi : xs[i]? = some xs[i] := List.getElem?_eq_getElem (by omega)
    rw [hxi] at h1
    obtain ⟨v, hv, hcs⟩ := hel m i _ _ h1 (by rw [List.getElem?_map, hxi]; rfl)
    rw [hv]
    have : ((cs.drop i).take 1)[0]? = some v := by rw [hcs]; rfl
    rw [List.getElem?_take_of_lt (by omega), List.getElem?_drop] at this
    simpa using this
  · rw [List.getElem?_eq_none (by omega), List.getElem?_eq_none (by omega)]
end

def manyVals : List Value := manyL.map (.int .i64)
def namesVals : List Value := namesL.map .string
theorem many_data : (Go.Proofs.YtcfcigjkijkhdaaDoor.Rows.laid_dunnage_ops_many : DataW Unit) = .agg (manyL.map fun n => .lit (.int .i64 n)) := by rfl
theorem names_data : (Go.Proofs.YtcfcigjkijkhdaaDoor.Rows.laid_dunnage_ops_names : DataW Unit) = .agg (namesL.map fun s => .lit (.string s.data.toList)) := by rfl
set_option maxRecDepth 100000 in
theorem many_cells {W : World} {fuel : Nat} {cs : List Value} {p : List MemPlace} (h : DataW.trod (fun _ => ()) Tryd.prog W 0 (fun _ => true) false fuel 75 cs = some (Go.Proofs.YtcfcigjkijkhdaaDoor.Rows.laid_dunnage_ops_many, p)) : cs = manyVals := by
  rw [many_data] at h
  refine array_open Tryd.underlying75 (by kernel_rfl) (by kernel_rfl) rfl (fun m i cs' x hx hi => ?_) h
  obtain ⟨k, e1, e2, _⟩ := DataW.trod_int Tryd.underlying3 hx
  rw [List.getElem?_map, e2] at hi
  obtain ⟨a, ha, hb⟩ := Option.map_eq_some_iff.1 hi
  cases hb
  exact ⟨_, by rw [manyVals, List.getElem?_map, ha]; rfl, e1⟩
set_option maxRecDepth 100000 in
theorem names_cells {W : World} {fuel : Nat} {cs : List Value} {p : List MemPlace} (h : DataW.trod (fun _ => ()) Tryd.prog W 0 (fun _ => true) false fuel 81 cs = some (Go.Proofs.YtcfcigjkijkhdaaDoor.Rows.laid_dunnage_ops_names, p)) : cs = namesVals := by
  rw [names_data] at h
  refine array_open Tryd.underlying81 (by kernel_rfl) (by kernel_rfl) rfl (fun m i cs' x hx hi => ?_) h
  obtain ⟨s, e1, e2, _⟩ := DataW.trod_string Tryd.underlying9 hx
  rw [List.getElem?_map, e2] at hi
  obtain ⟨a, ha, hb⟩ := Option.map_eq_some_iff.1 hi
  simp only [DataW.lit.injEq, Lit.string.injEq] at hb
  have : a = s := by
    obtain ⟨a⟩ := a
    obtain ⟨s⟩ := s
    have : a = s := Array.toList_inj.1 hb
    rw [this]
  subst this
  exact ⟨_, by rw [namesVals, List.getElem?_map, ha]; rfl, e1⟩

@[reducible] def tables : List (String × DataW Unit) := [("math/bits.deBruijn32tab", Go.Proofs.YtcfcigjkijkhdaaDoor.Rows.laid_math_bits_deBruijn32tab), ("math/bits.deBruijn64tab", Go.Proofs.YtcfcigjkijkhdaaDoor.Rows.laid_math_bits_deBruijn64tab), ("internal/strconv.uint64pow10", Go.Proofs.YtcfcigjkijkhdaaDoor.Rows.laid_internal_strconv_uint64pow10), ("unicode/utf8.acceptRanges", Go.Proofs.YtcfcigjkijkhdaaDoor.Rows.laid_unicode_utf8_acceptRanges), ("dunnage/ops.names", Go.Proofs.YtcfcigjkijkhdaaDoor.Rows.laid_dunnage_ops_names), ("dunnage/ops.many", Go.Proofs.YtcfcigjkijkhdaaDoor.Rows.laid_dunnage_ops_many), ("unicode/utf8.first", Go.Proofs.YtcfcigjkijkhdaaDoor.Rows.laid_unicode_utf8_first)]
theorem gMany : Tryd.prog.globalNamed "dunnage/ops.many" = some 0 := by kernel_rfl
theorem gNames : Tryd.prog.globalNamed "dunnage/ops.names" = some 1 := by kernel_rfl
theorem tMany : (Tryd.prog.globals[0]?).map (·.type) = some 75 := by kernel_rfl
theorem tNames : (Tryd.prog.globals[1]?).map (·.type) = some 81 := by kernel_rfl
theorem tPow : (Tryd.prog.globals[3]?).map (·.type) = some 99 := by kernel_rfl
theorem pow_data : (Go.Proofs.YtcfcigjkijkhdaaDoor.Rows.laid_internal_strconv_uint64pow10 : DataW Unit) = Lib.tabData .u64 Lib.pow10Tab := by rfl
theorem tables_met {W : World} (h : laidMetH Tryd.prog tables W) : laidMet Tryd.prog tables W := by
  rw [MakeChecks.laidMetH_plain _ _ _ (by kernel_rfl)] at h
  exact h
theorem many_read {W : World} (h : laidMet Tryd.prog tables W) : ∀ i : Nat, W.cell? ⟨0, i, none⟩ = manyVals[i]? := by
  obtain ⟨g1, t1, cs1, f1, p1, hg1, ht1, hv1, hd1⟩ := Lib.laidMet.reads h (n := "dunnage/ops.many") (d := Go.Proofs.YtcfcigjkijkhdaaDoor.Rows.laid_dunnage_ops_many) (.tail _ (.tail _ (.tail _ (.tail _ (.tail _ (.head _))))))
  obtain rfl := Option.some.inj (gMany.symm.trans hg1)
  obtain rfl := Option.some.inj (tMany.symm.trans ht1)
  intro i
  rw [World.var?_cell hg1 hv1 i, ← many_cells hd1]; simp
theorem names_read {W : World} (h : laidMet Tryd.prog tables W) : ∀ i : Nat, W.cell? ⟨1, i, none⟩ = namesVals[i]? := by
  obtain ⟨g0, t0, cs0, f0, p0, hg0, ht0, hv0, hd0⟩ := Lib.laidMet.reads h (n := "dunnage/ops.names") (d := Go.Proofs.YtcfcigjkijkhdaaDoor.Rows.laid_dunnage_ops_names) (.tail _ (.tail _ (.tail _ (.tail _ (.head _)))))
  obtain rfl := Option.some.inj (gNames.symm.trans hg0)
  obtain rfl := Option.some.inj (tNames.symm.trans ht0)
  intro i
  rw [World.var?_cell hg0 hv0 i, ← names_cells hd0]; simp
def powVals : List Value := Lib.pow10Tab.map (Value.int .u64)
theorem pow_read {W : World} (h : laidMet Tryd.prog tables W) : ∀ i : Nat, W.cell? ⟨3, i, none⟩ = powVals[i]? := by
  obtain ⟨g0, t0, cs0, f0, p0, hg0, ht0, hv0, hd0⟩ := Lib.laidMet.reads h (n := "internal/strconv.uint64pow10") (d := Go.Proofs.YtcfcigjkijkhdaaDoor.Rows.laid_internal_strconv_uint64pow10) (.tail _ (.tail _ (.head _)))
  obtain rfl := Option.some.inj (gPow.symm.trans hg0)
  obtain rfl := Option.some.inj (tPow.symm.trans ht0)
  rw [pow_data] at hd0
  intro i
  rw [World.var?_cell hg0 hv0 i]
  have := Lib.cells_of_tab Tryd.underlying99 Tryd.underlying89 (by kernel_rfl) (by kernel_rfl) hd0
  rw [show powVals = cs0.toList from this.symm]; simp
/-- the library's own variable holds some number. -/
theorem max_read {W : World} (h : W.ShapedOpen Tryd.prog) : ∃ m : Int, W.cell? ⟨2, 0, none⟩ = some (.int .i64 m) ∧ ∃ t, W.shape? 2 = some (t, 1) := by
  have h0 : ((begin Tryd.prog (fun _ _ => 0) default).world.heap[2]?).bind Obj.row? = some (#[.int .i64 0], 3) := by kernel_rfl
  have hg : 2 < Tryd.prog.globals.size := of_decide_eq_true (by kernel_rfl)
  obtain ⟨m, hm⟩ := Go.Proofs.cell_of_shapedOpen_int (zero := #[.int .i64 0]) (k := .i64) h hg h0 rfl (by kernel_rfl) (by kernel_rfl) Tryd.underlying3
  obtain ⟨cs, hh, hs, _⟩ := h.1 _ _ _ hg h0
  refine ⟨m, hm, 3, ?_⟩
  simp only [World.shape?, hh]
  rw [hs]; rfl
theorem shape_cells2 {W : World} {b : Nat} {vs : List Value} (h : ∀ i : Nat, W.cell? ⟨b, i, none⟩ = vs[i]?) (h0 : 0 < vs.length) : ∃ t, W.shape? b = some (t, vs.length) := by
  have h1 := h 0
  rw [List.getElem?_eq_getElem h0] at h1
  unfold World.cell? at h1
  split at h1
  · rename_i C t f hc
    have hs : C.toList = vs := List.ext_getElem? (fun i => by
      have := h i
      simp only [World.cell?, hc] at this
      rw [← this]; simp)
    refine ⟨t, ?_⟩
    simp only [World.shape?, hc]
    rw [← hs]; simp
  · cases h1
/-- the tables that the ops read. -/
def opsG (m : Int) : Nat → Option (List DV) := fun n => if n = 3 then some powR else if n = 2 then some [.val (.int .i64 m)] else bookG n
theorem opsG_ok (m : Int) : OG (opsG m) := by
  refine ⟨fun g row h => ?_, rfl, m, rfl⟩
  unfold opsG
  split
  · rename_i e; subst e; cases h
  · split
    · rename_i e; subst e; cases h
    · exact h
theorem glob_vals {W : World} {g : Nat} {vals : List Value} (h : ∀ i : Nat, W.cell? ⟨g, i, none⟩ = vals[i]?) (hf : ∀ v ∈ vals, v.oneCell' = true) (h0 : 0 < vals.length) : J0 W g ∧ RowD (J0 W) W (vals.map DV.val) g 0 ∧ ∃ t, W.shape? g = some (t, (vals.map DV.val).length) := by
  have hc := h 0
  rw [List.getElem?_eq_getElem h0] at hc
  refine ⟨J0.of_cell hc, rowD_of vals 0 hf (fun i v hv => by rw [Nat.zero_add, h i, hv]), ?_⟩
  rw [List.length_map]
  exact shape_cells2 h h0
theorem Store.ops {W : World} (h0 : laidMetH Tryd.prog tables W) (hsh : W.ShapedOpen Tryd.prog) : ∃ m, Store (opsG m) (J0 W) W ι0 (objL []) := by
  have h := tables_met h0
  obtain ⟨m, hm, t, ht⟩ := max_read hsh
  refine ⟨m, ?_⟩
  have S := Store.zero W
  refine ⟨S.rep, S.inj, S.disj, S.jcell, fun g row hg => ?_⟩
  unfold opsG at hg
  split at hg
  · rename_i e; subst e
    cases hg
    have := glob_vals (pow_read h) (fun v hv => by
      simp only [powVals, List.mem_map] at hv
      obtain ⟨n, _, rfl⟩ := hv
      rfl) (by decide)
    rw [show powR = powVals.map DV.val from by unfold powR powVals; rw [List.map_map]; rfl]
    exact this
  · split at hg
    · rename_i e; subst e
      cases hg
      refine ⟨J0.of_cell hm, ⟨⟨_, hm, rfl, rfl⟩, trivial⟩, t, ht⟩
    · unfold bookG at hg
      split at hg
      · rename_i e; subst e
        cases hg
        have := glob_vals (many_read h) (fun v hv => by
          simp only [manyVals, List.mem_map] at hv
          obtain ⟨n, _, rfl⟩ := hv
          rfl) (by decide)
        rw [show manyR = manyVals.map DV.val from by unfold manyR manyVals; rw [List.map_map]; rfl]
        exact this
      · split at hg
        · rename_i e; subst e
          cases hg
          have := glob_vals (names_read h) (fun v hv => by
            simp only [namesVals, List.mem_map] at hv
            obtain ⟨n, _, rfl⟩ := hv
            rfl) (by decide)
          rw [show namesR = namesVals.map DV.val from by unfold namesR namesVals; rw [List.map_map]; rfl]
          exact this
        · cases hg

section
variable {H : Type} {enc : TypeId × Value → H}
/-- the wrap of a row with a condition on memory that hands the world's shape on. -/
theorem handed_and_shaped {a : Assume} {C : Checked} {os : Os} {f : FuncId} {fn : Func} {s : ChangeSpec} {conds : List PathCond} {apart fresh handsOn again : Bool} {X : World → Array Value → Prop}
    (hX : ∀ (w w' : World) (args : Array Value), w.heap = w'.heap → X w args → X w' args)
    (own : ownKnob C.prog.godebug = none) (started : os.Started) (noInit : C.prog.inits.idxOf? f = none) (hfn : C.prog.funcs[f]? = some fn)
    (witness : ∃ (w : World) (tape : Tape) (i : Input), w.os = os ∧ (w.forCall tape i).Shaped C.prog ∧ i.vars = [] ∧ Input.okWide C.prog (w.forCall tape i) .any w.heap.size f i ∧
      ((s.pre enc C.prog fn conds apart (w.forCall tape i).memory i.args ∧ X (w.forCall tape i).memory i.args) ∧ sizedMet enc C.prog fn (OpenSpec.ofChange s) apart (w.forCall tape i).memory i.args) ∧ a.holds C.prog (lone (Frame.enter C.prog f i.args .normal) [] (w.forCall tape i)))
    (contract : ∀ (W : World) (base : Nat) (args : Array Value) (ds gs : List (DataW H)) (before : List MemPlace),
      (∀ (j : Nat) t v, fn.params[j]? = some t → args[j]? = some v → Value.okWide C.prog W .any base t v) →
      DataW.Whole enc C.prog fn.params.toList s.vars apart W args.toList ds gs before → X W args → W.ShapedOpen C.prog →
      Calls C.prog f args W fun e W' => ∃ v, e = .returned v ∧ s.post enc C.prog fn apart fresh handsOn again W args v W') :
    ReturnsInHanded a C os f .any (fun w args => (s.pre enc C.prog fn conds apart w args ∧ X w args) ∧ sizedMet enc C.prog fn (OpenSpec.ofChange s) apart w args) (s.post enc C.prog fn apart fresh handsOn again) := by
  refine returnsInHanded_of_calls own started noInit witness ?_
  intro w tape i _ hsh _ hok hpre _
  obtain ⟨_, _, _, fn', hfn', _, _, _, _, hval⟩ := hok
  obtain rfl : fn' = fn := Option.some.inj (hfn'.symm.trans hfn)
  obtain ⟨⟨⟨ds, gs, before, hw, _⟩, hx⟩, _⟩ := hpre
  refine (contract (w.forCall tape i) w.heap.size i.args ds gs before hval (DataW.Whole.of_heap (w' := w.forCall tape i) (by rfl) hw) (hX _ _ _ (by rfl) hx) hsh).mono fun e W' ⟨v, he, hp⟩ => ?_
  subst he
  exact ChangeSpec.post_blind hp
end

set_option maxRecDepth 100000 in
theorem str_open {H : Type} {enc : TypeId × Value → H} {W : World} {base : Nat} {spare : Nat → Bool} {held : Bool} {r : Reach} {b0 : Nat} {v : Value} {d : DataW H} {p : List MemPlace} (hv : Value.okWide Tryd.prog W r b0 9 v) (h : DataW.Trod enc Tryd.prog W base spare held 9 v d p) : ∃ s : ByteArray, Rep (J0 W) W ι0 (.d (.val (.string s))) v := by
  obtain ⟨s, rfl, _⟩ := Go.ChangeMaps.open_string Tryd.underlying9 hv h
  exact ⟨s, rfl⟩

set_option maxRecDepth 100000 in
/-- A heap in which the seven tables are laid meets the condition. -/
theorem laid_met (os : Os) (args : Array Value) : laidMetH Tryd.prog tables ((World.laidAll Tryd.prog os tables).forCall (fun _ _ => 0) ⟨#[], args, []⟩).memory := by
  rw [MakeChecks.laidMetH_plain _ _ _ (by kernel_rfl)]
  exact laidMet_laidAll _ (by kernel_rfl) (by kernel_rfl)

def opVals (o : OpD) : List Value := [.int .i64 o.kind, .int .i64 o.a, .int .i64 o.b, .int .i64 o.c, .int .i64 o.d, .int .i64 o.e, .int .i64 o.f]
theorem list7 {α : Type} {l : List α} (h : l.length = 7) : ∃ c0 c1 c2 c3 c4 c5 c6, l = [c0, c1, c2, c3, c4, c5, c6] := by
  match l, h with
  | [c0, c1, c2, c3, c4, c5, c6], _ => exact ⟨c0, c1, c2, c3, c4, c5, c6, rfl⟩
theorem op_cells {H : Type} {enc : TypeId × Value → H} {w : World} {base : Nat} {spare : Nat → Bool} {held : Bool} {fuel : Nat} {cs : List Value} {x : DataW H × List MemPlace} (h : DataW.trod enc Tryd.prog w base spare held fuel 23 cs = some x) : ∃ r : OpD, cs = opVals r := by
  obtain ⟨hl, n, hf⟩ := trod_ones Tryd.underlying23 (by kernel_rfl) h
  obtain ⟨c0, c1, c2, c3, c4, c5, c6, rfl⟩ := list7 (hl.trans (by kernel_rfl))
  obtain ⟨z0, rfl⟩ := one_int Tryd.underlying3 (hf 0 _ c0 rfl rfl)
  obtain ⟨z1, rfl⟩ := one_int Tryd.underlying3 (hf 1 _ c1 rfl rfl)
  obtain ⟨z2, rfl⟩ := one_int Tryd.underlying3 (hf 2 _ c2 rfl rfl)
  obtain ⟨z3, rfl⟩ := one_int Tryd.underlying3 (hf 3 _ c3 rfl rfl)
  obtain ⟨z4, rfl⟩ := one_int Tryd.underlying3 (hf 4 _ c4 rfl rfl)
  obtain ⟨z5, rfl⟩ := one_int Tryd.underlying3 (hf 5 _ c5 rfl rfl)
  obtain ⟨z6, rfl⟩ := one_int Tryd.underlying3 (hf 6 _ c6 rfl rfl)
  exact ⟨⟨z0, z1, z2, z3, z4, z5, z6⟩, rfl⟩
set_option maxRecDepth 100000 in
theorem op_open {H : Type} {enc : TypeId × Value → H} {W : World} {r : Reach} {b0 base : Nat} {spare : Nat → Bool} {held : Bool} {v : Value} {d : DataW H} {p : List MemPlace} (hv : Value.okWide Tryd.prog W r b0 23 v) (h : DataW.Trod enc Tryd.prog W base spare held 23 v d p) : ∃ c : OpD, Rep (J0 W) W ι0 (opV c) v := by
  obtain ⟨cs, rfl, _⟩ := okWide_struct Tryd.underlying23 hv
  obtain ⟨fuel, hf⟩ := h
  obtain ⟨c, hc⟩ := op_cells hf
  have : cs.toList = opVals c := by simpa [Value.cells] using hc
  refine ⟨c, cs, rfl, ?_⟩
  rw [this]
  simp [opVals, RepC, Rep, RepD, Value.oneCell', LV.int]
end Dv
