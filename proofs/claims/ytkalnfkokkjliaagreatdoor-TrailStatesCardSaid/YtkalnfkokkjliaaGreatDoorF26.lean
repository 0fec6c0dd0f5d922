/- TrailStates: for every input it returns true, and its arguments read behind the call as they did ahead of it. Conditions: the listed tables hold what the program's text lays there (tied by the card). -/
import Derived.Test.YtkalnfkokkjliaaGreatDoorT23
import Derived.Test.YtkalnfkokkjliaaGreatDoorE8
import Derived.OpenShut
import Derived.Stop.Joined
import Derived.SevenTiedAt
import Derived.Test.YtkalnfkokkjliaaGreatDoorRows
import Derived.Test.YtkalnfkokkjliaaGreatDoorTie
import Derived.Test.YtkalnfkokkjliaaGreatDoorCards
set_option linter.unusedVariables false
set_option linter.unusedSimpArgs false
namespace Go.Proofs.YtkalnfkokkjliaaGreatDoor
open Go.ChangeShapes Go.WideShapes Go.ChangeAt Go.RowKit Dv

theorem own : ownKnob Tryz.prog.godebug = none := by kernel_rfl
theorem laidOut : laidOutB Tryz.prog = true := by kernel_rfl

theorem params_fit {P : Program} {ts : List TypeId} (h : (ts.all fun t => P.readableRec t && decide (t < P.types.size)) = true) : ∀ t ∈ ts, P.readableRec t = true ∧ t < P.types.size := fun t ht => by
  have := List.all_eq_true.1 h t ht
  simpa using this

theorem trodAll_five {H : Type} {enc : TypeId × Value → H} {P : Program} {w : World} {base : Nat} {spare : Nat → Bool} {held : Bool} {t t' t'' t3 t4 : TypeId} {args : Array Value} {ds : List (DataW H)} {ps : List MemPlace} (h : DataW.TrodAll enc P w base spare held [t, t', t'', t3, t4] args.toList ds ps) :
    ∃ v v' v'' v3 v4 d d' d'' d3 d4 p p' p'' p3 p4, args = #[v, v', v'', v3, v4] ∧ ds = [d, d', d'', d3, d4] ∧ ps = p ++ p' ++ p'' ++ p3 ++ p4 ∧ DataW.Trod enc P w base spare held t v d p ∧ DataW.Trod enc P w base spare held t' v' d' p' ∧ DataW.Trod enc P w base spare held t'' v'' d'' p'' ∧ DataW.Trod enc P w base spare held t3 v3 d3 p3 ∧ DataW.Trod enc P w base spare held t4 v4 d4 p4 := by
  obtain ⟨v, vs, d, ds', p, q, hargs, rfl, rfl, hd, hrest⟩ := trodAll_cons h
  obtain ⟨v', vs', d', ds'', p', q', rfl, rfl, rfl, hd', hrest'⟩ := trodAll_cons hrest
  obtain ⟨v'', vs'', d'', ds9, p'', q'', rfl, rfl, rfl, hd'', hrest''⟩ := trodAll_cons hrest'
  obtain ⟨v3, vs3, d3, ds3, p3, q3, rfl, rfl, rfl, hd3, hrest3⟩ := trodAll_cons hrest''
  obtain ⟨v4, vs4, d4, ds4, p4, q4, rfl, rfl, rfl, hd4, hrest4⟩ := trodAll_cons hrest3
  obtain ⟨rfl, rfl, rfl⟩ := trodAll_nil hrest4
  exact ⟨v, v', v'', v3, v4, d, d', d'', d3, d4, p, p', p'', p3, p4, by cases args; simp_all, rfl, by simp, hd, hd', hd'', hd3, hd4⟩

set_option maxRecDepth 100000 in
theorem trailStates_lifted (os : Os) (started : os.Started) (H : Type) (enc : TypeId × Value → H) :
    ReturnsInHanded {} Tryz.checked os 3 .any (fun w args => (Rows.trailStatesSpec.pre enc Tryz.prog Tryz.f3 [] false w args ∧ laidMetH Tryz.prog tabs w) ∧ sizedMet enc Tryz.prog Tryz.f3 (OpenSpec.ofChange Rows.trailStatesSpec) false w args) (Rows.trailStatesSpec.post enc Tryz.prog Tryz.f3 false true false false) := by
  refine returnsInHanded_of_change_and (C := Tryz.checked) (X := fun w _ => laidMetH Tryz.prog tabs w) (fun _ _ _ hh h => h.of_heap hh) own started (by kernel_rfl) Tryz.func3
    (ChangeSpec.witness_shaped (enc := enc) (C := Tryz.checked) (os := os) (X := fun w _ => laidMetH Tryz.prog tabs w) false (World.laidAll Tryz.prog os tabs) #[.agg #[.int .i64 0, .int .i64 0, .int .i64 0, .int .i64 0, .int .i64 0, .int .i64 0, .int .i64 0, .int .i64 0, .int .i64 0], .slice none 0 0, .int .i64 0, .int .i64 0, .int .i64 0] 8 (World.laidAll_os _ _ _) (World.shaped_of_ZipB (by kernel_rfl) (by kernel_rfl)) (by kernel_rfl) (by kernel_rfl) (by kernel_rfl) (tabs_laid os _)) ?_
  intro W base args ds gs before hval0 hW _ _ hL _
  have hval : ∀ (j : Nat) t v, Tryz.f3.params[j]? = some t → args[j]? = some v → Value.okWide Tryz.prog W .any base t v := hval0
  have hW' := hW
  obtain ⟨p, q, hA0, hV, rfl, hfz, hnd⟩ := hW
  have hA : DataW.TrodAll enc Tryz.prog W 0 (fun _ => true) true Tryz.f3.params.toList args.toList ds p := hA0
  have hAk := hA
  rw [Tryz.params3] at hA hval
  obtain ⟨v0, v1, v2, v3, v4, d0, d1, d2, d3, d4, p0, p1, p2, p3, p4, rfl, rfl, rfl, h0, h1, h2, h3, h4⟩ := trodAll_five hA
  obtain ⟨rfl, rfl⟩ := trodVars_none hV
  obtain ⟨x0, r0⟩ := conf_open (hval 0 _ v0 rfl rfl) h0
  obtain ⟨x1, r1⟩ := ops_open (hval 1 _ v1 rfl rfl) h1
  obtain ⟨x2, rfl, rfl, rfl, w2⟩ := open_int Tryz.underlying3 (hval 2 _ v2 rfl rfl) h2
  obtain ⟨x3, rfl, rfl, rfl, w3⟩ := open_int Tryz.underlying3 (hval 3 _ v3 rfl rfl) h3
  obtain ⟨x4, rfl, rfl, rfl, w4⟩ := open_int Tryz.underlying3 (hval 4 _ v4 rfl rfl) h4
  clear hA0 hval0
  simp only [List.append_nil] at hW'
  refine ((trailStates_tri x0 x1 x2 x3 x4).2 (J0 W) ι0 W #[v0, v1, .int .i64 x2, .int .i64 x3, .int .i64 x4] (Store.tabs hL) ⟨r0, r1, rfl, rfl, rfl, trivial⟩).mono fun e W' hr => ?_
  obtain ⟨v, he, hafter⟩ := hr
  have hb := hafter.below
  have hv : v = .bool true := by
    obtain ⟨J, ι, S, R, E⟩ := hafter
    exact R
  subst hv
  refine ⟨_, he, _, _, _, [], _, [], hW', trodAll_mk1 (shut_bool Tryz.underlying4 _), args_stay laidOut hb (params_fit (by kernel_rfl)) hAk (fun x hx => by simpa using hW'.lt x (by simpa using hx)), rfl, hb.frame _, fun h => by cases h⟩

theorem k1 : (Rows.trailStatesRow.inPlace == Tryz.prog.inPlace 3) = true := by kernel_rfl
theorem k2 : (Rows.trailStatesRow.unfollowed == Tryz.prog.unfollowed 3) = true := by kernel_rfl
theorem k3 : (Rows.trailStatesRow.recurses == Tryz.prog.recurses 3) = true := by kernel_rfl
theorem k4 : (Rows.trailStatesRow.named == Tryz.prog.varsNamed 3) = true := by kernel_rfl
theorem k5 : joinedFacts Tryz.prog 3 Tryz.f3 Rows.trailStatesSpec Rows.trailStatesRow = true := by
  unfold joinedFacts
  rw [k1, k2, k3, k4]
  kernel_rfl
theorem k6 : Rows.trailStatesRow.wfByText (.ofChange Rows.trailStatesSpec) = true := by kernel_rfl
theorem k7 : true = Tryz.prog.looks [] := by kernel_rfl
theorem k8 : false = Rows.trailStatesRow.goesBy Tryz.prog := by kernel_rfl

theorem trailStates_said : Rows.TrailStatesSaid :=
  OpenClaim.holds_of_wide 3 Tryz.f3 rfl rfl rfl rfl rfl rfl rfl ⟨rfl, rfl, rfl, rfl, rfl⟩ rfl rfl rfl rfl rfl (by kernel_rfl) Tryz.func3 k5
    (of_decide_eq_true (by kernel_rfl)) (by unfold Func.isWrapper; first | (rw [if_pos (by decide +kernel)]; kernel_rfl) | (rw [if_neg (by decide +kernel)]; exact ⟨rfl, rfl⟩))
    (fun os started H enc _ => trailStates_lifted os started H enc)

/-- the card: the row, its tables tied to the program's text. -/
theorem trailStates_card : Rows.TrailStatesCardSaid :=
  Claim7.holds_tied_plain_at .later [] [.data, .data, .data, .data, .data] true _ true
    trailStates_said (fun _ h => by cases h) k6 (fun _ h => by cases h) trailStates_row_tie rfl ⟨rfl, rfl⟩ (by kernel_rfl) rfl
    (fun f fn hf hfn => by
      obtain rfl : f = 3 := Option.some.inj ((show Tryz.prog.funcNamed "dunnage/dunnagelaw26.TrailStates" = some 3 by kernel_rfl).symm.trans hf) |>.symm
      obtain rfl : fn = Tryz.f3 := (Option.some.inj (Tryz.func3.symm.trans hfn)).symm
      exact ⟨k7, fun j t ht => by
        rw [Tryz.params3] at ht
        have hm : t ∈ [23, 24, 3, 3, 3] := by simpa using Array.mem_of_getElem? ht
        have hall : ([23, 24, 3, 3, 3].all fun u => !Tryz.prog.wantsStandIn u) = true := by kernel_rfl
        exact (show Tryz.prog.wantsStandIn t = false by simpa using List.all_eq_true.1 hall t hm)⟩)
    k8
#print axioms trailStates_card
end Go.Proofs.YtkalnfkokkjliaaGreatDoor
