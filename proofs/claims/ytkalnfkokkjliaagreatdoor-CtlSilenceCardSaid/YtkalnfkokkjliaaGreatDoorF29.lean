/- CtlSilence: for every input it returns true, and its arguments read behind the call as they did ahead of it. Conditions: the listed tables hold what the program's text lays there (tied by the card). -/
import Derived.Test.YtkalnfkokkjliaaGreatDoorC20
import Derived.Test.YtkalnfkokkjliaaGreatDoorE9
import Derived.OpenShut
import Derived.Stop.Joined
import Derived.SevenTiedAt
import Derived.Test.YtkalnfkokkjliaaGreatDoorRows
import Derived.Test.YtkalnfkokkjliaaGreatDoorTie
import Derived.Test.YtkalnfkokkjliaaGreatDoorCards
set_option linter.unusedVariables false
set_option linter.unusedSimpArgs false
namespace Go.Proofs.YtkalnfkokkjliaaGreatDoor
open Go.ChangeShapes Go.WideShapes Go.ChangeAt Go.RowKit Dv

theorem own : ownKnob Tryz.prog.godebug = none := by kernel_rfl
theorem laidOut : laidOutB Tryz.prog = true := by kernel_rfl

theorem params_fit {P : Program} {ts : List TypeId} (h : (ts.all fun t => P.readableRec t && decide (t < P.types.size)) = true) : ∀ t ∈ ts, P.readableRec t = true ∧ t < P.types.size := fun t ht => by
  have := List.all_eq_true.1 h t ht
  simpa using this

theorem u8_bound {x : Int} (h : (Lit.int .u8 x).wf = true) : 0 ≤ x ∧ x ≤ 255 := by
  simp only [Lit.wf,Bool.and_eq_true,decide_eq_true_eq] at h
  exact h
set_option maxRecDepth 100000 in
theorem ctlSilence_lifted (os : Os) (started : os.Started) (H : Type) (enc : TypeId × Value → H) :
    ReturnsInHanded {} Tryz.checked os 8 .any (fun w args => (Rows.ctlSilenceSpec.pre enc Tryz.prog Tryz.f8 [] false w args ∧ laidMetH Tryz.prog tabs w) ∧ sizedMet enc Tryz.prog Tryz.f8 (OpenSpec.ofChange Rows.ctlSilenceSpec) false w args) (Rows.ctlSilenceSpec.post enc Tryz.prog Tryz.f8 false true false false) := by
  refine returnsInHanded_of_change_and (C := Tryz.checked) (X := fun w _ => laidMetH Tryz.prog tabs w) (fun _ _ _ hh h => h.of_heap hh) own started (by kernel_rfl) Tryz.func8
    (ChangeSpec.witness_shaped (enc := enc) (C := Tryz.checked) (os := os) (X := fun w _ => laidMetH Tryz.prog tabs w) false (World.laidAll Tryz.prog os tabs) #[.agg #[.int .i64 0, .int .i64 0, .int .i64 0, .int .i64 0, .int .i64 0, .int .i64 0, .int .i64 0, .int .i64 0, .int .i64 0], .int .u8 0] 8 (World.laidAll_os _ _ _) (World.shaped_of_ZipB (by kernel_rfl) (by kernel_rfl)) (by kernel_rfl) (by kernel_rfl) (by kernel_rfl) (tabs_laid os _)) ?_
  intro W base args ds gs before hval0 hW _ _ hL _
  have hval : ∀ (j : Nat) t v, Tryz.f8.params[j]? = some t → args[j]? = some v → Value.okWide Tryz.prog W .any base t v := hval0
  have hW' := hW
  obtain ⟨p, q, hA0, hV, rfl, hfz, hnd⟩ := hW
  have hA : DataW.TrodAll enc Tryz.prog W 0 (fun _ => true) true Tryz.f8.params.toList args.toList ds p := hA0
  have hAk := hA
  rw [Tryz.params8] at hA hval
  obtain ⟨v0, v1, d0, d1, p0, p1, rfl, rfl, rfl, h0, h1⟩ := trodAll_two hA
  obtain ⟨rfl, rfl⟩ := trodVars_none hV
  obtain ⟨x0, r0⟩ := conf_open (hval 0 _ v0 rfl rfl) h0
  obtain ⟨x1, rfl, rfl, rfl, w1⟩ := open_int Tryz.underlying5 (hval 1 _ v1 rfl rfl) h1
  clear hA0 hval0
  simp only [List.append_nil] at hW'
  refine ((ctlSilence_tri x0 x1 (u8_bound w1)).2 (J0 W) ι0 W #[v0, .int .u8 x1] (Store.tabs hL) ⟨r0, rfl, trivial⟩).mono fun e W' hr => ?_
  obtain ⟨v, he, hafter⟩ := hr
  have hb := hafter.below
  have hv : v = .bool true := by
    obtain ⟨J, ι, S, R, E⟩ := hafter
    exact R
  subst hv
  refine ⟨_, he, _, _, _, [], _, [], hW', trodAll_mk1 (shut_bool Tryz.underlying4 _), args_stay laidOut hb (params_fit (by kernel_rfl)) hAk (fun x hx => by simpa using hW'.lt x (by simpa using hx)), rfl, hb.frame _, fun h => by cases h⟩

theorem k1 : (Rows.ctlSilenceRow.inPlace == Tryz.prog.inPlace 8) = true := by kernel_rfl
theorem k2 : (Rows.ctlSilenceRow.unfollowed == Tryz.prog.unfollowed 8) = true := by kernel_rfl
theorem k3 : (Rows.ctlSilenceRow.recurses == Tryz.prog.recurses 8) = true := by kernel_rfl
theorem k4 : (Rows.ctlSilenceRow.named == Tryz.prog.varsNamed 8) = true := by kernel_rfl
theorem k5 : joinedFacts Tryz.prog 8 Tryz.f8 Rows.ctlSilenceSpec Rows.ctlSilenceRow = true := by
  unfold joinedFacts
  rw [k1, k2, k3, k4]
  kernel_rfl
theorem k6 : Rows.ctlSilenceRow.wfByText (.ofChange Rows.ctlSilenceSpec) = true := by kernel_rfl
theorem k7 : true = Tryz.prog.looks [] := by kernel_rfl
theorem k8 : false = Rows.ctlSilenceRow.goesBy Tryz.prog := by kernel_rfl

theorem ctlSilence_said : Rows.CtlSilenceSaid :=
  OpenClaim.holds_of_wide 8 Tryz.f8 rfl rfl rfl rfl rfl rfl rfl ⟨rfl, rfl, rfl, rfl, rfl⟩ rfl rfl rfl rfl rfl (by kernel_rfl) Tryz.func8 k5
    (of_decide_eq_true (by kernel_rfl)) (by unfold Func.isWrapper; first | (rw [if_pos (by decide +kernel)]; kernel_rfl) | (rw [if_neg (by decide +kernel)]; exact ⟨rfl, rfl⟩))
    (fun os started H enc _ => ctlSilence_lifted os started H enc)

/-- the card: the row, its tables tied to the program's text. -/
theorem ctlSilence_card : Rows.CtlSilenceCardSaid :=
  Claim7.holds_tied_plain_at .later [] [.data, .data, .data, .data] true _ true
    ctlSilence_said (fun _ h => by cases h) k6 (fun _ h => by cases h) ctlSilence_row_tie rfl ⟨rfl, rfl⟩ (by kernel_rfl) rfl
    (fun f fn hf hfn => by
      obtain rfl : f = 8 := Option.some.inj ((show Tryz.prog.funcNamed "dunnage/dunnagelaw21.CtlSilence" = some 8 by kernel_rfl).symm.trans hf) |>.symm
      obtain rfl : fn = Tryz.f8 := (Option.some.inj (Tryz.func8.symm.trans hfn)).symm
      exact ⟨k7, fun j t ht => by
        rw [Tryz.params8] at ht
        have hm : t ∈ [23, 5] := by simpa using Array.mem_of_getElem? ht
        have hall : ([23, 5].all fun u => !Tryz.prog.wantsStandIn u) = true := by kernel_rfl
        exact (show Tryz.prog.wantsStandIn t = false by simpa using List.all_eq_true.1 hall t hm)⟩)
    k8
#print axioms ctlSilence_card
end Go.Proofs.YtkalnfkokkjliaaGreatDoor
