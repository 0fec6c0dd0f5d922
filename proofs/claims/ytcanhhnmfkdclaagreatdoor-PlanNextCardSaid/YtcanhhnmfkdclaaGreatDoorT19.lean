/- The document's plan: what is next. -/
import Derived.Test.YtcanhhnmfkdclaaGreatDoorT18
set_option linter.unusedVariables false
set_option linter.unusedSimpArgs false
namespace Dv
open Go Go.Proofs
variable {G : Nat → Option (List DV)}
set_option maxHeartbeats 4000000 in
theorem plan18_tri (c : ConfD) (s : StateD) (h : RightP c s) (now : Int) (h0 : TimeR now) : Tri Tryz.prog G 11 [confV c, stateV s, .int now] [] (optV (planO c s now)) [] := by
  refine tri_W0 Tryz.func11 (by decide) irOk11 (Nat.le_of_ble_eq_true rfl) rfl ?_
  simp only [ir11,go_sem,simprocAttr]
  have hd := time_dead h.conf h0
  unfold planO evictO
  refine W_calld (late18_tri s now (by have := h.jobs; omega)) rfl rfl rfl rfl ?_; simp only [go_sem,simprocAttr]
  cases lateN s now with
  | cons k l =>
    simp only [natR,List.map_cons,List.length_cons,List.length_map,decide_eq_true (show ((l.length + 1 : Nat) : Int) > 0 by omega),List.getElem?_cons_zero,optV,Option.getD_some,Option.isSome_some,go_sem,simprocAttr]
  | nil =>
    simp only [natR,List.map_nil,List.length_nil,Int.natCast_zero,show decide ((0 : Int) > 0) = false from rfl,go_sem,simprocAttr]
    refine W_calld (next17_tri s h now hd) rfl rfl rfl rfl ?_; simp only [go_sem,simprocAttr]
    generalize nextW c s now = o
    cases o with
    | some o =>
      obtain ⟨o1, o2, o3, o4, o5, o6, o7⟩ := o
      simp only [optV,Option.getD_some,Option.isSome_some,go_sem,simprocAttr]
    | none =>
      simp only [optV,Option.getD_none,Option.isSome_none,zeroOp,go_sem,simprocAttr]
      refine W_calld (next16_tri s h.fits now h0) rfl rfl rfl rfl ?_; simp only [go_sem,simprocAttr]
      rw [← next_same h h0.1]
      unfold holdO
      generalize anextS s now = r
      obtain ⟨job, n, ok⟩ := r
      cases ok with
      | true => simp only [if_true,Option.getD_some,Option.isSome_some,go_sem,simprocAttr]
      | false => simp only [Bool.false_eq_true,if_false,Option.getD_none,Option.isSome_none,zeroOp,go_sem,simprocAttr]
end Dv
