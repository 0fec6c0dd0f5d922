/- plan.Run: the copy, as data. -/
import Derived.Test.YtcanhhnmfkdclaaGreatDoorU3
import Derived.Test.YtcanhhnmfkdclaaGreatDoorD7
set_option linter.unusedVariables false
set_option linter.unusedSimpArgs false
namespace Dv
open Go Go.Proofs
variable {G : Nat → Option (List DV)}
theorem copyD_tri (s : StateD) (hn : s.nodes.length ≤ 1000) (hj : s.jobs.length ≤ 1000) : Tri Tryz.prog G 29 [stateV s] [] (stateV s) [] := by
  refine tri_W Tryz.func29 (by decide) irOk29 (Nat.le_of_ble_eq_true rfl) ?_
  simp only [ir29,go_sem,simprocAttr]
  refine WD_calln (cloneN_tri s.nodes hn) rfl rfl rfl ?_
  simp only [go_sem,simprocAttr]
  refine WD_calln (cloneJ_tri s.jobs hj) rfl rfl rfl ?_
  simp only [go_sem,simprocAttr]
  refine W_opsD_end rfl ?_
  simp only [go_sem,simprocAttr]
  exact BackZ [2, 3] rfl (by simp [St.obj,objL]) (by simp [St.obj,objL,oneOr,St.get,getE,argR,argRs,rowsAt,LV.int,List.take_of_length_le])
theorem Tri.stat1 {P : Program} {G : Nat → Option (List DV)} {f : Nat} {args : List LV} {t : StateD} (h : Tri P G f args [] (stateV t) []) {J : Nat → Prop} {ι : Nat → Nat → Option Nat} {w : World} {vs : Array Value} (S : Store G J w ι (objL [])) (hR : RepL J w ι args vs.toList) :
    Calls P f vs w fun e w' => ∃ (ys : List Value) (J' : Nat → Prop), e = .returned (.agg ⟨ys⟩) ∧ RowKit.Below w.heap.size w w' ∧ StRep G J' w' ι t ys ∧ (∀ k, J k → J' k) ∧ (∀ k, J' k → J k ∨ w.heap.size ≤ k) := by
  refine (h.2 J ι w vs S hR).mono fun e w' hh => ?_
  obtain ⟨v, he, J', ι', S', hr, hE⟩ := hh
  have hB : RowKit.Below w.heap.size w w' := ⟨hE.ev.os, hE.ev.tape, hE.ev.output, hE.ev.size, fun k hk => hE.ev.same k hk (by rintro ⟨o, hb⟩; simp [objL,OSt.own] at hb)⟩
  obtain ⟨ys, rfl, hy, ho⟩ := rep_sDs hr
  refine ⟨ys, J', he, hB, ⟨S'.any S, hy, ho⟩, hE.ev.jmono, fun k hk => ?_⟩
  rcases hE.ev.jnew k hk with h | h | ⟨o, hb⟩
  · exact .inl h
  · exact .inr h
  · simp [objL,OSt.own] at hb
end Dv
