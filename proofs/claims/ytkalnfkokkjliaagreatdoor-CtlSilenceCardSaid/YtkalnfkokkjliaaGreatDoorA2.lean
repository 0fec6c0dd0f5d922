/- The document's example of layer 26, reckoned by the kernel: alive. -/
import Derived.Test.YtkalnfkokkjliaaGreatDoorA1
import Derived.Test.YtkalnfkokkjliaaGreatDoorG1
import Derived.Test.YtkalnfkokkjliaaGreatDoorVD
set_option linter.unusedVariables false
set_option linter.unusedSimpArgs false
namespace Dv
open Go Go.Proofs
theorem known_tri {l : List Known} (h : ∀ k ∈ l, Tri Tryz.prog tabF k.f k.a k.o k.r k.b) : ∀ f (md : Bool) args objs r objs', knownIn l f args objs = some (r, objs') → Tri Tryz.prog tabF f args objs r objs' := by
  intro f md args objs r objs'
  induction l with
  | nil =>
    intro hk
    unfold knownIn at hk
    split at hk
    · rename_i hf
      split at hk
      · rename_i n
        split at hk
        · rename_i hc
          cases hk
          subst hf
          obtain ⟨h1, h2, h3⟩ := hc
          rw [List.isEmpty_iff.1 h3]
          have := grow_tri (G := tabF) n.toNat (by omega)
          rw [show ((n.toNat : Nat) : Int) = n by omega] at this
          exact this
        · cases hk
      · cases hk
    · cases hk
  | cons k l ih =>
    intro hk
    unfold knownIn at hk
    split at hk
    · rename_i hf
      split at hk
      · rename_i hc
        rw [Bool.and_eq_true] at hc
        cases hk
        rw [Nat.eq_of_beq_eq_true hf, sameLs_eq _ _ hc.1, sameObs_eq hc.2]
        exact h k (by simp)
      · exact ih (fun k hk => h k (by simp [hk])) hk
    · exact ih (fun k hk => h k (by simp [hk])) hk
theorem tabT_hand {ir : Nat → Option (Nat × C × List RV)} {l : List Known} {f : Nat} {md : Bool} : (tabT ir l).hand f md = knownIn l f := by simp only [tabT]
theorem tabT_ir {ir : Nat → Option (Nat × C × List RV)} {l : List Known} {f : Nat} : (tabT ir l).ir f = ir f := by simp only [tabT]
theorem run_tri {l : List Known} (h : ∀ k ∈ l, Tri Tryz.prog tabF k.f k.a k.o k.r k.b) {L d : Nat} {md : Bool} {f : Nat} {args : List LV} {objs : List LObj} {r : LV} {objs' : List LObj} (hr : runF tabF (tabT (irsOf Tryz.prog) l) L d md f args objs = some (r, objs')) : Tri Tryz.prog tabF f args objs r objs' :=
  runF_sound (T := tabT (irsOf Tryz.prog) l) (fun f md args objs r objs' hk => known_tri h f md args objs r objs' (tabT_hand ▸ hk)) (fun f ir hi => by rw [tabT_ir] at hi; exact irsOf_ok f ir hi) L d md f args objs r objs' hr
theorem kBoot_tri : Tri Tryz.prog tabF kBoot.f kBoot.a kBoot.o kBoot.r kBoot.b := run_tri (l := []) (fun _ h => by cases h) runBoot
end Dv
