/- The document's example of layer 26, reckoned by the kernel: alive. -/
import Derived.Test.YtkalnfkokkjliaaGreatDoorA1
import Derived.Test.YtkalnfkokkjliaaGreatDoorG1
import Derived.Test.YtkalnfkokkjliaaGreatDoorVD
set_option linter.unusedVariables false
set_option linter.unusedSimpArgs false
namespace Dv
open Go Go.Proofs
theorem known_tri {l : List Known} (h : ∀ k ∈ l, Tri Tryz.prog tabG k.f k.a k.o k.r k.b) : ∀ f (md : Bool) args objs r objs', knownIn l f args objs = some (r, objs') → Tri Tryz.prog tabG f args objs r objs' := by
  intro f md args objs r objs'
  induction l with
  | nil =>
    intro hk
    unfold knownIn at hk
    split at hk
    · rename_i hf
      split at hk
      · rename_i n
        split at hk
        · rename_i hc
          cases hk
          subst hf
          obtain ⟨h1, h2, h3⟩ := hc
          rw [List.isEmpty_iff.1 h3]
          have := grow_tri (G := tabG) n.toNat (by omega)
          rw [show ((n.toNat : Nat) : Int) = n by omega] at this
          exact this
        · cases hk
      · cases hk
    · cases hk
  | cons k l ih =>
    intro hk
    unfold knownIn at hk
    split at hk
    · rename_i hf
      split at hk
      · rename_i hc
        rw [Bool.and_eq_true] at hc
        cases hk
        rw [Nat.eq_of_beq_eq_true hf, sameLs_eq _ _ hc.1, sameObs_eq hc.2]
        exact h k (by simp)
      · exact ih (fun k hk => h k (by simp [hk])) hk
    · exact ih (fun k hk => h k (by simp [hk])) hk
theorem tabT_hand {ir : Nat → Option (Nat × C × List RV)} {l : List Known} {f : Nat} {md : Bool} : (tabT ir l).hand f md = knownIn l f := by simp only [tabT]
theorem tabT_ir {ir : Nat → Option (Nat × C × List RV)} {l : List Known} {f : Nat} : (tabT ir l).ir f = ir f := by simp only [tabT]
theorem run_tri {l : List Known} (h : ∀ k ∈ l, Tri Tryz.prog tabG k.f k.a k.o k.r k.b) {L d : Nat} {md : Bool} {f : Nat} {args : List LV} {objs : List LObj} {r : LV} {objs' : List LObj} (hr : runF tabG (tabT (irsOf Tryz.prog) l) L d md f args objs = some (r, objs')) : Tri Tryz.prog tabG f args objs r objs' :=
  runF_sound (T := tabT (irsOf Tryz.prog) l) (fun f md args objs r objs' hk => known_tri h f md args objs r objs' (tabT_hand ▸ hk)) (fun f ir hi => by rw [tabT_ir] at hi; exact irsOf_ok f ir hi) L d md f args objs r objs' hr
theorem kBoot_tri : Tri Tryz.prog tabG kBoot.f kBoot.a kBoot.o kBoot.r kBoot.b := run_tri (l := []) (fun _ h => by cases h) runBoot
def o26 : LObj := .dat 5 1 (zs 1000 ++ bs [3, 0, 1, 21, 139, 135, 12, 184, 1, 9, 1, 7, 1, 0, 0, 1, 1, 3, 0, 207, 147, 92, 209, 1, 3, 2, 1, 4, 226, 179, 248, 36, 1] ++ zs 967)
def kRead : Known := ⟨62, [conf21V, .sl 0 2000 1 0 2000], [o26], .tup [.agg [.int 0, .sl 1 2 5 0 2, nlV, .int 1, .int 1, .int 0, .int 0, .sl 2 3 7 0 3], .int 0],
  [o26, .dat 102 5 (List.replicate 2 [bl true, bl false, bl false, i64 1, i64 0]), .dat 37 7 [[i64 21, i64 0, i64 0, i64 0, i64 0, i64 0, i64 0], [i64 1, i64 0, i64 0, i64 1, i64 1, i64 3, i64 0], [i64 4, i64 0, i64 0, i64 0, i64 0, i64 0, i64 0]]]⟩
set_option maxRecDepth 100000 in
theorem runRead : runF tabG (tabT (irsOf Tryz.prog) []) 5000 60 false 62 kRead.a kRead.o = some (kRead.r, kRead.b) := by kernel_rfl
end Dv
