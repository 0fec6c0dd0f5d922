/- The document's example of layer 26, reckoned by the kernel: alive. -/
import Derived.Test.YtkalnfkokkjliaaGreatDoorA1
import Derived.Test.YtkalnfkokkjliaaGreatDoorG1
import Derived.Test.YtkalnfkokkjliaaGreatDoorVD
set_option linter.unusedVariables false
set_option linter.unusedSimpArgs false
namespace Dv
open Go Go.Proofs
theorem JV {l:List nQ} (h:∀ k∈l,br Tryz.prog fL k.f k.a k.o k.r k.b):∀ f (md:Bool) args ag r aC,od l f args ag=some (r,aC)→br Tryz.prog fL f args ag r aC:=by
 intro f md args ag r aC
 induction l with
 | nil=>
   intro hk
   unfold od at hk
   split at hk
   ·rename_i hf
    split at hk
    ·rename_i n
     split at hk
     ·rename_i hc
      cases hk
      subst hf
      obtain ⟨h1,h2,h3⟩:=hc
      rw [List.isEmpty_iff.1 h3]
      have:=y8 (G:=fL) n.toNat (by omega)
      rw [show ((n.toNat:Nat):Int)=n by omega] at this
      exact this
     ·cases hk
    ·cases hk
   ·cases hk
 | cons k l ih=>
   intro hk
   unfold od at hk
   split at hk
   ·rename_i hf
    split at hk
    ·rename_i hc
     rw [Bool.and_eq_true] at hc
     cases hk
     rw [Nat.eq_of_beq_eq_true hf,qK _ _ hc.1,xZ hc.2]
     exact h k (by simp)
    ·exact ih (fun k hk=>h k (by simp [hk])) hk
   ·exact ih (fun k hk=>h k (by simp [hk])) hk
theorem Jf {ir:Nat→Option (Nat×C×List RV)} {l:List nQ} {f:Nat} {md:Bool} : (th ir l).hand f md=od l f:=by simp only [th]
theorem Pb {ir:Nat→Option (Nat×C×List RV)} {l:List nQ} {f:Nat} : (th ir l).ir f=ir f:=by simp only [th]
theorem mq {l:List nQ} (h:∀ k∈l,br Tryz.prog fL k.f k.a k.o k.r k.b) {L d:Nat} {md:Bool} {f:Nat} {args:List LV} {ag:List aG} {r:LV} {aC:List aG} (hr:sy fL (th (oM Tryz.prog) l) L d md f args ag=some (r,aC)):br Tryz.prog fL f args ag r aC:=
 FU (T:=th (oM Tryz.prog) l) (fun f md args ag r aC hk=>JV h f md args ag r aC (Jf ▸ hk)) (fun f ir hi=>by rw [Pb] at hi; exact MR f ir hi) L d md f args ag r aC hr
theorem JY:br Tryz.prog fL rT.f rT.a rT.o rT.r rT.b:=mq (l:=[]) (fun _ h=>by cases h) Pq
end Dv
