/- The document's example of layer 26, reckoned by the kernel: alive. -/
import Derived.Test.YtkalnfkokkjliaaGreatDoorA1
import Derived.Test.YtkalnfkokkjliaaGreatDoorG1
import Derived.Test.YtkalnfkokkjliaaGreatDoorVD
set_option linter.unusedVariables false
set_option linter.unusedSimpArgs false
namespace Dv
open Go Go.Proofs
theorem GP {l:List lT} (h:∀ k∈l,bw Tryz.prog dI k.f k.a k.o k.r k.b):∀ f (md:Bool) args objs r ay,mh l f args objs=some (r,ay)→bw Tryz.prog dI f args objs r ay:=by
 intro f md args objs r ay
 induction l with
 | nil=>
   intro hk
   unfold mh at hk
   split at hk
   ·rename_i hf
    split at hk
    ·rename_i n
     split at hk
     ·rename_i hc
      cases hk
      subst hf
      obtain ⟨h1,h2,h3⟩:=hc
      rw [List.isEmpty_iff.1 h3]
      have:=wz (G:=dI) n.toNat (by omega)
      rw [show ((n.toNat:Nat):Int)=n by omega] at this
      exact this
     ·cases hk
    ·cases hk
   ·cases hk
 | cons k l ih=>
   intro hk
   unfold mh at hk
   split at hk
   ·rename_i hf
    split at hk
    ·rename_i hc
     rw [Bool.and_eq_true] at hc
     cases hk
     rw [Nat.eq_of_beq_eq_true hf,lC _ _ hc.1,pQ hc.2]
     exact h k (by simp)
    ·exact ih (fun k hk=>h k (by simp [hk])) hk
   ·exact ih (fun k hk=>h k (by simp [hk])) hk
theorem F6 {ir:Nat→Option (Nat×C×List RV)} {l:List lT} {f:Nat} {md:Bool} : (pO ir l).hand f md=mh l f:=by simp only [pO]
theorem LM {ir:Nat→Option (Nat×C×List RV)} {l:List lT} {f:Nat} : (pO ir l).ir f=ir f:=by simp only [pO]
theorem jk {l:List lT} (h:∀ k∈l,bw Tryz.prog dI k.f k.a k.o k.r k.b) {L d:Nat} {md:Bool} {f:Nat} {args:List LV} {objs:List aD} {r:LV} {ay:List aD} (hr:oQ dI (pO (lH Tryz.prog) l) L d md f args objs=some (r,ay)):bw Tryz.prog dI f args objs r ay:=
 Db (T:=pO (lH Tryz.prog) l) (fun f md args objs r ay hk=>GP h f md args objs r ay (F6 ▸ hk)) (fun f ir hi=>by rw [LM] at hi; exact J4 f ir hi) L d md f args objs r ay hr
theorem GU:bw Tryz.prog dI pz.f pz.a pz.o pz.r pz.b:=jk (l:=[]) (fun _ h=>by cases h) L0
end Dv
