/- part -/
import Derived.Test.YtkalnfkokkjliaaGreatDoorLA
set_option linter.all false
namespace Dv
open Go Go.Proofs
theorem oL {c:aC} (h:gJ c=true):bR c (dF c):=by
 have hn:=oM h
 have hq:=Ci h
 have h4:0≤c.cB:=by
  have:=h
  unfold gJ at this
  simp only [Bool.and_eq_true] at this
  exact (bh this.1.1.1.1.1.1.2).1
 have e:dF c=⟨List.replicate c.nodes.toNat node1,[],1,1,0,0⟩:=if_pos h
 have hg:∀ i,i<c.nodes.toNat→(List.replicate c.nodes.toNat node1).getD i ai=node1:=fun i hi=>by simp [List.getD,hi]
 rw [e]
 refine ⟨h,by simp; omega,by simp,by dsimp only; omega,by dsimp only; omega,by dsimp only; omega,by dsimp only; omega,fun k hk=>by simp at hk,fun k hk=>by simp at hk,fun k hk=>by simp at hk,fun i hi=>?_,fun i hi=>?_,fun i hi hm=>?_,fun i hi h0=>?_,fun i k hi hk=>by simp at hk,fun q hq=>by simpa [cQ] using h4⟩
 all_goals
  dsimp only [List.length_replicate] at hi
  simp only [List.length_replicate] at hi
 ·unfold dR; rw [hg i hi]; decide
 ·unfold dR; rw [hg i hi]; simp [node1]
 ·unfold dR at hm; rw [hg i hi] at hm; cases hm
 ·unfold dR at h0; rw [hg i hi] at h0; exact absurd rfl h0
end Dv
