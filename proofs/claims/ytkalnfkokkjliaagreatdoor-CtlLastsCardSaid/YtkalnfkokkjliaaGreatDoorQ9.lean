/- part -/
import Derived.Test.YtkalnfkokkjliaaGreatDoorLA
set_option linter.all false
namespace Dv
open Go Go.Proofs
theorem oW {c:aF} (h:gH c=true):bU c (dN c):=by
 have hn:=o8 h
 have hq:=CB h
 have h4:0≤c.cE:=by
  have:=h
  unfold gH at this
  simp only [Bool.and_eq_true] at this
  exact (bp this.1.1.1.1.1.1.2).1
 have e:dN c=⟨List.replicate c.nodes.toNat node1,[],1,1,0,0⟩:=if_pos h
 have hg:∀ i,i<c.nodes.toNat→(List.replicate c.nodes.toNat node1).getD i ai=node1:=fun i hi=>by simp [List.getD,hi]
 rw [e]
 refine ⟨h,by simp; omega,by simp,by dsimp only; omega,by dsimp only; omega,by dsimp only; omega,by dsimp only; omega,fun k hk=>by simp at hk,fun k hk=>by simp at hk,fun k hk=>by simp at hk,fun i hi=>?_,fun i hi=>?_,fun i hi hm=>?_,fun i hi h0=>?_,fun i k hi hk=>by simp at hk,fun q hq=>by simpa [cV] using h4⟩
 all_goals
  dsimp only [List.length_replicate] at hi
  simp only [List.length_replicate] at hi
 ·unfold ec; rw [hg i hi]; decide
 ·unfold ec; rw [hg i hi]; simp [node1]
 ·unfold ec at hm; rw [hg i hi] at hm; cases hm
 ·unfold ec at h0; rw [hg i hi] at h0; exact absurd rfl h0
end Dv
