/- Trails, plain: the states behind their ops. -/
import Derived.Test.YtkalnfkokkjliaaGreatDoorLA
set_option linter.unusedVariables false
set_option linter.unusedSimpArgs false
namespace Dv
open Go Go.Proofs
theorem yH {c:aI} (h:iH c=true):cm c (yI c):=by
 have hn:=lS h
 have hq:=vf h
 have h4:0≤c.cv:=by
  have:=h
  unfold iH at this
  simp only [Bool.and_eq_true] at this
  exact (bf this.1.1.1.1.1.1.2).1
 have e:yI c=⟨List.replicate c.nodes.toNat node1,[],1,1,0,0⟩:=if_pos h
 have hg:∀ i,i<c.nodes.toNat→(List.replicate c.nodes.toNat node1).getD i an=node1:=fun i hi=>by simp [List.getD,hi]
 rw [e]
 refine ⟨h,by simp; omega,by simp,by dsimp only; omega,by dsimp only; omega,by dsimp only; omega,by dsimp only; omega,fun k hk=>by simp at hk,fun k hk=>by simp at hk,fun k hk=>by simp at hk,fun i hi=>?_,fun i hi=>?_,fun i hi hm=>?_,fun i hi h0=>?_,fun i k hi hk=>by simp at hk,fun q hq=>by simpa [cu] using h4⟩
 all_goals
  dsimp only [List.length_replicate] at hi
  simp only [List.length_replicate] at hi
 ·unfold eS; rw [hg i hi]; decide
 ·unfold eS; rw [hg i hi]; simp [node1]
 ·unfold eS at hm; rw [hg i hi] at hm; cases hm
 ·unfold eS at h0; rw [hg i hi] at h0; exact absurd rfl h0
end Dv
