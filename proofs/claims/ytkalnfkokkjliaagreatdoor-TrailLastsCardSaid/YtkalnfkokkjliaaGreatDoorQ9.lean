/- part -/
import Derived.Test.YtkalnfkokkjliaaGreatDoorLA
set_option linter.all false
namespace Dv
open Go Go.Proofs
theorem oq {c:aB} (h:iq c=true):bK c (dz c):=by
 have hn:=ou h
 have hq:=BS h
 have h4:0≤c.cH:=by
  have:=h
  unfold iq at this
  simp only [Bool.and_eq_true] at this
  exact (aX this.1.1.1.1.1.1.2).1
 have e:dz c=⟨List.replicate c.nodes.toNat node1,[],1,1,0,0⟩:=if_pos h
 have hg:∀ i,i<c.nodes.toNat→(List.replicate c.nodes.toNat node1).getD i ai=node1:=fun i hi=>by simp [List.getD,hi]
 rw [e]
 refine ⟨h,by simp; omega,by simp,by dsimp only; omega,by dsimp only; omega,by dsimp only; omega,by dsimp only; omega,fun k hk=>by simp at hk,fun k hk=>by simp at hk,fun k hk=>by simp at hk,fun i hi=>?_,fun i hi=>?_,fun i hi hm=>?_,fun i hi h0=>?_,fun i k hi hk=>by simp at hk,fun q hq=>by simpa [cI] using h4⟩
 all_goals
  dsimp only [List.length_replicate] at hi
  simp only [List.length_replicate] at hi
 ·unfold dW; rw [hg i hi]; decide
 ·unfold dW; rw [hg i hi]; simp [node1]
 ·unfold dW at hm; rw [hg i hi] at hm; cases hm
 ·unfold dW at h0; rw [hg i hi] at h0; exact absurd rfl h0
def rI (c:aB) (s:aa) (l:List bT):Nat→aa
 | 0=>s
 | k+1=>(bx c (rI c s l k) (l.getD k cU)).1
def OkT (c:aB) (s:aa) (l:List bT):Prop:=∀ k,k<l.length→(bx c (rI c s l k) (l.getD k cU)).2=0
theorem vz {c:aB} {s:aa} (h:bK c s) (l:List bT):∀ k,bK c (rI c s l k)
 | 0=>h
 | k+1=>xq (vz h l k) _
end Dv
