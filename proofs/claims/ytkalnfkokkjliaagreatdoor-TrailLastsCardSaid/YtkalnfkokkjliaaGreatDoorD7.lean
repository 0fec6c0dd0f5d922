/- part -/
import Derived.Test.YtkalnfkokkjliaaGreatDoorDF
set_option linter.all false
set_option maxRecDepth 100000
namespace Dv
open Go Go.Proofs
variable {G:Nat→Option (List DV)}
def XC:=qx Tryz.f143
theorem TW:aj Tryz.prog Tryz.f143=some XC:=by kernel_rfl
def XB:=qx Tryz.f144
theorem TV:aj Tryz.prog Tryz.f144=some XB:=by kernel_rfl
def Um:=qx Tryz.f73
theorem Hz:aj Tryz.prog Tryz.f73=some Um:=by kernel_rfl
theorem ta (l:List a_) (hl:l.length≤1000):bh Tryz.prog G 143 [bS l] [] (.sl 0 l.length 5 0 l.length) [.dat 102 5 (l.map bX)]:=by
 refine cA Tryz.func143 (by decide) TW rfl ?_
 simp only [XC,go_sem]
 cases l with
 | nil=>
   simp only [go_sem]
   refine ⟨?_,?_⟩
   ·exact sx [.t 2 102 5] rfl rfl
   ·exact sx [] rfl rfl
 | cons n l=>
   have h0:¬ (n::l).length=0:=by simp
   have hb:(l.length+1)*24≤70368744177664:=by simp at hl; omega
   simp only [h0,List.take_of_length_le (show (List.map bX (n::l)).length≤(n::l).length by simp),Nat.le_refl,go_sem]
   simp only [hb,go_sem]
   exact sx [] rfl rfl
theorem tc (l:List bP) (hl:l.length≤1000):bh Tryz.prog G 144 [de l] [] (.sl 0 l.length 12 0 l.length) [.dat 119 12 (l.map dF)]:=by
 refine cA Tryz.func144 (by decide) TV rfl ?_
 simp only [XB,go_sem]
 cases l with
 | nil=>
   simp only [go_sem]
   refine ⟨?_,?_⟩
   ·exact sx [.t 2 119 12] rfl rfl
   ·exact sx [] rfl rfl
 | cons n l=>
   have h0:¬ (n::l).length=0:=by simp
   have hb:(l.length+1)*96≤70368744177664:=by simp at hl; omega
   simp only [h0,List.take_of_length_le (show (List.map dF (n::l)).length≤(n::l).length by simp),Nat.le_refl,go_sem]
   simp only [hb,go_sem]
   exact sx [] rfl rfl
theorem qI (s:aa) (hn:s.nodes.length≤1000) (hj:s.jobs.length≤1000):bh Tryz.prog G 73 [aY s] [] (.agg [.sl 0 s.nodes.length 5 0 s.nodes.length,.sl 1 s.jobs.length 12 0 s.jobs.length,.int s.goal,.int s.prior,.int s.mode,.int s.term]) [.dat 102 5 (s.nodes.map bX),.dat 119 12 (s.jobs.map dF)]:=by
 refine cA Tryz.func73 (by decide) Hz rfl ?_
 simp only [Um,go_sem]
 refine jf (ta s.nodes hn) rfl rfl rfl ?_
 simp only [go_sem]
 refine jf (tc s.jobs hj) rfl rfl rfl ?_
 simp only [go_sem]
 refine an rfl ?_
 simp only [go_sem]
 refine dm [] [2,3] [] rfl rfl (by decide) (by simp) (by simp) rfl rfl ?_
 simp [aP,ah,ag]
end Dv
