/- part -/
import Derived.Test.YtkalnfkokkjliaaGreatDoorDF
set_option linter.all false
set_option maxRecDepth 100000
namespace Dv
open Go Go.Proofs
variable {G:Nat→Option (List DV)}
def Yz:=qx Tryz.f143
theorem UQ:aj Tryz.prog Tryz.f143=some Yz:=by kernel_rfl
def Yy:=qx Tryz.f144
theorem UP:aj Tryz.prog Tryz.f144=some Yy:=by kernel_rfl
def aab:=qx Tryz.f73
theorem PN:aj Tryz.prog Tryz.f73=some aab:=by kernel_rfl
theorem Bb (l:List br) (hl:l.length≤1000):bu Tryz.prog G 143 [bS l] [] (.sl 0 l.length 5 0 l.length) [.dat 102 5 (l.map bZ)]:=by
 refine cI Tryz.func143 (by decide) UQ rfl ?_
 simp only [Yz,go_sem]
 cases l with
 | nil=>
   simp only [go_sem]
   refine ⟨?_,?_⟩
   ·exact s7 [.t 2 102 5] rfl rfl
   ·exact s7 [] rfl rfl
 | cons n l=>
   have h0:¬ (n::l).length=0:=by simp
   have hb:(l.length+1)*24≤70368744177664:=by simp at hl; omega
   simp only [h0,List.take_of_length_le (show (List.map bZ (n::l)).length≤(n::l).length by simp),Nat.le_refl,go_sem]
   simp only [hb,go_sem]
   exact s7 [] rfl rfl
theorem Bc (l:List bQ) (hl:l.length≤1000):bu Tryz.prog G 144 [cZ l] [] (.sl 0 l.length 12 0 l.length) [.dat 119 12 (l.map dJ)]:=by
 refine cI Tryz.func144 (by decide) UP rfl ?_
 simp only [Yy,go_sem]
 cases l with
 | nil=>
   simp only [go_sem]
   refine ⟨?_,?_⟩
   ·exact s7 [.t 2 119 12] rfl rfl
   ·exact s7 [] rfl rfl
 | cons n l=>
   have h0:¬ (n::l).length=0:=by simp
   have hb:(l.length+1)*96≤70368744177664:=by simp at hl; omega
   simp only [h0,List.take_of_length_le (show (List.map dJ (n::l)).length≤(n::l).length by simp),Nat.le_refl,go_sem]
   simp only [hb,go_sem]
   exact s7 [] rfl rfl
theorem rC (s:aa) (hn:s.nodes.length≤1000) (hj:s.jobs.length≤1000):bu Tryz.prog G 73 [aX s] [] (.agg [.sl 0 s.nodes.length 5 0 s.nodes.length,.sl 1 s.jobs.length 12 0 s.jobs.length,.int s.goal,.int s.prior,.int s.mode,.int s.term]) [.dat 102 5 (s.nodes.map bZ),.dat 119 12 (s.jobs.map dJ)]:=by
 refine cI Tryz.func73 (by decide) PN rfl ?_
 simp only [aab,go_sem]
 refine kA (Bb s.nodes hn) rfl rfl rfl ?_
 simp only [go_sem]
 refine kA (Bc s.jobs hj) rfl rfl rfl ?_
 simp only [go_sem]
 refine ay rfl ?_
 simp only [go_sem]
 refine dA [] [2,3] [] rfl rfl (by decide) (by simp) (by simp) rfl rfl ?_
 simp [aV,ah,ag]
end Dv
