/- part -/
import Derived.Test.YtkalnfkokkjliaaGreatDoorDF
set_option linter.all false
set_option maxRecDepth 100000
namespace Dv
open Go Go.Proofs
variable {G:Nat→Option (List DV)}
def Yb:=qx Tryz.f143
theorem UC:aj Tryz.prog Tryz.f143=some Yb:=by kernel_rfl
def Ya:=qx Tryz.f144
theorem UB:aj Tryz.prog Tryz.f144=some Ya:=by kernel_rfl
def ZR:=qx Tryz.f73
theorem Pt:aj Tryz.prog Tryz.f73=some ZR:=by kernel_rfl
theorem AJ (l:List bp) (hl:l.length≤1000):bw Tryz.prog G 143 [bO l] [] (.sl 0 l.length 5 0 l.length) [.dat 102 5 (l.map bY)]:=by
 refine cD Tryz.func143 (by decide) UC rfl ?_
 simp only [Yb,go_sem]
 cases l with
 | nil=>
   simp only [go_sem]
   refine ⟨?_,?_⟩
   ·exact sN [.t 2 102 5] rfl rfl
   ·exact sN [] rfl rfl
 | cons n l=>
   have h0:¬ (n::l).length=0:=by simp
   have hb:(l.length+1)*24≤70368744177664:=by simp at hl; omega
   simp only [h0,List.take_of_length_le (show (List.map bY (n::l)).length≤(n::l).length by simp),Nat.le_refl,go_sem]
   simp only [hb,go_sem]
   exact sN [] rfl rfl
theorem AK (l:List bP) (hl:l.length≤1000):bw Tryz.prog G 144 [cO l] [] (.sl 0 l.length 12 0 l.length) [.dat 119 12 (l.map dD)]:=by
 refine cD Tryz.func144 (by decide) UB rfl ?_
 simp only [Ya,go_sem]
 cases l with
 | nil=>
   simp only [go_sem]
   refine ⟨?_,?_⟩
   ·exact sN [.t 2 119 12] rfl rfl
   ·exact sN [] rfl rfl
 | cons n l=>
   have h0:¬ (n::l).length=0:=by simp
   have hb:(l.length+1)*96≤70368744177664:=by simp at hl; omega
   simp only [h0,List.take_of_length_le (show (List.map dD (n::l)).length≤(n::l).length by simp),Nat.le_refl,go_sem]
   simp only [hb,go_sem]
   exact sN [] rfl rfl
theorem q_ (s:aa) (hn:s.nodes.length≤1000) (hj:s.jobs.length≤1000):bw Tryz.prog G 73 [aY s] [] (.agg [.sl 0 s.nodes.length 5 0 s.nodes.length,.sl 1 s.jobs.length 12 0 s.jobs.length,.int s.goal,.int s.prior,.int s.mode,.int s.term]) [.dat 102 5 (s.nodes.map bY),.dat 119 12 (s.jobs.map dD)]:=by
 refine cD Tryz.func73 (by decide) Pt rfl ?_
 simp only [ZR,go_sem]
 refine ko (AJ s.nodes hn) rfl rfl rfl ?_
 simp only [go_sem]
 refine ko (AK s.jobs hj) rfl rfl rfl ?_
 simp only [go_sem]
 refine au rfl ?_
 simp only [go_sem]
 refine dh [] [2,3] [] rfl rfl (by decide) (by simp) (by simp) rfl rfl ?_
 simp [aU,ah,ag]
end Dv
