/- Clone, Copy. -/
import Derived.Test.YtkalnfkokkjliaaGreatDoorD4
set_option linter.unusedVariables false
set_option linter.unusedSimpArgs false
set_option maxRecDepth 100000
namespace Dv
open Go Go.Proofs
variable {G:Nat→Option (List DV)}
def Vb:=qx Tryz.f143
theorem RJ:aq Tryz.prog Tryz.f143=some Vb:=by kernel_rfl
def Va:=qx Tryz.f144
theorem RI:aq Tryz.prog Tryz.f144=some Va:=by kernel_rfl
def Xz:=qx Tryz.f73
theorem MV:aq Tryz.prog Tryz.f73=some Xz:=by kernel_rfl
theorem zB (l:List bu) (hl:l.length≤1000):br Tryz.prog G 143 [bK l] [] (.sl 0 l.length 5 0 l.length) [.dat 102 5 (l.map a_)]:=by
 refine bD Tryz.func143 (by decide) RJ rfl ?_
 simp only [Vb,go_sem,simprocAttr]
 cases l with
 | nil=>
   simp only [go_sem,simprocAttr]
   refine ⟨?_,?_⟩
   ·exact qE [.t 2 102 5] rfl rfl
   ·exact qE [] rfl rfl
 | cons n l=>
   have h0:¬ (n::l).length=0:=by simp
   have hb:(l.length+1)*24≤70368744177664:=by simp at hl; omega
   simp only [h0,List.take_of_length_le (show (List.map a_ (n::l)).length≤(n::l).length by simp),Nat.le_refl,go_sem,simprocAttr]
   simp only [hb,go_sem,simprocAttr]
   exact qE [] rfl rfl
theorem zC (l:List ct) (hl:l.length≤1000):br Tryz.prog G 144 [cA l] [] (.sl 0 l.length 12 0 l.length) [.dat 119 12 (l.map cQ)]:=by
 refine bD Tryz.func144 (by decide) RI rfl ?_
 simp only [Va,go_sem,simprocAttr]
 cases l with
 | nil=>
   simp only [go_sem,simprocAttr]
   refine ⟨?_,?_⟩
   ·exact qE [.t 2 119 12] rfl rfl
   ·exact qE [] rfl rfl
 | cons n l=>
   have h0:¬ (n::l).length=0:=by simp
   have hb:(l.length+1)*96≤70368744177664:=by simp at hl; omega
   simp only [h0,List.take_of_length_le (show (List.map cQ (n::l)).length≤(n::l).length by simp),Nat.le_refl,go_sem,simprocAttr]
   simp only [hb,go_sem,simprocAttr]
   exact qE [] rfl rfl
theorem qs (s:ai) (hn:s.nodes.length≤1000) (hj:s.jobs.length≤1000):br Tryz.prog G 73 [bz s] [] (.agg [.sl 0 s.nodes.length 5 0 s.nodes.length,.sl 1 s.jobs.length 12 0 s.jobs.length,.int s.goal,.int s.bH,.int s.mode,.int s.term]) [.dat 102 5 (s.nodes.map a_),.dat 119 12 (s.jobs.map cQ)]:=by
 refine bD Tryz.func73 (by decide) MV rfl ?_
 simp only [Xz,go_sem,simprocAttr]
 refine gz (zB s.nodes hn) rfl rfl rfl ?_
 simp only [go_sem,simprocAttr]
 refine gz (zC s.jobs hj) rfl rfl rfl ?_
 simp only [go_sem,simprocAttr]
 refine az rfl ?_
 simp only [go_sem,simprocAttr]
 refine bM [] [2,3] [] rfl rfl (by decide) (by simp) (by simp) rfl rfl ?_
 simp [aF,ah,aa]
end Dv
