/- Clone, Copy. -/
import Derived.Test.YtkalnfkokkjliaaGreatDoorD4
set_option linter.unusedVariables false
set_option linter.unusedSimpArgs false
namespace Dv
open Go Go.Proofs
variable {G:Nat→Option (List DV)}
def RN:Nat×C×List RV:=(8,
(.seq (.af [qo 2 (.mv (.c (.val (.slice none 0 0))))])
 (.seq (.seq (.af [qm 3 0,
 qo 4 (.zX false (.t 3))])
 (.cond (.t 4) (.seq (.af [qo 2 (.mv (.c (.val (.slice none 0 0))))])
 .ret)
 .skip))
 (.seq (.af [qo 5 (.nh 102 5 []),
 qm 6 0,
 qo 7 (.app 102 5 24 (.t 5) (.t 6)),
 qm 2 7])
 .ret))),
[(.t 2)])
theorem Oq:aq Tryz.prog Tryz.f143=some RN:=by kernel_rfl
def RM:Nat×C×List RV:=(8,
(.seq (.af [qo 2 (.mv (.c (.val (.slice none 0 0))))])
 (.seq (.seq (.af [qm 3 0,
 qo 4 (.zX false (.t 3))])
 (.cond (.t 4) (.seq (.af [qo 2 (.mv (.c (.val (.slice none 0 0))))])
 .ret)
 .skip))
 (.seq (.af [qo 5 (.nh 119 12 []),
 qm 6 0,
 qo 7 (.app 119 12 96 (.t 5) (.t 6)),
 qm 2 7])
 .ret))),
[(.t 2)])
theorem Oo:aq Tryz.prog Tryz.f144=some RM:=by kernel_rfl
def Tv:Nat×C×List RV:=(12,
(.seq (.af [qo 1 (.box 30 (.t 0)),
 qo 2 (.new 30 [(.val (.slice none 0 0)),(.val (.slice none 0 0)),q0,q0,q0,q0])])
 (.seq (.bQ [qo 3 (.aj 0 (.t 1)),
 qd 4 (.ld1 (.t 3)) [0],
 qd 5 (.call (.f 143) [(.t 4)]) [1,0],
 qo 6 (.aj 1 (.t 1)),
 qd 7 (.ld1 (.t 6)) [3],
 qd 8 (.call (.f 144) [(.t 7)]) [4,3,2,1,0],
 qd 9 (.aj 0 (.t 1)) [0,1,2,3,4],
 ql (.st 1 (.t 9) (.t 5)) [6,0,1,2,3,4,5],
 qd 10 (.aj 1 (.t 1)) [0,1,2,3,4,5,6,7],
 ql (.st 1 (.t 10) (.t 8)) [8,0,1,2,3,4,5,6,7]])
 (.seq (.af [qo 11 (.bP 6 (.t 1)),
 qn (.st 6 (.t 2) (.t 11))])
 .ret))),
[(.cn 2 6)])
theorem J7:aq Tryz.prog Tryz.f73=some Tv:=by kernel_rfl
theorem wT (l:List bK) (hl:l.length≤1000):bw Tryz.prog G 143 [bZ l] [] (.sl 0 l.length 5 0 l.length) [.dat 102 5 (l.map ck)]:=by
 refine cG Tryz.func143 (by decide) Oq rfl ?_
 simp only [RN,go_sem,simprocAttr]
 cases l with
 | nil=>
   simp only [go_sem,simprocAttr]
   refine ⟨?_,?_⟩
   ·exact pI [.t 2 102 5] rfl rfl
   ·exact pI [] rfl rfl
 | cons n l=>
   have h0:¬ (n::l).length=0:=by simp
   have hb:(l.length+1)*24≤70368744177664:=by simp at hl; omega
   simp only [go_sem,simprocAttr]
   simp only [hb,go_sem,simprocAttr]
   exact pI [] rfl rfl
theorem wU (l:List bU) (hl:l.length≤1000):bw Tryz.prog G 144 [dg l] [] (.sl 0 l.length 12 0 l.length) [.dat 119 12 (l.map dh)]:=by
 refine cG Tryz.func144 (by decide) Oo rfl ?_
 simp only [RM,go_sem,simprocAttr]
 cases l with
 | nil=>
   simp only [go_sem,simprocAttr]
   refine ⟨?_,?_⟩
   ·exact pI [.t 2 119 12] rfl rfl
   ·exact pI [] rfl rfl
 | cons n l=>
   have h0:¬ (n::l).length=0:=by simp
   have hb:(l.length+1)*96≤70368744177664:=by simp at hl; omega
   simp only [go_sem,simprocAttr]
   simp only [hb,go_sem,simprocAttr]
   exact pI [] rfl rfl
theorem oe (s:aa) (hn:s.nodes.length≤1000) (hj:s.jobs.length≤1000):bw Tryz.prog G 73 [bp s] [] (.agg [.sl 0 s.nodes.length 5 0 s.nodes.length,.sl 1 s.jobs.length 12 0 s.jobs.length,.int s.goal,.int s.prior,.int s.mode,.int s.term]) [.dat 102 5 (s.nodes.map ck),.dat 119 12 (s.jobs.map dh)]:=by
 refine cG Tryz.func73 (by decide) J7 rfl ?_
 simp only [Tv,go_sem,simprocAttr]
 refine iU (wT s.nodes hn) rfl rfl rfl ?_
 simp only [go_sem,simprocAttr]
 refine iU (wU s.jobs hj) rfl rfl rfl ?_
 simp only [go_sem,simprocAttr]
 refine av rfl ?_
 simp only [go_sem,simprocAttr]
 refine dF [] [2,3] [] rfl rfl (by decide) (by simp) (by simp) rfl rfl ?_
 simp [aW,ai,ah]
end Dv
