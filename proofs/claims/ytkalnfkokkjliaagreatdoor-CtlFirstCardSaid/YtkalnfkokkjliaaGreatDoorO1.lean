/- ops: an op out of a kind and numbers; its bytes. -/
import Derived.Test.YtkalnfkokkjliaaGreatDoorDA
import Derived.Test.YtkalnfkokkjliaaGreatDoorI8
import Derived.Test.YtkalnfkokkjliaaGreatDoorVD
set_option linter.unusedVariables false
set_option linter.unusedSimpArgs false
namespace Dv
open Go Go.Proofs
variable {G:Nat→Option (List DV)}
def Q7:Nat×C×List RV:=(19,
(.seq (.af [qo 1 (.box 37 (.t 0)),
 qo 2 (.mv (.c (.val (.slice none 0 0))))])
 (.seq (.seq (.af [qo 4 (.bP 7 (.t 1)),
 qo 5 (.call (.f 72) [(.t 4)]),
 qo 6 (.not (.t 5))])
 (.cond (.t 6) (.seq (.af [qo 2 (.mv (.c (.val (.slice none 0 0))))])
 .ret)
 .skip))
 (.seq (.af [qo 7 (.bP 7 (.t 1)),
 qo 8 (.call (.f 142) [(.t 7)]),
 qo 3 (.new 236 [q0,q0,q0,q0,q0,q0]),
 qn (.st 6 (.t 3) (.t 8))])
 (.seq (.bQ [qo 9 (.aj 0 (.t 1)),
 qd 10 (.ld1 (.t 9)) [0],
 qd 11 (.nh 3 1 [(.t 10)]) [1,0],
 qo 12 (.aj 0 (.t 1)),
 qd 13 (.ld1 (.t 12)) [3],
 qd 14 (.Mv 22 1 (.g 0) (.t 13)) [4,3],
 qd 15 (.ld1 (.t 14)) [5,4,3],
 qd 16 (.more (.Ux 6 (.t 3) none (some (.t 15)))) [6,5,4,3],
 qd 17 (.app 3 1 8 (.t 11) (.t 16)) [2,1,0,7,6,5,4,3],
 qd 18 (.call (.f 251) [(.t 17)]) [8,2,1,0,7,6,5,4,3],
 qd 2 (.mv (.t 18)) [9,8,2,1,0,7,6,5,4,3]])
 .ret)))),
[(.t 2)])
theorem Nx:aq Tryz.prog Tryz.f203=some Q7:=by kernel_rfl
attribute [local go_sem] vL au
def gT (o:cH):List Int:=if gH o=true then lF (o.kind::(cV o).take (gX o.kind)) else []
theorem JP (k:Int):gX k≤6:=by unfold gX; split <;> (try split) <;> (try split) <;> omega
theorem Gy {o:cH} (h:gH o=true):1≤o.kind∧o.kind≤21:=by
 rw [Bl,Bool.and_eq_true] at h
 exact of_decide_eq_true h.1
set_option maxHeartbeats 1000000 in
theorem Jg (o:cH):bw Tryz.prog dQ 203 [uN o] [] (au (gT o)) []:=by
 refine cG Tryz.func203 (by decide) Nx rfl ?_
 simp only [Q7,go_sem,simprocAttr]
 refine aC (rj o) rfl rfl rfl rfl ?_; simp only [go_sem,simprocAttr]
 cases hr:gH o with
 | false=>
   have hp:gT o=[]:=by unfold gT; rw [if_neg (by rw [hr]; decide)]
   simp only [hp,go_sem,simprocAttr]
   exact um rfl (by simp [aW,ai,aA,St.get,bx])
 | true=>
 have hk:=Gy hr
 have hp:gT o=lF (o.kind::(cV o).take (gX o.kind)):=by unfold gT; rw [if_pos hr]
 simp only [go_sem,simprocAttr]
 refine aC (ES o) rfl rfl rfl rfl ?_
 have hk0:0≤o.kind:=by omega
 have LD:o.kind.toNat<22:=by omega
 have hm:=JP o.kind
 simp only [cV,xe,hk0,LD,Nat.mul_one,Fe o.kind hk,go_sem,simprocAttr]
 have hml:(cV o).length=6:=rfl
 generalize gX o.kind=m at *
 have h7:m=0∨m=1∨m=2∨m=3∨m=4∨m=5∨m=6:=by omega
 rcases h7 with rfl | rfl | rfl | rfl | rfl | rfl | rfl
 ·simp only [Nat.le_refl,Nat.zero_le,Nat.sub_zero,Nat.reduceLeDiff,go_sem,simprocAttr]
  rw [hp]
  refine j4 [2] (iT (o.kind::(cV o).take 0) (by simp [cV])) rfl (by simp [ah,ai,bE,aB,cV,go_sem,simprocAttr]) (by simp [aB]) rfl ?_; simp only [go_sem,simprocAttr]
  refine av (by decide) ?_
  simp only [go_sem,simprocAttr]
  exact su (ay:=[]) ⟨rfl,rfl⟩ rfl rfl rfl
 ·simp only [Nat.zero_le,Nat.sub_zero,Nat.reduceLeDiff,go_sem,simprocAttr]
  rw [hp]
  refine j4 [2] (iT (o.kind::(cV o).take 1) (by simp [cV])) rfl (by simp [ah,ai,bE,aB,cV,go_sem,simprocAttr]) (by simp [aB]) rfl ?_; simp only [go_sem,simprocAttr]
  refine av (by decide) ?_
  simp only [go_sem,simprocAttr]
  exact su (ay:=[]) ⟨rfl,rfl⟩ rfl rfl rfl
 ·simp only [Nat.zero_le,Nat.sub_zero,Nat.reduceLeDiff,go_sem,simprocAttr]
  rw [hp]
  refine j4 [2] (iT (o.kind::(cV o).take 2) (by simp [cV])) rfl (by simp [ah,ai,bE,aB,cV,go_sem,simprocAttr]) (by simp [aB]) rfl ?_; simp only [go_sem,simprocAttr]
  refine av (by decide) ?_
  simp only [go_sem,simprocAttr]
  exact su (ay:=[]) ⟨rfl,rfl⟩ rfl rfl rfl
 ·simp only [Nat.zero_le,Nat.sub_zero,Nat.reduceLeDiff,go_sem,simprocAttr]
  rw [hp]
  refine j4 [2] (iT (o.kind::(cV o).take 3) (by simp [cV])) rfl (by simp [ah,ai,bE,aB,cV,go_sem,simprocAttr]) (by simp [aB]) rfl ?_; simp only [go_sem,simprocAttr]
  refine av (by decide) ?_
  simp only [go_sem,simprocAttr]
  exact su (ay:=[]) ⟨rfl,rfl⟩ rfl rfl rfl
 ·simp only [Nat.zero_le,Nat.sub_zero,Nat.reduceLeDiff,go_sem,simprocAttr]
  rw [hp]
  refine j4 [2] (iT (o.kind::(cV o).take 4) (by simp [cV])) rfl (by simp [ah,ai,bE,aB,cV,go_sem,simprocAttr]) (by simp [aB]) rfl ?_; simp only [go_sem,simprocAttr]
  refine av (by decide) ?_
  simp only [go_sem,simprocAttr]
  exact su (ay:=[]) ⟨rfl,rfl⟩ rfl rfl rfl
 ·simp only [Nat.zero_le,Nat.sub_zero,Nat.reduceLeDiff,go_sem,simprocAttr]
  rw [hp]
  refine j4 [2] (iT (o.kind::(cV o).take 5) (by simp [cV])) rfl (by simp [ah,ai,bE,aB,cV,go_sem,simprocAttr]) (by simp [aB]) rfl ?_; simp only [go_sem,simprocAttr]
  refine av (by decide) ?_
  simp only [go_sem,simprocAttr]
  exact su (ay:=[]) ⟨rfl,rfl⟩ rfl rfl rfl
 ·simp only [Nat.le_refl,Nat.zero_le,Nat.sub_zero,Nat.reduceLeDiff,go_sem,simprocAttr]
  rw [hp]
  refine j4 [2] (iT (o.kind::(cV o).take 6) (by simp [cV])) rfl (by simp [ah,ai,bE,aB,cV,go_sem,simprocAttr]) (by simp [aB]) rfl ?_; simp only [go_sem,simprocAttr]
  refine av (by decide) ?_
  simp only [go_sem,simprocAttr]
  exact su (ay:=[]) ⟨rfl,rfl⟩ rfl rfl rfl
end Dv
