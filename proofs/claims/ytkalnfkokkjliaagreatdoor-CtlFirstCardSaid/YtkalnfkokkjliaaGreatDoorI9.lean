/- image: a state as bytes. -/
import Derived.Test.YtkalnfkokkjliaaGreatDoorI8
import Derived.Test.YtkalnfkokkjliaaGreatDoorPB
set_option linter.unusedVariables false
set_option linter.unusedSimpArgs false
namespace Dv
open Go Go.Proofs
variable {G:Nat→Option (List DV)}
def QA:Nat×C×List RV:=(7,
(.seq (.af [qo 4 (.mv (qk 0))])
 (.seq (.seq (.af [qm 5 0])
 (.cond (.t 5) (.seq (.af [qm 6 1,
 qm 4 6])
 .ret)
 .skip))
 (.seq (.af [qo 4 (.mv (qk 0))])
 .ret))),
[(.t 4)])
theorem M8:aq Tryz.prog Tryz.f252=some QA:=by kernel_rfl
def Q6:Nat×C×List RV:=(101,
(.seq (.af [qo 1 (.box 30 (.t 0)),
 qo 2 (.mv (.c (.val (.slice none 0 0))))])
 (.seq (.seq (.af [qo 8 (.aj 0 (.t 1)),
 qo 9 (.ld1 (.t 8)),
 qo 10 (.len (.t 9)),
 qo 11 (.bin .gtr (.t 10) (qk 6)),
 qm 12 11,
 qg 13 (.aj 1 (.t 1)) 12 false,
 qg 14 (.ld1 (.t 13)) 12 false,
 qg 15 (.len (.t 14)) 12 false,
 qg 16 (.bin .gtr (.t 15) (qk 24)) 12 false,
 qo 17 (.pick (.t 12) qt (.t 16))])
 (.cond (.t 17) (.seq (.af [qo 2 (.mv (.c (.val (.slice none 0 0))))])
 .ret)
 .skip))
 (.seq (.af [qo 18 (.aj 0 (.t 1)),
 qo 19 (.ld1 (.t 18)),
 qo 20 (.len (.t 19)),
 qo 21 (.nh 3 1 [(.t 20)]),
 qm 3 21])
 (.seq (.seq (.af [qo 22 (.aj 0 (.t 1)),
 qo 23 (.ld1 (.t 22)),
 qo 24 (.len (.t 23)),
 qo 25 (.mv (qk 0))])
 (.block 0 (.loop (.seq (.af [qo 26 (.bin .lss (.t 25) (.t 24))])
 (.seq (.cond (.t 26) .skip
 (.exit 0))
 (.seq (.block 1 (.seq (.af [qo 27 (.eG 5 (.t 23) (.t 25)),
 qo 28 (.bP 5 (.t 27)),
 qo 5 (.new 102 [(.val (.bool false)),(.val (.bool false)),(.val (.bool false)),q0,q0]),
 qn (.st 5 (.t 5) (.t 28))])
 (.bQ [qm 29 3,
 qo 30 (.aj 0 (.t 5)),
 qd 31 (.ld1 (.t 30)) [1],
 qd 32 (.call (.f 252) [(.t 31),(qk 1)]) [2,1],
 qo 33 (.aj 1 (.t 5)),
 qd 34 (.ld1 (.t 33)) [4],
 qd 35 (.call (.f 252) [(.t 34),(qk 2)]) [5,4,3,2,1],
 qd 36 (.bin .or (.t 32) (.t 35)) [3,2,1,6,5,4],
 qo 37 (.aj 2 (.t 5)),
 qd 38 (.ld1 (.t 37)) [8],
 qd 39 (.call (.f 252) [(.t 38),(qk 4)]) [9,8,6,5,4,3,2,1],
 qd 40 (.bin .or (.t 36) (.t 39)) [7,3,2,1,6,5,4,10,9,8],
 qo 41 (.aj 3 (.t 5)),
 qd 42 (.ld1 (.t 41)) [12],
 qo 43 (.aj 4 (.t 5)),
 qd 44 (.ld1 (.t 43)) [14],
 qd 45 (.nh 3 1 [(.t 40),(.t 42),(.t 44)]) [11,7,3,2,1,6,5,4,10,9,8,13,12,15,14],
 qd 46 (.app 3 1 8 (.t 29) (.t 45)) [0,16,11,7,3,2,1,6,5,4,10,9,8,13,12,15,14],
 qd 3 (.mv (.t 46)) [17,0,16,11,7,3,2,1,6,5,4,10,9,8,13,12,15,14]])))
 (.af [qo 47 (.bin .add (.t 25) (qk 1)),
 qm 25 47])))))))
 (.seq (.af [qm 48 3,
 qo 49 (.aj 1 (.t 1)),
 qo 50 (.ld1 (.t 49)),
 qo 51 (.len (.t 50)),
 qo 52 (.nh 3 1 [(.t 51)]),
 qo 53 (.app 3 1 8 (.t 48) (.t 52)),
 qm 3 53])
 (.seq (.seq (.af [qo 54 (.aj 1 (.t 1)),
 qo 55 (.ld1 (.t 54)),
 qo 56 (.len (.t 55)),
 qo 57 (.mv (qk 0))])
 (.block 2 (.loop (.seq (.af [qo 58 (.bin .lss (.t 57) (.t 56))])
 (.seq (.cond (.t 58) .skip
 (.exit 2))
 (.seq (.block 3 (.seq (.af [qo 59 (.eG 12 (.t 55) (.t 57)),
 qo 60 (.bP 12 (.t 59)),
 qo 7 (.new 119 [q0,q0,q0,q0,q0,q0,q0,q0,q0,q0,q0,q0]),
 qn (.st 12 (.t 7) (.t 60))])
 (.af [qm 61 3,
 qo 62 (.aj 0 (.t 7)),
 qo 63 (.ld1 (.t 62)),
 qo 64 (.aj 1 (.t 7)),
 qo 65 (.ld1 (.t 64)),
 qo 66 (.aj 2 (.t 7)),
 qo 67 (.ld1 (.t 66)),
 qo 68 (.aj 3 (.t 7)),
 qo 69 (.ld1 (.t 68)),
 qo 70 (.aj 4 (.t 7)),
 qo 71 (.ld1 (.t 70)),
 qo 72 (.aj 5 (.t 7)),
 qo 73 (.ld1 (.t 72)),
 qo 74 (.aj 6 (.t 7)),
 qo 75 (.ld1 (.t 74)),
 qo 76 (.aj 7 (.t 7)),
 qo 77 (.ld1 (.t 76)),
 qo 78 (.aj 8 (.t 7)),
 qo 79 (.ld1 (.t 78)),
 qo 80 (.aj 9 (.t 7)),
 qo 81 (.ld1 (.t 80)),
 qo 82 (.aj 10 (.t 7)),
 qo 83 (.ld1 (.t 82)),
 qo 84 (.aj 11 (.t 7)),
 qo 85 (.ld1 (.t 84)),
 qo 86 (.nh 3 1 [(.t 63),(.t 65),(.t 67),(.t 69),(.t 71),(.t 73),(.t 75),(.t 77),(.t 79),(.t 81),(.t 83),(.t 85)]),
 qo 87 (.app 3 1 8 (.t 61) (.t 86)),
 qm 3 87])))
 (.af [qo 88 (.bin .add (.t 57) (qk 1)),
 qm 57 88])))))))
 (.seq (.af [qm 89 3,
 qo 90 (.aj 2 (.t 1)),
 qo 91 (.ld1 (.t 90)),
 qo 92 (.aj 3 (.t 1)),
 qo 93 (.ld1 (.t 92)),
 qo 94 (.aj 4 (.t 1)),
 qo 95 (.ld1 (.t 94)),
 qo 96 (.aj 5 (.t 1)),
 qo 97 (.ld1 (.t 96)),
 qo 98 (.nh 3 1 [(.t 91),(.t 93),(.t 95),(.t 97)]),
 qo 99 (.app 3 1 8 (.t 89) (.t 98)),
 qo 100 (.call (.f 251) [(.t 99)]),
 qm 2 100])
 .ret))))))),
[(.t 2)])
theorem Nw:aq Tryz.prog Tryz.f204=some Q6:=by kernel_rfl
theorem Az (b:Bool) (n:Int):bw Tryz.prog G 252 [.bool b,.int n] [] (.int (xk b n)) []:=by
 refine bn Tryz.func252 (by decide) M8 rfl rfl ?_
 simp only [QA,go_sem,simprocAttr]
 cases b <;> simp only [xk,go_sem,simprocAttr]
theorem O4 (a b c:Bool):yA .i64 (yA .i64 (xk a 1) (xk b 2)) (xk c 4)=xk a 1+xk b 2+xk c 4:=by
 cases a <;> cases b <;> cases c <;> decide
def IE (s:aa):aD:=.box 30 [bZ s.nodes,dg s.jobs,.int s.goal,.int s.prior,.int s.mode,.int s.term]
def EW (s:aa) (i:Nat):St:=⟨[(1,.ptr 0 0),(3,.sl 1 (1+3*i) 1 0 (1+3*i)),(23,bZ s.nodes),(24,.int s.nodes.length),(25,.int i)],[some (IE s),some (.dat 3 1 (vL (nS s i)))]⟩
def EV (s:aa) (i:Nat):St:=⟨[(1,.ptr 0 0),(3,.sl 1 (2+3*s.nodes.length+12*i) 1 0 (2+3*s.nodes.length+12*i)),(55,dg s.jobs),(56,.int s.jobs.length),(57,.int i)],[some (IE s),some (.dat 3 1 (vL (rz s i))),some (.dat 3 1 [[i64 s.jobs.length]])]⟩
attribute [local go_sem] vL au IE
set_option maxHeartbeats 2000000 in
theorem L5 (s:aa) (hN:s.nodes.length≤1000000) (hJ:s.jobs.length≤1000000):bw Tryz.prog G 204 [bp s] [] (au (mY s)) []:=by
 refine cG Tryz.func204 (by decide) Nw rfl ?_
 simp only [Q6,go_sem,simprocAttr]
 by_cases h6:s.nodes.length≤6
 case neg=>
  have hp:mY s=[]:=by unfold mY; rw [if_neg (by omega)]
  simp only [decide_eq_true (show ((s.nodes.length:Nat):Int)>6 by omega),hp,go_sem,simprocAttr]
  exact um rfl (by simp [aW,ai,aA,St.get,bx])
 by_cases ZT:s.jobs.length≤24
 case neg=>
  have hp:mY s=[]:=by unfold mY; rw [if_neg (by omega)]
  simp only [decide_eq_false (show ¬ ((s.nodes.length:Nat):Int)>6 by omega),decide_eq_true (show ((s.jobs.length:Nat):Int)>24 by omega),hp,go_sem,simprocAttr]
  exact um rfl (by simp [aW,ai,aA,St.get,bx])
 have hp:mY s=lF (rA s):=by unfold mY; rw [if_pos ⟨h6,ZT⟩]
 simp only [decide_eq_false (show ¬ ((s.nodes.length:Nat):Int)>6 by omega),decide_eq_false (show ¬ ((s.jobs.length:Nat):Int)>24 by omega),hp,go_sem,simprocAttr]
 refine aY [1,3,23,24,25] [] (fun i:Nat=>i≤s.nodes.length) (fun i=>s.nodes.length-i) (EW s) 0 ?_ (Nat.zero_le _) ?_
 ·simp only [EW,nS,List.flatMap_nil,Int.natCast_zero,Nat.mul_zero,go_sem,simprocAttr]
 ·intro i hi
  have hnl:(vL (nS s i)).length=1+3*i:=by simp only [vL,List.length_map,jB s hi]
  simp only [EW,go_sem,simprocAttr]
  cases hlt:decide ((i:Int)<(s.nodes.length:Int)) with
  | true=>
    have hi2:i<s.nodes.length:=by have:=of_decide_eq_true hlt; omega
    have hg:=aL (f:=ck) ag hi2
    have yQ:=Dr s hi2
    generalize s.nodes.getD i ag=n at *
    obtain ⟨nu,nc,nm,nv,nj⟩:=n
    simp only [ck] at hg
    simp only [hg,go_sem,simprocAttr]
    refine bf (Az nu 1) rfl rfl rfl rfl ?_; simp only [go_sem,simprocAttr]
    refine bf (Az nc 2) rfl rfl rfl rfl ?_; simp only [go_sem,simprocAttr]
    refine bf (Az nm 4) rfl rfl rfl rfl ?_; simp only [go_sem,simprocAttr]
    simp only [O4,go_sem,simprocAttr]
    have BX:∀ r:List (List DV),r.length≤20→(List.map (fun n:Int=>[DV.val (Value.int IntKind.i64 n)]) (nS s i)++r).length*8≤70368744177664:=fun r hr=>by rw [List.length_append,List.length_map,jB s hi]; omega
    rw [if_pos ⟨(jB s hi).symm,BX _ (by simp)⟩]
    simp only [jB s hi,go_sem,simprocAttr]
    refine av (by decide) ?_
    simp only [go_sem,simprocAttr]
    refine bz (i+1) ?_ ?_ (by omega) (by omega)
    ·simp only [go_sem,simprocAttr]
    ·simp only [EW,yQ,vQ,Sl,List.map_append,aG (show i<9223372036854775807 by omega),show 1+3*(i+1)=1+3*i+3 by omega,go_sem,simprocAttr]
  | false=>
  have hi2:i=s.nodes.length:=by have:=of_decide_eq_false hlt; omega
  subst hi2
  simp only [go_sem,simprocAttr]
  have Y1:=jB s (Nat.le_refl s.nodes.length)
  have BX:∀ r:List (List DV),r.length≤20→(List.map (fun n:Int=>[DV.val (Value.int IntKind.i64 n)]) (nS s s.nodes.length)++r).length*8≤70368744177664:=fun r hr=>by rw [List.length_append,List.length_map,Y1]; omega
  rw [if_pos ⟨Y1.symm,BX _ (by simp)⟩]
  simp only [Y1,go_sem,simprocAttr]
  refine aY [1,3,55,56,57] [] (fun k:Nat=>k≤s.jobs.length) (fun k=>s.jobs.length-k) (EV s) 0 ?_ (Nat.zero_le _) ?_
  ·simp only [EV,rz,List.flatMap_nil,List.map_append,Int.natCast_zero,Nat.mul_zero,show 1+3*s.nodes.length+1=2+3*s.nodes.length by omega,go_sem,simprocAttr]
  intro k hk
  have D5:=yC s hk
  have BX:∀ r:List (List DV),r.length≤20→(List.map (fun n:Int=>[DV.val (Value.int IntKind.i64 n)]) (rz s k)++r).length*8≤70368744177664:=fun r hr=>by rw [List.length_append,List.length_map,D5]; omega
  simp only [EV,go_sem,simprocAttr]
  cases hlt:decide ((k:Int)<(s.jobs.length:Int)) with
  | true=>
    have hk2:k<s.jobs.length:=by have:=of_decide_eq_true hlt; omega
    have hg:=aL (f:=dh) ax hk2
    have yQ:=Ds s hk2
    generalize s.jobs.getD k ax=j at *
    simp only [dh] at hg
    simp only [hg,go_sem,simprocAttr]
    rw [if_pos ⟨D5.symm,BX _ (by simp)⟩]
    simp only [D5,go_sem,simprocAttr]
    refine bz (k+1) ?_ ?_ (by omega) (by omega)
    ·simp only [go_sem,simprocAttr]
    ·simp only [EV,yQ,BI,List.map_append,aG (show k<9223372036854775807 by omega),show 2+3*s.nodes.length+12*(k+1)=2+3*s.nodes.length+12*k+12 by omega,go_sem,simprocAttr]
  | false=>
  have hk2:k=s.jobs.length:=by have:=of_decide_eq_false hlt; omega
  subst hk2
  simp only [go_sem,simprocAttr]
  rw [if_pos ⟨D5.symm,BX _ (by simp)⟩]
  simp only [D5,go_sem,simprocAttr]
  have hnl:(rA s).length=2+3*s.nodes.length+12*s.jobs.length+4:=by unfold rA; rw [List.length_append,D5]; rfl
  refine oM [1] (iT (rA s) (by omega)) rfl (by simp [ah,ai,bE,aB,rA,List.map_append,List.take_of_length_le,D5,go_sem,simprocAttr]) (by simp [aB]) rfl ?_; simp only [go_sem,simprocAttr]
  exact um rfl (by simp [aW,ai,aA,St.get,bx])
end Dv
