/- A controller: Hear. -/
import Derived.Test.YtkalnfkokkjliaaGreatDoorCB
import Derived.Test.YtkalnfkokkjliaaGreatDoorDD
import Derived.Test.YtkalnfkokkjliaaGreatDoorCA
import Derived.Test.YtkalnfkokkjliaaGreatDoorGA
import Derived.Test.YtkalnfkokkjliaaGreatDoorT18
set_option linter.unusedVariables false
set_option linter.unusedSimpArgs false
namespace Dv
open Go Go.Proofs
variable {G:Nat→Option (List DV)}
def DK:Nat×C×List RV:=(92,
(.seq (.af [qo 4 (.box 87 (.t 1)),
 qo 6 (.mv qf)])
 (.seq (.seq (.bQ [qm 8 0,
 qd 9 (.call (.f 109) [(.t 8)]) [0],
 qd 10 (.not (.t 9)) [1,0],
 qd 11 (.mv (.t 10)) [2,1,0],
 qe 12 (.aj 1 (.t 4)) 11 false [3,2,1,0],
 qe 13 (.ld1 (.t 12)) 11 false [4,3,2,1,0],
 qe 14 (.bin .neq (.t 13) (qk 6)) 11 false [5,4,3,2,1,0],
 qd 15 (.pick (.t 11) qt (.t 14)) [3,2,1,0,6,5,4],
 qd 16 (.mv (.t 15)) [7,3,2,1,0,6,5,4],
 qe 17 (.aj 0 (.t 4)) 16 false [8,7,3,2,1,0,6,5,4],
 qe 18 (.ld1 (.t 17)) 16 false [9,8,7,3,2,1,0,6,5,4],
 qe 19 (.bin .lss (.t 18) (qk 0)) 16 false [10,9,8,7,3,2,1,0,6,5,4],
 qd 20 (.pick (.t 16) qt (.t 19)) [8,7,3,2,1,0,6,5,4,11,10,9],
 qd 21 (.mv (.t 20)) [12,8,7,3,2,1,0,6,5,4,11,10,9],
 qe 22 (.aj 0 (.t 4)) 21 false [13,12,8,7,3,2,1,0,6,5,4,11,10,9],
 qe 23 (.ld1 (.t 22)) 21 false [14,13,12,8,7,3,2,1,0,6,5,4,11,10,9],
 qe 24 (.mv (.t 0)) 21 false [13,12,8,7,3,2,1,0,6,5,4,11,10,9],
 qe 25 (.aV (.t 24)) 21 false [16,13,12,8,7,3,2,1,0,6,5,4,11,10,9],
 qe 26 (.aj 18 (.t 25)) 21 false [17,16,13,12,8,7,3,2,1,0,6,5,4,11,10,9],
 qe 27 (.ld1 (.t 26)) 21 false [18,17,16,13,12,8,7,3,2,1,0,6,5,4,11,10,9],
 qe 28 (.len (.t 27)) 21 false [19,18,17,16,13,12,8,7,3,2,1,0,6,5,4,11,10,9],
 qe 29 (.bin .geq (.t 23) (.t 28)) 21 false [15,14,13,12,8,7,3,2,1,0,6,5,4,11,10,9,20,19,18,17,16],
 qd 30 (.pick (.t 21) qt (.t 29)) [13,12,8,7,3,2,1,0,6,5,4,11,10,9,21,15,14,20,19,18,17,16],
 qd 31 (.mv (.t 30)) [22,13,12,8,7,3,2,1,0,6,5,4,11,10,9,21,15,14,20,19,18,17,16],
 qe 32 (.aj 2 (.t 4)) 31 false [23,22,13,12,8,7,3,2,1,0,6,5,4,11,10,9,21,15,14,20,19,18,17,16],
 qe 33 (.ld1 (.t 32)) 31 false [24,23,22,13,12,8,7,3,2,1,0,6,5,4,11,10,9,21,15,14,20,19,18,17,16],
 qe 34 (.mv (.t 0)) 31 false [23,22,13,12,8,7,3,2,1,0,6,5,4,11,10,9,21,15,14,20,19,18,17,16],
 qe 35 (.aV (.t 34)) 31 false [26,23,22,13,12,8,7,3,2,1,0,6,5,4,11,10,9,21,15,14,20,19,18,17,16],
 qe 36 (.aj 12 (.t 35)) 31 false [27,26,23,22,13,12,8,7,3,2,1,0,6,5,4,11,10,9,21,15,14,20,19,18,17,16],
 qe 37 (.aj 5 (.t 36)) 31 false [28,27,26,23,22,13,12,8,7,3,2,1,0,6,5,4,11,10,9,21,15,14,20,19,18,17,16],
 qe 38 (.ld1 (.t 37)) 31 false [29,28,27,26,23,22,13,12,8,7,3,2,1,0,6,5,4,11,10,9,21,15,14,20,19,18,17,16],
 qe 39 (.bin .gtr (.t 33) (.t 38)) 31 false [25,24,23,22,13,12,8,7,3,2,1,0,6,5,4,11,10,9,21,15,14,20,19,18,17,16,30,29,28,27,26],
 qd 40 (.pick (.t 31) qt (.t 39)) [23,22,13,12,8,7,3,2,1,0,6,5,4,11,10,9,21,15,14,20,19,18,17,16,31,25,24,30,29,28,27,26]])
 (.cond (.t 40) (.seq (.af [qo 6 (.mv qf)])
 .ret)
 .skip))
 (.seq (.bQ [qm 41 0,
 qd 42 (.aV (.t 41)) [0],
 qd 43 (.aj 18 (.t 42)) [1,0],
 qd 44 (.ld1 (.t 43)) [2,1,0],
 qo 45 (.aj 0 (.t 4)),
 qd 46 (.ld1 (.t 45)) [4],
 qd 47 (.eG 26 (.t 44) (.t 46)) [3,2,1,0,5,4],
 qd 7 (.mv (.t 47)) [6,3,2,1,0,5,4]])
 (.seq (.seq (.bQ [qm 48 0,
 qd 49 (.aV (.t 48)) [0],
 qd 50 (.aj 12 (.t 49)) [1,0],
 qd 51 (.aj 0 (.t 50)) [2,1,0],
 qd 52 (.ld1 (.t 51)) [3,2,1,0],
 qo 53 (.aj 0 (.t 4)),
 qd 54 (.ld1 (.t 53)) [5],
 qd 55 (.eG 5 (.t 52) (.t 54)) [4,3,2,1,0,6,5],
 qd 56 (.aj 0 (.t 55)) [7,4,3,2,1,0,6,5],
 qd 57 (.ld1 (.t 56)) [8,7,4,3,2,1,0,6,5],
 qd 58 (.mv (.t 57)) [9,8,7,4,3,2,1,0,6,5],
 qe 59 (.mv (.t 7)) 58 true [10,9,8,7,4,3,2,1,0,6,5],
 qe 60 (.aV (.t 59)) 58 true [11,10,9,8,7,4,3,2,1,0,6,5],
 qe 61 (.aj 1 (.t 60)) 58 true [12,11,10,9,8,7,4,3,2,1,0,6,5],
 qe 62 (.ld1 (.t 61)) 58 true [13,12,11,10,9,8,7,4,3,2,1,0,6,5],
 qe 63 (.not (.t 62)) 58 true [14,13,12,11,10,9,8,7,4,3,2,1,0,6,5],
 qe 64 (.mv (.t 63)) 58 true [15,14,13,12,11,10,9,8,7,4,3,2,1,0,6,5],
 qe 65 (.aj 2 (.t 4)) 64 false [16,15,14,13,12,11,10,9,8,7,4,3,2,1,0,6,5],
 qe 66 (.ld1 (.t 65)) 64 false [17,16,15,14,13,12,11,10,9,8,7,4,3,2,1,0,6,5],
 qe 67 (.mv (.t 0)) 64 false [16,15,14,13,12,11,10,9,8,7,4,3,2,1,0,6,5],
 qe 68 (.aV (.t 67)) 64 false [19,16,15,14,13,12,11,10,9,8,7,4,3,2,1,0,6,5],
 qe 69 (.aj 12 (.t 68)) 64 false [20,19,16,15,14,13,12,11,10,9,8,7,4,3,2,1,0,6,5],
 qe 70 (.aj 5 (.t 69)) 64 false [21,20,19,16,15,14,13,12,11,10,9,8,7,4,3,2,1,0,6,5],
 qe 71 (.ld1 (.t 70)) 64 false [22,21,20,19,16,15,14,13,12,11,10,9,8,7,4,3,2,1,0,6,5],
 qe 72 (.bin .neq (.t 66) (.t 71)) 64 false [18,17,16,15,14,13,12,11,10,9,8,7,4,3,2,1,0,6,5,23,22,21,20,19],
 qe 73 (.pick (.t 64) qt (.t 72)) 58 true [16,15,14,13,12,11,10,9,8,7,4,3,2,1,0,6,5,24,18,17,23,22,21,20,19],
 qe 74 (.mv (.t 73)) 58 true [25,16,15,14,13,12,11,10,9,8,7,4,3,2,1,0,6,5,24,18,17,23,22,21,20,19],
 qe 75 (.aj 3 (.t 4)) 74 false [26,25,16,15,14,13,12,11,10,9,8,7,4,3,2,1,0,6,5,24,18,17,23,22,21,20,19],
 qe 76 (.ld1 (.t 75)) 74 false [27,26,25,16,15,14,13,12,11,10,9,8,7,4,3,2,1,0,6,5,24,18,17,23,22,21,20,19],
 qe 77 (.mv (.t 7)) 74 false [26,25,16,15,14,13,12,11,10,9,8,7,4,3,2,1,0,6,5,24,18,17,23,22,21,20,19],
 qe 78 (.aV (.t 77)) 74 false [29,26,25,16,15,14,13,12,11,10,9,8,7,4,3,2,1,0,6,5,24,18,17,23,22,21,20,19],
 qe 79 (.aj 0 (.t 78)) 74 false [30,29,26,25,16,15,14,13,12,11,10,9,8,7,4,3,2,1,0,6,5,24,18,17,23,22,21,20,19],
 qe 80 (.ld1 (.t 79)) 74 false [31,30,29,26,25,16,15,14,13,12,11,10,9,8,7,4,3,2,1,0,6,5,24,18,17,23,22,21,20,19],
 qe 81 (.bin .neq (.t 76) (.t 80)) 74 false [28,27,26,25,16,15,14,13,12,11,10,9,8,7,4,3,2,1,0,6,5,24,18,17,23,22,21,20,19,32,31,30,29],
 qe 82 (.pick (.t 74) qt (.t 81)) 58 true [26,25,16,15,14,13,12,11,10,9,8,7,4,3,2,1,0,6,5,24,18,17,23,22,21,20,19,33,28,27,32,31,30,29],
 qd 83 (.pick (.t 58) (.t 82) qf) [10,9,8,7,4,3,2,1,0,6,5,34,26,25,16,15,14,13,12,11,24,18,17,23,22,21,20,19,33,28,27,32,31,30,29]])
 (.cond (.t 83) (.seq (.af [qo 6 (.mv qf)])
 .ret)
 .skip))
 (.seq (.af [qm 84 7,
 qm 85 7,
 qo 86 (.bP 11 (.t 4)),
 qm 87 2,
 qo 88 (.aV (.t 84)),
 qo 89 (.aj 15 (.t 88)),
 qn (.st 11 (.t 89) (.t 86)),
 qo 90 (.aV (.t 85)),
 qo 91 (.aj 14 (.t 90)),
 qn (.st 1 (.t 91) (.t 87))])
 (.seq (.af [qo 6 (.mv qt)])
 .ret)))))),
[(.t 6)])
theorem sZ:aq Tryz.prog Tryz.f45=some DK:=by kernel_rfl
def aQ.Sg (x:aQ) (m:dc):Bool:=decide (m.kind=6)&&decide (0≤m.node)&&decide (m.node<x.lines.length)&&decide (m.term≤x.s.term)
def aQ.PB (x:aQ) (m:dc):Bool:=(dm x.s m.node.toNat).up&&(!(x.lines.getD m.node.toNat eF).has||m.term !=x.s.term||m.gen !=(x.lines.getD m.node.toNat eF).gen)
def aQ.Fz (x:aQ) (m:dc):Bool:=x.Sg m&&!x.PB m
def aQ.wo (x:aQ) (m:dc) (now:Int):aQ:=if x.Fz m=true then { x with lines:=x.lines.set m.node.toNat { (x.lines.getD m.node.toNat eF) with report:=m,heard:=now } } else x
set_option maxHeartbeats 4000000 in
theorem KI (x:aQ) (hd:x.down=false) (uQ:x.lines.length=x.s.nodes.length) (m:dc) (now:Int):bw Tryz.prog G 45 [.ptr 0 0,vU m,.int now] (bH x) (.bool (x.Fz m)) (bH (x.wo m now)):=by
 have ha:=mI (G:=G) x
 rw [hd] at ha
 obtain ⟨q0,q1,q2,q3,q4,q5,q6,q7,q8,q9,U3⟩:=m
 unfold aQ.wo aQ.Fz aQ.Sg aQ.PB
 dsimp only
 simp only [bH,dz,aX,List.cons_append,List.nil_append] at ha
 by_cases k1:q1=6
 case neg=>
  simp only [k1,decide_false,Bool.false_and,Bool.false_eq_true,if_false]
  refine aR Tryz.func45 (by decide) sZ rfl rfl (bS _ (Nat.le_refl 8) _) rfl ?_
  simp only [bH,dz,aX,DK,go_sem,simprocAttr]
  refine er [0,1,2,3,4,5,6,7] (ha) rfl ?_ (by decide) ?_ ?_ ?_ <;> simp only [ah,ai,go_sem,simprocAttr,bA,bN,aP,bh]
  simp only [show (q1 !=6)=true from bne_iff_ne.2 k1,go_sem,simprocAttr]
 have b1:(q1 !=6)=false:=by rw [k1]; rfl
 by_cases k2:0≤q0
 case neg=>
  simp only [k1,k2,decide_true,decide_false,Bool.false_and,Bool.true_and,Bool.false_eq_true,if_false]
  refine aR Tryz.func45 (by decide) sZ rfl rfl (bS _ (Nat.le_refl 8) _) rfl ?_
  simp only [bH,dz,aX,DK,go_sem,simprocAttr]
  refine er [0,1,2,3,4,5,6,7] (ha) rfl ?_ (by decide) ?_ ?_ ?_ <;> simp only [ah,ai,go_sem,simprocAttr,bA,bN,aP,bh]
  simp only [decide_eq_true (show q0<0 by omega),go_sem,simprocAttr]
 by_cases k3:q0<x.lines.length
 case neg=>
  simp only [k1,k2,k3,decide_true,decide_false,Bool.false_and,Bool.true_and,Bool.false_eq_true,if_false]
  refine aR Tryz.func45 (by decide) sZ rfl rfl (bS _ (Nat.le_refl 8) _) rfl ?_
  simp only [bH,dz,aX,DK,go_sem,simprocAttr]
  refine er [0,1,2,3,4,5,6,7] (ha) rfl ?_ (by decide) ?_ ?_ ?_ <;> simp only [ah,ai,go_sem,simprocAttr,bA,bN,aP,bh]
  simp only [decide_eq_false (show ¬ q0<0 by omega),decide_eq_true (show q0≥(x.lines.length:Nat) by omega),go_sem,simprocAttr]
 by_cases k4:q2≤x.s.term
 case neg=>
  simp only [k1,k2,k3,k4,decide_true,decide_false,Bool.false_and,Bool.true_and,Bool.false_eq_true,if_false]
  refine aR Tryz.func45 (by decide) sZ rfl rfl (bS _ (Nat.le_refl 8) _) rfl ?_
  simp only [bH,dz,aX,DK,go_sem,simprocAttr]
  refine er [0,1,2,3,4,5,6,7] (ha) rfl ?_ (by decide) ?_ ?_ ?_ <;> simp only [ah,ai,go_sem,simprocAttr,bA,bN,aP,bh]
  simp only [decide_eq_false (show ¬ q0<0 by omega),decide_eq_false (show ¬ q0≥(x.lines.length:Nat) by omega),decide_eq_true (show q2>x.s.term by omega),go_sem,simprocAttr]
 obtain ⟨i,rfl⟩:∃ i:Nat,q0=i:=⟨q0.toNat,by omega⟩
 have hi:i<x.lines.length:=by omega
 have hin:i<x.s.nodes.length:=by omega
 have hg:=aL (f:=lW) eF hi
 have Ag:=aL (f:=ck) ag hin
 have s7:∀ v,((x.lines.map lW).set i v)[i]? = some v:=fun v=>List.getElem?_set_self (by simpa using hi)
 simp only [k1,k2,k3,k4,decide_true,Bool.true_and,Int.toNat_natCast]
 have hN:dm x.s i=x.s.nodes.getD i ag:=rfl
 rw [hN]
 generalize x.s.nodes.getD i ag=n at *
 generalize x.lines.getD i eF=l at *
 obtain ⟨up,co,mo,ve,jo⟩:=n
 obtain ⟨lg,lhs,⟨p0,p1,p2,p3,p4,p5,p6,p7,p8,p9,p10⟩,ls,le,⟨r0,r1,r2,r3,r4,r5,r6,r7,r8,r9,X2⟩⟩:=l
 simp only [lW,kV,List.cons_append,List.nil_append] at hg
 simp only [ck] at Ag
 have g1:=decide_eq_false (show ¬ ((i:Nat):Int)<0 by omega)
 have g2:=decide_eq_false (show ¬ ((i:Nat):Int)≥(x.lines.length:Nat) by omega)
 have g3:=decide_eq_false (show ¬ q2>x.s.term by omega)
 cases hst:(up&&(!lhs||q2 !=x.s.term||q3 !=lg)) with
 | true=>
   simp only [Bool.not_true,Bool.false_eq_true,if_false]
   refine aR Tryz.func45 (by decide) sZ rfl rfl (bS _ (Nat.le_refl 8) _) rfl ?_
   simp only [bH,dz,aX,DK,go_sem,simprocAttr]
   refine er [0,1,2,3,4,5,6,7] (ha) rfl ?_ (by decide) ?_ ?_ ?_ <;> simp only [ah,ai,go_sem,simprocAttr,bA,bN,aP,bh]
   simp only [g1,g2,g3,hi,Ag,go_sem,simprocAttr]
   cases up with
   | false=>simp at hst
   | true=>
   cases lhs with
   | false=>
     simp only [hg,go_sem,simprocAttr]
     (repeat (refine av rfl ?_; (try simp only [hi,hin,hg,Ag,s7,lW,List.map_set,List.length_set,List.set_set,go_sem,simprocAttr])))
   | true=>
   cases t1:(q2 !=x.s.term) with
   | true=>
     simp only [t1,hg,go_sem,simprocAttr]
     (repeat (refine av rfl ?_; (try simp only [hi,hin,hg,Ag,s7,lW,List.map_set,List.length_set,List.set_set,go_sem,simprocAttr])))
   | false=>
   cases t2:(q3 !=lg) with
   | true=>
     simp only [t1,t2,hg,go_sem,simprocAttr]
     (repeat (refine av rfl ?_; (try simp only [hi,hin,hg,Ag,s7,lW,List.map_set,List.length_set,List.set_set,go_sem,simprocAttr])))
   | false=>simp [t1,t2] at hst
 | false=>
   simp only [Bool.not_false,if_true]
   refine aR Tryz.func45 (by decide) sZ rfl rfl (bS _ (Nat.le_refl 8) _) rfl ?_
   simp only [bH,dz,aX,List.length_set,DK,go_sem,simprocAttr]
   refine er [0,1,2,3,4,5,6,7] (ha) rfl ?_ (by decide) ?_ ?_ ?_ <;> simp only [ah,ai,go_sem,simprocAttr,bA,bN,aP,bh]
   simp only [g1,g2,g3,hi,Ag,go_sem,simprocAttr]
   cases up with
   | false=>
     simp only [hg,s7,lW,List.map_set,List.length_set,List.set_set,go_sem,simprocAttr]
     (repeat (refine av rfl ?_; (try simp only [hi,hin,hg,Ag,s7,lW,List.map_set,List.length_set,List.set_set,go_sem,simprocAttr])))
   | true=>
   cases lhs with
   | false=>simp at hst
   | true=>
   cases t1:(q2 !=x.s.term) with
   | true=>simp [t1] at hst
   | false=>
   cases t2:(q3 !=lg) with
   | true=>simp [t1,t2] at hst
   | false=>
     simp only [t1,t2,hg,s7,lW,List.map_set,List.length_set,List.set_set,go_sem,simprocAttr]
     (repeat (refine av rfl ?_; (try simp only [hi,hin,hg,Ag,s7,lW,List.map_set,List.length_set,List.set_set,go_sem,simprocAttr])))
end Dv
namespace Dv
open Go Go.Proofs
variable {G:Nat→Option (List DV)}
def Rf:Nat×C×List RV:=(26,
(.seq (.af [qo 1 (.box 87 (.t 0)),
 qo 2 (.mv (.c (.val (.slice none 0 0))))])
 (.seq (.af [qo 3 (.aj 0 (.t 1)),
 qo 4 (.ld1 (.t 3)),
 qo 5 (.aj 1 (.t 1)),
 qo 6 (.ld1 (.t 5)),
 qo 7 (.aj 2 (.t 1)),
 qo 8 (.ld1 (.t 7)),
 qo 9 (.aj 3 (.t 1)),
 qo 10 (.ld1 (.t 9)),
 qo 11 (.aj 4 (.t 1)),
 qo 12 (.ld1 (.t 11)),
 qo 13 (.aj 5 (.t 1)),
 qo 14 (.ld1 (.t 13)),
 qo 15 (.aj 6 (.t 1)),
 qo 16 (.ld1 (.t 15)),
 qo 17 (.aj 7 (.t 1)),
 qo 18 (.ld1 (.t 17)),
 qo 19 (.aj 8 (.t 1)),
 qo 20 (.ld1 (.t 19)),
 qo 21 (.aj 9 (.t 1)),
 qo 22 (.ld1 (.t 21)),
 qo 23 (.aj 10 (.t 1)),
 qo 24 (.ld1 (.t 23)),
 qo 25 (.nh 3 1 [(.t 4),(.t 6),(.t 8),(.t 10),(.t 12),(.t 14),(.t 16),(.t 18),(.t 20),(.t 22),(.t 24)]),
 qm 2 25])
 .ret)),
[(.t 2)])
theorem NH:aq Tryz.prog Tryz.f193=some Rf:=by kernel_rfl
def R1:Nat×C×List RV:=(38,
(.seq (.af [qo 1 (.box 87 (.t 0)),
 qo 2 (.mv qf)])
 (.seq (.af [qo 5 (.bP 11 (.t 1)),
 qo 6 (.call (.f 193) [(.t 5)]),
 qm 3 6])
 (.seq (.seq (.af [qo 4 (.mv (qk 0))])
 (.block 0 (.loop (.seq (.seq (.af [qm 7 4,
 qm 8 3,
 qo 9 (.len (.t 8)),
 qo 10 (.bin .lss (.t 7) (.t 9))])
 (.cond (.t 10) .skip
 (.exit 0)))
 (.seq (.block 1 (.seq (.af [qm 13 3,
 qm 14 4,
 qo 15 (.eG 1 (.t 13) (.t 14)),
 qo 16 (.ld1 (.t 15)),
 qo 17 (.bin .lss (.t 16) (qk 0)),
 qm 18 17,
 qg 19 (.mv (.t 3)) 18 false,
 qg 20 (.mv (.t 4)) 18 false,
 qg 21 (.eG 1 (.t 19) (.t 20)) 18 false,
 qg 22 (.ld1 (.t 21)) 18 false,
 qg 23 (.bin .gtr (.t 22) (qk 1000000)) 18 false,
 qo 24 (.pick (.t 18) qt (.t 23))])
 (.cond (.t 24) (.seq (.af [qo 2 (.mv qf)])
 .ret)
 .skip)))
 (.af [qm 11 4,
 qo 12 (.bin .add (.t 11) (qk 1)),
 qm 4 12]))))))
 (.seq (.af [qo 25 (.aj 0 (.t 1)),
 qo 26 (.ld1 (.t 25)),
 qo 27 (.bin .leq (.t 26) (qk 5)),
 qm 28 27,
 qg 29 (.aj 1 (.t 1)) 28 true,
 qg 30 (.ld1 (.t 29)) 28 true,
 qg 31 (.bin .geq (.t 30) (qk 1)) 28 true,
 qo 32 (.pick (.t 28) (.t 31) qf),
 qm 33 32,
 qg 34 (.aj 1 (.t 1)) 33 true,
 qg 35 (.ld1 (.t 34)) 33 true,
 qg 36 (.bin .leq (.t 35) (qk 6)) 33 true,
 qo 37 (.pick (.t 33) (.t 36) qf),
 qm 2 37])
 .ret)))),
[(.t 2)])
theorem OE:aq Tryz.prog Tryz.f111=some R1:=by kernel_rfl
def Vy:Nat×C×List RV:=(58,
(.seq (.af [qo 2 (.box 23 (.t 0)),
 qo 4 (.mv qf)])
 (.seq (.seq (.af [qm 6 1,
 qo 7 (.len (.t 6)),
 qo 8 (.bin .gtr (.t 7) (qk 60)),
 qm 9 8,
 qg 10 (.bP 9 (.t 2)) 9 false,
 qg 11 (.call (.f 14) [(.t 10)]) 9 false,
 qg 12 (.not (.t 11)) 9 false,
 qo 13 (.pick (.t 9) qt (.t 12)),
 qm 14 13,
 qg 15 (.aj 8 (.t 2)) 14 false,
 qg 16 (.ld1 (.t 15)) 14 false,
 qg 17 (.bin .gtr (.t 16) (qk 4000)) 14 false,
 qo 18 (.pick (.t 14) qt (.t 17))])
 (.cond (.t 18) (.seq (.af [qo 4 (.mv qf)])
 .ret)
 .skip))
 (.seq (.seq (.af [qo 5 (.mv (qk 0))])
 (.block 0 (.loop (.seq (.seq (.af [qm 19 5,
 qm 20 1,
 qo 21 (.len (.t 20)),
 qo 22 (.bin .lss (.t 19) (.t 21))])
 (.cond (.t 22) .skip
 (.exit 0)))
 (.seq (.block 1 (.seq (.af [qm 25 1,
 qm 26 5,
 qo 27 (.eG 26 (.t 25) (.t 26)),
 qo 28 (.aj 1 (.t 27)),
 qo 29 (.ld1 (.t 28)),
 qo 30 (.bin .lss (.t 29) (qk 0)),
 qm 31 30,
 qg 32 (.mv (.t 1)) 31 false,
 qg 33 (.mv (.t 5)) 31 false,
 qg 34 (.eG 26 (.t 32) (.t 33)) 31 false,
 qg 35 (.aj 1 (.t 34)) 31 false,
 qg 36 (.ld1 (.t 35)) 31 false,
 qg 37 (.bin .gtr (.t 36) (qk 1000000)) 31 false,
 qo 38 (.pick (.t 31) qt (.t 37)),
 qm 39 38,
 qg 40 (.mv (.t 1)) 39 false,
 qg 41 (.mv (.t 5)) 39 false,
 qg 42 (.eG 26 (.t 40) (.t 41)) 39 false,
 qg 43 (.aj 10 (.t 42)) 39 false,
 qg 44 (.bP 11 (.t 43)) 39 false,
 qg 45 (.call (.f 111) [(.t 44)]) 39 false,
 qg 46 (.not (.t 45)) 39 false,
 qo 47 (.pick (.t 39) qt (.t 46)),
 qm 48 47,
 qg 49 (.mv (.t 1)) 48 false,
 qg 50 (.mv (.t 5)) 48 false,
 qg 51 (.eG 26 (.t 49) (.t 50)) 48 false,
 qg 52 (.aj 21 (.t 51)) 48 false,
 qg 53 (.aj 4 (.t 52)) 48 false,
 qg 54 (.ld1 (.t 53)) 48 false,
 qg 55 (.len (.t 54)) 48 false,
 qg 56 (.bin .gtr (.t 55) (qk 200)) 48 false,
 qo 57 (.pick (.t 48) qt (.t 56))])
 (.cond (.t 57) (.seq (.af [qo 4 (.mv qf)])
 .ret)
 .skip)))
 (.af [qm 23 5,
 qo 24 (.bin .add (.t 23) (qk 1)),
 qm 5 24]))))))
 (.seq (.af [qo 4 (.mv qt)])
 .ret)))),
[(.t 4)])
theorem Ti:aq Tryz.prog Tryz.f41=some Vy:=by kernel_rfl
def gW (m:dc):List Int:=[m.node,m.kind,m.term,m.gen,m.aN,m.inc,m.version,m.epoch,m.til,m.mode,m.work]
def yN (l:List Int):List (List DV):=l.map fun n=>[i64 n]
theorem xI (m:dc):bw Tryz.prog G 193 [vU m] [] (.d (.dY 1 (yN (gW m)))) []:=by
 refine cG Tryz.func193 (by decide) NH rfl ?_
 simp only [Rf,go_sem,simprocAttr]
 exact dL [1] rfl (by simp [St.obj,aB]) (by simp [St.obj,aB,aW,St.get,bx,ai,bE,gW,yN,List.take_of_length_le])
def tT (n:Int):Bool:=decide (0≤n)&&decide (n≤1000000)
def sJ (m:dc):Bool:=(gW m).all tT&&decide (m.node≤5)&&decide (1≤m.kind)&&decide (m.kind≤6)
def zD (m:dc) (k:Nat):St:=⟨[(1,.ptr 0 0),(2,.bool false),(3,.d (.dY 1 (yN (gW m)))),(4,.int k)],[some (.box 87 [.int m.node,.int m.kind,.int m.term,.int m.gen,.int m.aN,.int m.inc,.int m.version,.int m.epoch,.int m.til,.int m.mode,.int m.work])]⟩
theorem Bd (m:dc):bw Tryz.prog G 111 [vU m] [] (.bool (sJ m)) []:=by
 have hn:=xI (G:=G) m
 refine bn Tryz.func111 (by decide) OE rfl rfl ?_
 simp only [R1,go_sem,simprocAttr]
 refine aC (hn) rfl rfl rfl rfl ?_; simp only [go_sem,simprocAttr]
 refine aY [1,2,3,4] [] (fun k:Nat=>k≤11∧((gW m).take k).all tT=true) (fun k=>11-k) (zD m) 0 ?_ ⟨Nat.zero_le _,rfl⟩ (fun k hk=>?_)
 ·simp only [zD,Int.natCast_zero,go_sem,simprocAttr]
 obtain ⟨hk,hall⟩:=hk
 have hlen:(gW m).length=11:=rfl
 have hlr:(yN (gW m)).length=11:=by simp [yN,gW]
 simp only [zD,hlr,go_sem,simprocAttr]
 by_cases hlt:k<11
 ·have hg:(yN (gW m))[k]? = some [i64 ((gW m).getD k 0)]:=aL (f:=fun n:Int=>[i64 n]) 0 (show k<(gW m).length by omega)
  have htk:(gW m).take (k+1)=(gW m).take k++[(gW m).getD k 0]:=by rw [List.take_add_one]; simp [List.getD,hlen,hlt]
  have hmem:(gW m).getD k 0∈gW m:=by
   rw [List.getD,List.getElem?_eq_getElem (by omega)]; exact List.getElem_mem _
  generalize (gW m).getD k 0=v at *
  simp only [decide_eq_true (show ((k:Nat):Int)<11 by omega),show (11:Int)=((11:Nat):Int) from rfl,go_sem,simprocAttr]
  simp only [hg,go_sem,simprocAttr]
  have wj:tT v=false→sJ m=false:=fun h=>by
   unfold sJ
   rw [show (gW m).all tT=false from List.all_eq_false.2 ⟨v,hmem,by rw [h]; decide⟩]
   rfl
  by_cases h0:v<0
  ·rw [wj (by unfold tT; rw [decide_eq_false (by omega)]; rfl)]
   simp only [decide_eq_true h0,go_sem,simprocAttr]
  by_cases h1:v>1000000
  ·rw [wj (by unfold tT; rw [decide_eq_false (show ¬ v≤1000000 by omega),Bool.and_false])]
   simp only [decide_eq_false h0,decide_eq_true h1,hg,go_sem,simprocAttr]
  simp only [decide_eq_false h0,decide_eq_false h1,hg,go_sem,simprocAttr]
  refine bz (k+1) ?_ ?_ ⟨show k+1≤11 by omega,by
   rw [htk,List.all_append,hall]
   simp [tT]
   omega⟩ (show 11-(k+1)<11-k by omega)
  ·simp only [go_sem,simprocAttr]
  ·simp only [zD,aG (show k<9223372036854775807 by omega),go_sem,simprocAttr]
 obtain rfl:k=11:=by omega
 have WQ:(gW m).all tT=true:=by rw [List.take_of_length_le (by omega)] at hall; exact hall
 unfold sJ
 rw [WQ]
 simp only [show (11:Int)=((11:Nat):Int) from rfl,go_sem,simprocAttr]
 by_cases h5:m.node≤5
 ·by_cases h1:1≤m.kind
  ·simp only [decide_eq_true h5,decide_eq_true h1,go_sem,simprocAttr]
  ·simp only [decide_eq_true h5,decide_eq_false h1,go_sem,simprocAttr]
 ·simp only [decide_eq_false h5,go_sem,simprocAttr]
structure tE where
 kind:Int
 now:Int
 keep:Int
 o:cH
 m:dc
 sk:Int
 st:Int
 sj:Int
 se:Int
 sd:List Int
def EE (a:tE):List DV:=[i64 a.kind,i64 a.now,i64 a.keep]++(U6 a.o++(kV a.m++[i64 a.sk,i64 a.st,i64 a.sj,i64 a.se,.dY 1 (aA a.sd)]))
def Cx:tE:=⟨0,0,0,gh,gO,0,0,0,0,[]⟩
def kK (l:List tE):LV:=.d (.dY 26 (l.map EE))
def xW (a:tE):Bool:=decide (0≤a.now)&&decide (a.now≤1000000)&&sJ a.m&&decide (a.sd.length≤200)
def K3 (c:aH) (l:List tE):Bool:=decide (l.length≤60)&&gL c&&decide (c.fG≤4000)&&l.all xW
def O7 (c:aH) (l:List tE) (k:Nat):St:=⟨[(1,kK l),(2,.ptr 0 0),(4,.bool false),(5,.int k)],[some (.box 23 [.int c.nodes,.int c.bG,.int c.cD,.int c.wave,.int c.b_,.int c.eE,.int c.deadline,.int c.room,.int c.fG])]⟩
set_option maxHeartbeats 2000000 in
theorem O5 (c:aH) (l:List tE):bw Tryz.prog G 41 [gK c,kK l] [] (.bool (K3 c l)) []:=by
 have hmay:=JK (G:=G) c
 refine bn Tryz.func41 (by decide) Ti rfl rfl ?_
 simp only [Vy,go_sem,simprocAttr]
 simp only [kK,go_sem,simprocAttr]
 unfold K3
 by_cases h1:l.length≤60
 case neg=>simp only [decide_eq_true (show ((l.length:Nat):Int)>60 by omega),decide_eq_false h1,go_sem,simprocAttr]
 simp only [decide_eq_false (show ¬ ((l.length:Nat):Int)>60 by omega),decide_eq_true h1,go_sem,simprocAttr]
 refine aC (hmay) rfl rfl rfl rfl ?_; simp only [go_sem,simprocAttr]
 cases hm:gL c with
 | false=>simp only [go_sem,simprocAttr]
 | true=>
 by_cases h2:c.fG≤4000
 case neg=>simp only [decide_eq_true (show c.fG>4000 by omega),decide_eq_false h2,go_sem,simprocAttr]
 simp only [decide_eq_false (show ¬ c.fG>4000 by omega),decide_eq_true h2,go_sem,simprocAttr]
 refine aY [1,2,4,5] [] (fun k:Nat=>k≤l.length∧(l.take k).all xW=true) (fun k=>l.length-k) (O7 c l) 0 ?_ ⟨Nat.zero_le _,rfl⟩ (fun k hk=>?_)
 ·simp only [O7,kK,Int.natCast_zero,go_sem,simprocAttr]
 obtain ⟨hk,hall⟩:=hk
 simp only [O7,kK,go_sem,simprocAttr]
 by_cases hlt:k<l.length
 case neg=>
  obtain rfl:k=l.length:=by omega
  rw [List.take_length] at hall
  rw [hall]
  simp only [decide_eq_false (show ¬ ((l.length:Nat):Int)<((l.length:Nat):Int) by omega),go_sem,simprocAttr]
 have hg:=aL (f:=EE) Cx hlt
 have htk:l.take (k+1)=l.take k++[l.getD k Cx]:=by rw [List.take_add_one]; simp [List.getD,hlt]
 have hmem:l.getD k Cx∈l:=by rw [List.getD,List.getElem?_eq_getElem hlt]; exact List.getElem_mem _
 generalize l.getD k Cx=a at *
 have wj:xW a=false→l.all xW=false:=fun h=>List.all_eq_false.2 ⟨a,hmem,by rw [h]; decide⟩
 have hR:=Bd (G:=G) a.m
 simp only [EE,U6,kV,List.cons_append,List.nil_append] at hg
 simp only [decide_eq_true (show ((k:Nat):Int)<((l.length:Nat):Int) by omega),hg,go_sem,simprocAttr]
 by_cases e0:a.now<0
 ·rw [wj (by unfold xW; rw [decide_eq_false (show ¬ 0≤a.now by omega)]; rfl)]
  simp only [decide_eq_true e0,go_sem,simprocAttr]
 by_cases e1:a.now>1000000
 ·rw [wj (by unfold xW; rw [decide_eq_false (show ¬ a.now≤1000000 by omega),Bool.and_false]; rfl)]
  simp only [decide_eq_false e0,decide_eq_true e1,hg,go_sem,simprocAttr]
 simp only [decide_eq_false e0,decide_eq_false e1,hg,go_sem,simprocAttr]
 refine aC (hR) rfl rfl rfl rfl ?_; simp only [go_sem,simprocAttr]
 cases hr:sJ a.m with
 | false=>
   rw [wj (by unfold xW; rw [hr,Bool.and_false]; rfl)]
   simp only [go_sem,simprocAttr]
 | true=>
 have Aj:(aA a.sd).length=a.sd.length:=az _
 simp only [hg,Aj,go_sem,simprocAttr]
 by_cases e2:a.sd.length≤200
 ·simp only [decide_eq_false (show ¬ ((a.sd.length:Nat):Int)>200 by omega),go_sem,simprocAttr]
  refine bz (k+1) ?_ ?_ ⟨show k+1≤l.length by omega,by
   rw [htk,List.all_append,hall]
   simp [xW,hr,e2]
   omega⟩ (show l.length-(k+1)<l.length-k by omega)
  ·simp only [go_sem,simprocAttr]
  ·simp only [O7,kK,aG (show k<9223372036854775807 by omega),go_sem,simprocAttr]
 ·rw [wj (by unfold xW; rw [decide_eq_false e2,Bool.and_false])]
  simp only [decide_eq_true (show ((a.sd.length:Nat):Int)>200 by omega),go_sem,simprocAttr]
theorem O6 {c:aH} {l:List tE} (h:K3 c l=true):l.length≤60∧gL c=true∧c.fG≤4000∧∀ a∈l,0≤a.now∧a.now≤1000000:=by
 unfold K3 at h
 simp only [Bool.and_eq_true,decide_eq_true_eq] at h
 refine ⟨h.1.1.1,h.1.1.2,h.1.2,fun a ha=>?_⟩
 have:=List.all_eq_true.1 h.2 a ha
 unfold xW at this
 simp only [Bool.and_eq_true,decide_eq_true_eq] at this
 exact ⟨this.1.1.1,this.1.1.2⟩
end Dv
namespace Dv
open Go Go.Proofs
structure dO (c:aH) (k:Nat) (x:aQ):Prop where
 ok:Ig x
 cf:x.c=c
 dn:x.down=false
 hr:∀ l∈x.lines,0≤l.heard∧l.heard≤1000000
 sz:∀ i,i<25→x.sh.getD i kY=kY
 nt:0≤x.cr∧x.cr≤k
theorem dO.more {c:aH} {k k':Nat} {x:aQ} (h:dO c k x) (hk:k≤k'):dO c k' x:=⟨h.ok,h.cf,h.dn,h.hr,h.sz,by have:=h.nt; omega⟩
theorem Pg (ep:Int):gx kY ep=kY:=by
 unfold gx
 split <;> rfl
theorem UW {sh:List ni} (h:∀ i,i<25→sh.getD i kY=kY) (j:Nat):∀ i,i<25→(sh.set j kY).getD i kY=kY:=by
 intro i hi
 have:=h i hi
 simp only [List.getD,List.getElem?_set] at *
 split
 ·split <;> rfl
 ·exact this
theorem dO.note {c:aH} {k:Nat} {x:aQ} (h:dO c k x) (hk:k≤1000) (o:cH) {now:Int} (hn:0≤now∧now≤1000000):dO c (k+1) (x.eu o now):=by
 refine ⟨h.ok.note o now,by rw [E8]; exact h.cf,by rw [Dt]; exact h.dn,?_,?_,?_⟩
 ·unfold aQ.eu
  split
  ·intro l hl
   change l∈kJ now o x.lines at hl
   unfold kJ at hl
   split at hl
   ·rcases List.mem_or_eq_of_mem_set hl with hl | rfl
    ·exact h.hr l hl
    ·show 0≤(if o.kind=8 then now else (x.lines.getD o.a.toNat eF).heard)∧(if o.kind=8 then now else (x.lines.getD o.a.toNat eF).heard)≤1000000
     split
     ·exact hn
     ·by_cases hlt:o.a.toNat<x.lines.length
      ·exact h.hr _ (by rw [List.getD,List.getElem?_eq_getElem hlt]; exact List.getElem_mem hlt)
      ·rw [List.getD,List.getElem?_eq_none (by omega)]
       exact ⟨Int.le_refl _,by show (0:Int)≤_; omega⟩
   ·exact h.hr l hl
  ·exact h.hr
 ·unfold aQ.eu
  split
  ·intro i hi
   show (g_ o x.sh).getD i kY=kY
   unfold g_
   split
   ·by_cases ha:o.a.toNat<25
    ·rw [h.sz _ ha,Pg]; exact UW h.sz _ i hi
    ·rw [List.set_eq_of_length_le (by have:=h.ok.sh; omega)]; exact h.sz i hi
   split
   ·exact UW h.sz _ i hi
   ·exact h.sz i hi
  ·exact h.sz
 ·have:=h.nt
  unfold aQ.eu
  split
  ·show 0≤IntKind.i64.wrap (x.cr+1)∧IntKind.i64.wrap (x.cr+1)≤((k+1:Nat):Int)
   rw [aO (by omega) (by omega)]
   omega
  ·show 0≤x.cr∧x.cr≤((k+1:Nat):Int)
   omega
theorem AY (x:aQ) (q:Option dc) (now:Int) (l:lS):(lq x q now l).1.heard=l.heard:=by
 unfold lq
 split
 ·rfl
 ·split
  ·rfl
  split <;> rfl
theorem dO.PA {c:aH} {k:Nat} {y:aQ} (h:dO c k y) (had:Int→Int) (now:Int):∀ j,dO c k (cI y had now j).1
 | 0=>h
 | j+1=>by
   have ih:=dO.PA h had now j
   refine ⟨⟨ih.ok.right,ih.ok.jn,ih.ok.sh,?_⟩,ih.cf,ih.dn,?_,ih.sz,ih.nt⟩
   ·show (List.set _ _ _).length=_
    rw [List.length_set]
    exact ih.ok.lines
   ·intro l hl
    change l∈(cI y had now j).1.lines.set j _ at hl
    rcases List.mem_or_eq_of_mem_set hl with hl | rfl
    ·exact ih.hr l hl
    ·rw [AY]
     by_cases hlt:j<(cI y had now j).1.lines.length
     ·exact ih.hr _ (by rw [List.getD,List.getElem?_eq_getElem hlt]; exact List.getElem_mem hlt)
     ·rw [List.getD,List.getElem?_eq_none (by omega)]
      exact ⟨Int.le_refl _,by show (0:Int)≤_; omega⟩
theorem dO.YP {c:aH} {k:Nat} {x:aQ} (h:dO c k x) (m:dc) {now:Int} (hn:0≤now∧now≤1000000):dO c k (x.wo m now)∧(x.wo m now).s=x.s∧(x.wo m now).cr=x.cr:=by
 unfold aQ.wo
 split
 ·refine ⟨⟨⟨h.ok.right,h.ok.jn,h.ok.sh,?_⟩,h.cf,h.dn,?_,h.sz,h.nt⟩,rfl,rfl⟩
  ·show (List.set _ _ _).length=_
   rw [List.length_set]
   exact h.ok.lines
  ·intro l hl
   rcases List.mem_or_eq_of_mem_set hl with hl | rfl
   ·exact h.hr l hl
   ·exact hn
 ·exact ⟨h,rfl,rfl⟩
theorem vO {c:aH} {x:aQ} (hc:x.c=c) (o:cH) (now:Int):(x.e_ o=0∧bO c x.s o=((x.eu o now).s,0)∧(x.eu o now).cr=IntKind.i64.wrap (x.cr+1)∧o.kind≠0)∨(x.e_ o≠0∧(x.eu o now).s=x.s∧(x.eu o now).cr=x.cr):=by
 subst hc
 by_cases h:x.e_ o=0
 ·have h1:=(wF h).1
  refine .inl ⟨h,?_,?_,?_⟩
  ·have:(x.eu o now).s=(bO x.c x.s o).1:=by unfold aQ.eu; rw [if_pos h]
   rw [this,← h1]
  ·unfold aQ.eu; rw [if_pos h]
  ·intro hk
   have hq:gH o=false:=by unfold gH; rw [hk]; rfl
   unfold bO xV at h1
   rw [if_pos hq] at h1
   split at h1 <;> cases h1
 ·exact .inr ⟨h,by unfold aQ.eu; rw [if_neg h],by unfold aQ.eu; rw [if_neg h]⟩
theorem Ib {c:aH} {x:aQ} (hc:x.c=c) (now:Int) (u p:Option cH):(bO c x.s (x.EF now u p)=((x.iJ now u p).s,0)∧(x.iJ now u p).cr=IntKind.i64.wrap (x.cr+1)∧(x.EF now u p).kind≠0)∨(x.EF now u p=gh∧(x.iJ now u p).s=x.s∧(x.iJ now u p).cr=x.cr):=by
 unfold aQ.EF aQ.iJ
 cases x.iS now u p with
 | none=>exact .inr ⟨rfl,rfl,rfl⟩
 | some o=>
   dsimp only
   rcases vO hc o now with ⟨h,h1,h2,h3⟩ | ⟨h,h1,h2⟩
   ·rw [if_pos h]; exact .inl ⟨h1,h2,h3⟩
   ·rw [if_neg h]; exact .inr ⟨rfl,h1,h2⟩
theorem dO.act {c:aH} {k:Nat} {x:aQ} (h:dO c k x) (hk:k≤1000) {now:Int} (hn:0≤now∧now≤1000000) (u p:Option cH):dO c (k+1) (x.iJ now u p):=by
 unfold aQ.iJ
 split
 ·exact h.note hk _ hn
 ·exact h.more (Nat.le_succ _)
theorem Hp {c:aH} {k:Nat} {x:aQ} (h:dO c k x) (hk:k≤1000) {now:Int} (hn:0≤now∧now≤1000000):∃ o y ms,bw Tryz.prog dI 44 [.ptr 0 0,.int now] (bH x) (.dP [uN o,iu ms]) (bH y)∧dO c (k+1) y∧
  ((bO c x.s o=(y.s,0)∧y.cr=IntKind.i64.wrap (x.cr+1)∧o.kind≠0)∨(o=gh∧y.s=x.s∧y.cr=x.cr)):=by
 have uQ:=h.ok.lines
 have XF:=h.ok.right.len
 have hlj:=h.ok.right.jobs
 have hA:=h.act hk hn (tf x.s (x.oS x.lines.length) now) (tQ x.c x.s now)
 have hcs:=Ib h.cf now (tf x.s (x.oS x.lines.length) now) (tQ x.c x.s now)
 have hT:=Pq x h.ok h.dn now hn h.hr (tf x.s (x.oS x.lines.length) now) (tQ x.c x.s now) (xR x.s _ now (by omega) (by omega)) (Jb x.c x.s h.ok.right now hn) (fun _=>0) (fun i hi=>by
  have hr:=hA.ok.right
  have aac:=hr.jobs
  refine Gx _ _ hr _ i (by rw [← hA.ok.lines]; exact hi) _ _ _ _ (fun j hj=>?_)
  exact KN _ (by omega) _ _ _ _ hA.ok.sh hA.sz (fun e he=>(hr.num e he).epoch.1) j hj)
 refine ⟨_,_,_,hT,hA.PA _ now x.lines.length,?_⟩
 have ht:=u_ (x.iJ now (tf x.s (x.oS x.lines.length) now) (tQ x.c x.s now)) (fun _=>0) now x.lines.length
 rw [ht.s,ht.cr]
 exact hcs
theorem KX {c:aH} {k:Nat} {x:aQ} (h:dO c k x) (hk:k≤1000) (o:cH) {now:Int} (hn:0≤now∧now≤1000000):∃ e y,bw Tryz.prog dI 43 [.ptr 0 0,uN o,.int now] (bH x) (.int e) (bH y)∧dO c (k+1) y∧
  ((e=0∧bO c x.s o=(y.s,0)∧y.cr=IntKind.i64.wrap (x.cr+1)∧o.kind≠0)∨(e≠0∧y.s=x.s∧y.cr=x.cr)):=by
 refine ⟨_,_,bw.up (Pk x h.ok h.dn o now) lz,?_,?_⟩
 ·unfold aQ.XP
  split
  ·exact h.note hk o hn
  ·exact h.more (Nat.le_succ _)
 ·unfold aQ.XP aQ.Za
  split
  ·exact vO h.cf o now
  ·exact .inr ⟨by decide,rfl,rfl⟩
end Dv
