/- part -/
import Derived.Test.YtkalnfkokkjliaaGreatDoorCB
import Derived.Test.YtkalnfkokkjliaaGreatDoorGA
import Derived.Test.YtkalnfkokkjliaaGreatDoorTB
import Derived.Test.YtkalnfkokkjliaaGreatDoorDD
import Derived.Test.YtkalnfkokkjliaaGreatDoorCA
set_option linter.all false
set_option maxHeartbeats 4000000
set_option maxRecDepth 100000
namespace Dv
open Go Go.Proofs
variable {G:Nat→Option (List DV)}
def Ig:Nat×C×List RV:=(92,
(.seq (.iJ [qo 4 (.box 87 (.t 1)),
 qo 6 (.mv qf)])
 (.seq (.seq (.jA [qm 8 0,
 qd 9 (.call (.f 109) [(.t 8)]) [0],
 qd 10 (.not (.t 9)) [1,0],
 qd 11 (.mv (.t 10)) [2,1,0],
 qe 12 (.eO 1 (.t 4)) 11 false [3,2,1,0],
 qe 13 (.ld1 (.t 12)) 11 false [4,3,2,1,0],
 qe 14 (.bin .neq (.t 13) (qk 6)) 11 false [5,4,3,2,1,0],
 qd 15 (.pick (.t 11) qt (.t 14)) [3,2,1,0,6,5,4],
 qd 16 (.mv (.t 15)) [7,3,2,1,0,6,5,4],
 qe 17 (.eO 0 (.t 4)) 16 false [8,7,3,2,1,0,6,5,4],
 qe 18 (.ld1 (.t 17)) 16 false [9,8,7,3,2,1,0,6,5,4],
 qe 19 (.bin .lss (.t 18) (qk 0)) 16 false [10,9,8,7,3,2,1,0,6,5,4],
 qd 20 (.pick (.t 16) qt (.t 19)) [8,7,3,2,1,0,6,5,4,11,10,9],
 qd 21 (.mv (.t 20)) [12,8,7,3,2,1,0,6,5,4,11,10,9],
 qe 22 (.eO 0 (.t 4)) 21 false [13,12,8,7,3,2,1,0,6,5,4,11,10,9],
 qe 23 (.ld1 (.t 22)) 21 false [14,13,12,8,7,3,2,1,0,6,5,4,11,10,9],
 qe 24 (.mv (.t 0)) 21 false [13,12,8,7,3,2,1,0,6,5,4,11,10,9],
 qe 25 (.kT (.t 24)) 21 false [16,13,12,8,7,3,2,1,0,6,5,4,11,10,9],
 qe 26 (.eO 18 (.t 25)) 21 false [17,16,13,12,8,7,3,2,1,0,6,5,4,11,10,9],
 qe 27 (.ld1 (.t 26)) 21 false [18,17,16,13,12,8,7,3,2,1,0,6,5,4,11,10,9],
 qe 28 (.len (.t 27)) 21 false [19,18,17,16,13,12,8,7,3,2,1,0,6,5,4,11,10,9],
 qe 29 (.bin .geq (.t 23) (.t 28)) 21 false [15,14,13,12,8,7,3,2,1,0,6,5,4,11,10,9,20,19,18,17,16],
 qd 30 (.pick (.t 21) qt (.t 29)) [13,12,8,7,3,2,1,0,6,5,4,11,10,9,21,15,14,20,19,18,17,16],
 qd 31 (.mv (.t 30)) [22,13,12,8,7,3,2,1,0,6,5,4,11,10,9,21,15,14,20,19,18,17,16],
 qe 32 (.eO 2 (.t 4)) 31 false [23,22,13,12,8,7,3,2,1,0,6,5,4,11,10,9,21,15,14,20,19,18,17,16],
 qe 33 (.ld1 (.t 32)) 31 false [24,23,22,13,12,8,7,3,2,1,0,6,5,4,11,10,9,21,15,14,20,19,18,17,16],
 qe 34 (.mv (.t 0)) 31 false [23,22,13,12,8,7,3,2,1,0,6,5,4,11,10,9,21,15,14,20,19,18,17,16],
 qe 35 (.kT (.t 34)) 31 false [26,23,22,13,12,8,7,3,2,1,0,6,5,4,11,10,9,21,15,14,20,19,18,17,16],
 qe 36 (.eO 12 (.t 35)) 31 false [27,26,23,22,13,12,8,7,3,2,1,0,6,5,4,11,10,9,21,15,14,20,19,18,17,16],
 qe 37 (.eO 5 (.t 36)) 31 false [28,27,26,23,22,13,12,8,7,3,2,1,0,6,5,4,11,10,9,21,15,14,20,19,18,17,16],
 qe 38 (.ld1 (.t 37)) 31 false [29,28,27,26,23,22,13,12,8,7,3,2,1,0,6,5,4,11,10,9,21,15,14,20,19,18,17,16],
 qe 39 (.bin .gtr (.t 33) (.t 38)) 31 false [25,24,23,22,13,12,8,7,3,2,1,0,6,5,4,11,10,9,21,15,14,20,19,18,17,16,30,29,28,27,26],
 qd 40 (.pick (.t 31) qt (.t 39)) [23,22,13,12,8,7,3,2,1,0,6,5,4,11,10,9,21,15,14,20,19,18,17,16,31,25,24,30,29,28,27,26]])
 (.cond (.t 40) (.seq (.iJ [qo 6 (.mv qf)])
 .ret)
 .skip))
 (.seq (.jA [qm 41 0,
 qd 42 (.kT (.t 41)) [0],
 qd 43 (.eO 18 (.t 42)) [1,0],
 qd 44 (.ld1 (.t 43)) [2,1,0],
 qo 45 (.eO 0 (.t 4)),
 qd 46 (.ld1 (.t 45)) [4],
 qd 47 (.A3 26 (.t 44) (.t 46)) [3,2,1,0,5,4],
 qd 7 (.mv (.t 47)) [6,3,2,1,0,5,4]])
 (.seq (.seq (.jA [qm 48 0,
 qd 49 (.kT (.t 48)) [0],
 qd 50 (.eO 12 (.t 49)) [1,0],
 qd 51 (.eO 0 (.t 50)) [2,1,0],
 qd 52 (.ld1 (.t 51)) [3,2,1,0],
 qo 53 (.eO 0 (.t 4)),
 qd 54 (.ld1 (.t 53)) [5],
 qd 55 (.A3 5 (.t 52) (.t 54)) [4,3,2,1,0,6,5],
 qd 56 (.eO 0 (.t 55)) [7,4,3,2,1,0,6,5],
 qd 57 (.ld1 (.t 56)) [8,7,4,3,2,1,0,6,5],
 qd 58 (.mv (.t 57)) [9,8,7,4,3,2,1,0,6,5],
 qe 59 (.mv (.t 7)) 58 true [10,9,8,7,4,3,2,1,0,6,5],
 qe 60 (.kT (.t 59)) 58 true [11,10,9,8,7,4,3,2,1,0,6,5],
 qe 61 (.eO 1 (.t 60)) 58 true [12,11,10,9,8,7,4,3,2,1,0,6,5],
 qe 62 (.ld1 (.t 61)) 58 true [13,12,11,10,9,8,7,4,3,2,1,0,6,5],
 qe 63 (.not (.t 62)) 58 true [14,13,12,11,10,9,8,7,4,3,2,1,0,6,5],
 qe 64 (.mv (.t 63)) 58 true [15,14,13,12,11,10,9,8,7,4,3,2,1,0,6,5],
 qe 65 (.eO 2 (.t 4)) 64 false [16,15,14,13,12,11,10,9,8,7,4,3,2,1,0,6,5],
 qe 66 (.ld1 (.t 65)) 64 false [17,16,15,14,13,12,11,10,9,8,7,4,3,2,1,0,6,5],
 qe 67 (.mv (.t 0)) 64 false [16,15,14,13,12,11,10,9,8,7,4,3,2,1,0,6,5],
 qe 68 (.kT (.t 67)) 64 false [19,16,15,14,13,12,11,10,9,8,7,4,3,2,1,0,6,5],
 qe 69 (.eO 12 (.t 68)) 64 false [20,19,16,15,14,13,12,11,10,9,8,7,4,3,2,1,0,6,5],
 qe 70 (.eO 5 (.t 69)) 64 false [21,20,19,16,15,14,13,12,11,10,9,8,7,4,3,2,1,0,6,5],
 qe 71 (.ld1 (.t 70)) 64 false [22,21,20,19,16,15,14,13,12,11,10,9,8,7,4,3,2,1,0,6,5],
 qe 72 (.bin .neq (.t 66) (.t 71)) 64 false [18,17,16,15,14,13,12,11,10,9,8,7,4,3,2,1,0,6,5,23,22,21,20,19],
 qe 73 (.pick (.t 64) qt (.t 72)) 58 true [16,15,14,13,12,11,10,9,8,7,4,3,2,1,0,6,5,24,18,17,23,22,21,20,19],
 qe 74 (.mv (.t 73)) 58 true [25,16,15,14,13,12,11,10,9,8,7,4,3,2,1,0,6,5,24,18,17,23,22,21,20,19],
 qe 75 (.eO 3 (.t 4)) 74 false [26,25,16,15,14,13,12,11,10,9,8,7,4,3,2,1,0,6,5,24,18,17,23,22,21,20,19],
 qe 76 (.ld1 (.t 75)) 74 false [27,26,25,16,15,14,13,12,11,10,9,8,7,4,3,2,1,0,6,5,24,18,17,23,22,21,20,19],
 qe 77 (.mv (.t 7)) 74 false [26,25,16,15,14,13,12,11,10,9,8,7,4,3,2,1,0,6,5,24,18,17,23,22,21,20,19],
 qe 78 (.kT (.t 77)) 74 false [29,26,25,16,15,14,13,12,11,10,9,8,7,4,3,2,1,0,6,5,24,18,17,23,22,21,20,19],
 qe 79 (.eO 0 (.t 78)) 74 false [30,29,26,25,16,15,14,13,12,11,10,9,8,7,4,3,2,1,0,6,5,24,18,17,23,22,21,20,19],
 qe 80 (.ld1 (.t 79)) 74 false [31,30,29,26,25,16,15,14,13,12,11,10,9,8,7,4,3,2,1,0,6,5,24,18,17,23,22,21,20,19],
 qe 81 (.bin .neq (.t 76) (.t 80)) 74 false [28,27,26,25,16,15,14,13,12,11,10,9,8,7,4,3,2,1,0,6,5,24,18,17,23,22,21,20,19,32,31,30,29],
 qe 82 (.pick (.t 74) qt (.t 81)) 58 true [26,25,16,15,14,13,12,11,10,9,8,7,4,3,2,1,0,6,5,24,18,17,23,22,21,20,19,33,28,27,32,31,30,29],
 qd 83 (.pick (.t 58) (.t 82) qf) [10,9,8,7,4,3,2,1,0,6,5,34,26,25,16,15,14,13,12,11,24,18,17,23,22,21,20,19,33,28,27,32,31,30,29]])
 (.cond (.t 83) (.seq (.iJ [qo 6 (.mv qf)])
 .ret)
 .skip))
 (.seq (.iJ [qm 84 7,
 qm 85 7,
 qo 86 (.Bi 11 (.t 4)),
 qm 87 2,
 qo 88 (.kT (.t 84)),
 qo 89 (.eO 15 (.t 88)),
 qn (.st 11 (.t 89) (.t 86)),
 qo 90 (.kT (.t 85)),
 qo 91 (.eO 14 (.t 90)),
 qn (.st 1 (.t 91) (.t 87))])
 (.seq (.iJ [qo 6 (.mv qt)])
 .ret)))))),
[(.t 6)])
theorem v7:aj Tryz.prog Tryz.f45=some Ig:=by kernel_rfl
def aO.Qh (x:aO) (m:dA):Bool:=decide (m.kind=6)&&decide (0≤m.node)&&decide (m.node<x.lines.length)&&decide (m.term≤x.s.term)
def aO.NP (x:aO) (m:dA):Bool:=(dR x.s m.node.toNat).up&&(!(x.lines.getD m.node.toNat fC).has||m.term !=x.s.term||m.gen !=(x.lines.getD m.node.toNat fC).gen)
def aO.Cz (x:aO) (m:dA):Bool:=x.Qh m&&!x.NP m
def aO.kJ (x:aO) (m:dA) (now:Int):aO:=if x.Cz m=true then { x with lines:=x.lines.set m.node.toNat { (x.lines.getD m.node.toNat fC) with report:=m,heard:=now } } else x
theorem Qi (x:aO) (hd:x.down=false) (we:x.lines.length=x.s.nodes.length) (m:dA) (now:Int):bw Tryz.prog G 45 [.ptr 0 0,xS m,.int now] (bX x) (.bool (x.Cz m)) (bX (x.kJ m now)):=by
 have ha:=pq (G:=G) x
 rw [hd] at ha
 obtain ⟨q0,q1,q2,q3,q4,q5,q6,q7,q8,q9,q10⟩:=m
 unfold aO.kJ aO.Cz aO.Qh aO.NP
 dsimp only
 simp only [bX,d_,aP,List.cons_append,List.nil_append] at ha
 by_cases k1:q1=6
 case neg=>
  simp only [k1,decide_false,Bool.false_and,Bool.false_eq_true,if_false]
  refine aT Tryz.func45 (by decide) v7 rfl rfl (cC _ (Nat.le_refl 8) _) rfl ?_
  simp only [bX,d_,aP,List.length_set,Ig,go_sem]
  refine ey [0,1,2,3,4,5,6,7] (ha) rfl ?_ (by decide) ?_ ?_ ?_ <;> simp only [ag,ah,go_sem,aV,bD,aL,aR]
  simp only [show (q1 !=6)=true from bne_iff_ne.2 k1,go_sem]
 have b1:(q1 !=6)=false:=by rw [k1]; rfl
 by_cases k2:0≤q0
 case neg=>
  simp only [k1,k2,decide_true,decide_false,Bool.false_and,Bool.true_and,Bool.false_eq_true,if_false]
  refine aT Tryz.func45 (by decide) v7 rfl rfl (cC _ (Nat.le_refl 8) _) rfl ?_
  simp only [bX,d_,aP,List.length_set,Ig,go_sem]
  refine ey [0,1,2,3,4,5,6,7] (ha) rfl ?_ (by decide) ?_ ?_ ?_ <;> simp only [ag,ah,go_sem,aV,bD,aL,aR]
  simp only [b1,decide_eq_true (show q0<0 by omega),go_sem]
 by_cases k3:q0<x.lines.length
 case neg=>
  simp only [k1,k2,k3,decide_true,decide_false,Bool.false_and,Bool.true_and,Bool.false_eq_true,if_false]
  refine aT Tryz.func45 (by decide) v7 rfl rfl (cC _ (Nat.le_refl 8) _) rfl ?_
  simp only [bX,d_,aP,List.length_set,Ig,go_sem]
  refine ey [0,1,2,3,4,5,6,7] (ha) rfl ?_ (by decide) ?_ ?_ ?_ <;> simp only [ag,ah,go_sem,aV,bD,aL,aR]
  simp only [b1,decide_eq_false (show ¬ q0<0 by omega),decide_eq_true (show q0≥(x.lines.length:Nat) by omega),go_sem]
 by_cases k4:q2≤x.s.term
 case neg=>
  simp only [k1,k2,k3,k4,decide_true,decide_false,Bool.false_and,Bool.true_and,Bool.false_eq_true,if_false]
  refine aT Tryz.func45 (by decide) v7 rfl rfl (cC _ (Nat.le_refl 8) _) rfl ?_
  simp only [bX,d_,aP,List.length_set,Ig,go_sem]
  refine ey [0,1,2,3,4,5,6,7] (ha) rfl ?_ (by decide) ?_ ?_ ?_ <;> simp only [ag,ah,go_sem,aV,bD,aL,aR]
  simp only [b1,decide_eq_false (show ¬ q0<0 by omega),decide_eq_false (show ¬ q0≥(x.lines.length:Nat) by omega),decide_eq_true (show q2>x.s.term by omega),go_sem]
 obtain ⟨i,rfl⟩:∃ i:Nat,q0=i:=⟨q0.toNat,by omega⟩
 have hi:i<x.lines.length:=by omega
 have hin:i<x.s.nodes.length:=by omega
 have hg:=aJ (f:=mL) fC hi
 have tQ:=aJ (f:=bY) ai hin
 have vw:∀ v,((x.lines.map mL).set i v)[i]? = some v:=fun v=>List.getElem?_set_self (by simpa using hi)
 simp only [k1,k2,k3,k4,decide_true,Bool.true_and,Int.toNat_natCast]
 have hN:dR x.s i=x.s.nodes.getD i ai:=rfl
 rw [hN]
 generalize x.s.nodes.getD i ai=n at *
 generalize x.lines.getD i fC=l at *
 obtain ⟨up,co,mo,ve,jo⟩:=n
 obtain ⟨lg,lhs,⟨p0,p1,p2,p3,p4,p5,p6,p7,p8,p9,p10⟩,ls,le,⟨r0,r1,r2,r3,r4,r5,r6,r7,r8,r9,r10⟩⟩:=l
 simp only [mL,lX,List.cons_append,List.nil_append] at hg
 simp only [bY] at tQ
 have g1:=decide_eq_false (show ¬ ((i:Nat):Int)<0 by omega)
 have g2:=decide_eq_false (show ¬ ((i:Nat):Int)≥(x.lines.length:Nat) by omega)
 have g3:=decide_eq_false (show ¬ q2>x.s.term by omega)
 cases hst:(up&&(!lhs||q2 !=x.s.term||q3 !=lg)) with
 | true=>
   simp only [Bool.not_true,Bool.false_eq_true,if_false]
   refine aT Tryz.func45 (by decide) v7 rfl rfl (cC _ (Nat.le_refl 8) _) rfl ?_
   simp only [bX,d_,aP,List.length_set,Ig,go_sem]
   refine ey [0,1,2,3,4,5,6,7] (ha) rfl ?_ (by decide) ?_ ?_ ?_ <;> simp only [ag,ah,go_sem,aV,bD,aL,aR]
   simp only [b1,g1,g2,g3,hi,hin,hg,tQ,go_sem]
   cases up with
   | false=>simp at hst
   | true=>
   cases lhs with
   | false=>
     simp only [hi,hin,hg,tQ,vw,mL,List.map_set,List.length_set,List.set_set,go_sem]
     (repeat (refine au rfl ?_; (try simp only [hi,hin,hg,tQ,vw,mL,List.map_set,List.length_set,List.set_set,go_sem])))
   | true=>
   cases t1:(q2 !=x.s.term) with
   | true=>
     simp only [t1,hi,hin,hg,tQ,vw,mL,List.map_set,List.length_set,List.set_set,go_sem]
     (repeat (refine au rfl ?_; (try simp only [hi,hin,hg,tQ,vw,mL,List.map_set,List.length_set,List.set_set,go_sem])))
   | false=>
   cases t2:(q3 !=lg) with
   | true=>
     simp only [t1,t2,hi,hin,hg,tQ,vw,mL,List.map_set,List.length_set,List.set_set,go_sem]
     (repeat (refine au rfl ?_; (try simp only [hi,hin,hg,tQ,vw,mL,List.map_set,List.length_set,List.set_set,go_sem])))
   | false=>simp [t1,t2] at hst
 | false=>
   simp only [Bool.not_false,if_true]
   refine aT Tryz.func45 (by decide) v7 rfl rfl (cC _ (Nat.le_refl 8) _) rfl ?_
   simp only [bX,d_,aP,List.length_set,Ig,go_sem]
   refine ey [0,1,2,3,4,5,6,7] (ha) rfl ?_ (by decide) ?_ ?_ ?_ <;> simp only [ag,ah,go_sem,aV,bD,aL,aR]
   simp only [b1,g1,g2,g3,hi,hin,hg,tQ,vw,go_sem]
   cases up with
   | false=>
     simp only [hi,hin,hg,tQ,vw,mL,List.map_set,List.length_set,List.set_set,go_sem]
     (repeat (refine au rfl ?_; (try simp only [hi,hin,hg,tQ,vw,mL,List.map_set,List.length_set,List.set_set,go_sem])))
   | true=>
   cases lhs with
   | false=>simp at hst
   | true=>
   cases t1:(q2 !=x.s.term) with
   | true=>simp [t1] at hst
   | false=>
   cases t2:(q3 !=lg) with
   | true=>simp [t1,t2] at hst
   | false=>
     simp only [t1,t2,hi,hin,hg,tQ,vw,mL,List.map_set,List.length_set,List.set_set,go_sem]
     (repeat (refine au rfl ?_; (try simp only [hi,hin,hg,tQ,vw,mL,List.map_set,List.length_set,List.set_set,go_sem])))
end Dv
namespace Dv
open Go Go.Proofs
structure gM (c:aC) (k:Nat) (x:aO):Prop where
 ok:CX x
 cf:x.c=c
 dn:x.down=false
 hr:∀ l∈x.lines,0≤l.heard∧l.heard≤1000000
 sz:∀ i,i<25→x.sh.getD i ic=ic
 nt:0≤x.er∧x.er≤k
theorem gM.more {c:aC} {k k':Nat} {x:aO} (h:gM c k x) (hk:k≤k'):gM c k' x:=⟨h.ok,h.cf,h.dn,h.hr,h.sz,by have:=h.nt; omega⟩
theorem KH (ep:Int):gV ic ep=ic:=by
 unfold gV
 split <;> rfl
theorem RM {sh:List kO} (h:∀ i,i<25→sh.getD i ic=ic) (j:Nat):∀ i,i<25→(sh.set j ic).getD i ic=ic:=by
 intro i hi
 have:=h i hi
 simp only [List.getD,List.getElem?_set] at *
 split
 ·split <;> rfl
 ·exact this
theorem gM.note {c:aC} {k:Nat} {x:aO} (h:gM c k x) (hk:k≤1000) (o:cA) {now:Int} (hn:0≤now∧now≤1000000):gM c (k+1) (x.bQ o now):=by
 refine ⟨h.ok.note o now,by rw [JX]; exact h.cf,by rw [HR]; exact h.dn,?_,?_,?_⟩
 ·unfold aO.bQ
  split
  ·intro l hl
   change l∈mX now o x.lines at hl
   unfold mX at hl
   split at hl
   ·rcases List.mem_or_eq_of_mem_set hl with hl | rfl
    ·exact h.hr l hl
    ·show 0≤(if o.kind=8 then now else (x.lines.getD o.a.toNat fC).heard)∧(if o.kind=8 then now else (x.lines.getD o.a.toNat fC).heard)≤1000000
     split
     ·exact hn
     ·by_cases hlt:o.a.toNat<x.lines.length
      ·exact h.hr _ (by rw [List.getD,List.getElem?_eq_getElem hlt]; exact List.getElem_mem hlt)
      ·rw [List.getD,List.getElem?_eq_none (by omega)]
       exact ⟨Int.le_refl _,by show (0:Int)≤_; omega⟩
   ·exact h.hr l hl
  ·exact h.hr
 ·unfold aO.bQ
  split
  ·intro i hi
   show (jv o x.sh).getD i ic=ic
   unfold jv
   split
   ·by_cases ha:o.a.toNat<25
    ·rw [h.sz _ ha,KH]; exact RM h.sz _ i hi
    ·rw [List.set_eq_of_length_le (by have:=h.ok.sh; omega)]; exact h.sz i hi
   split
   ·exact RM h.sz _ i hi
   ·exact h.sz i hi
  ·exact h.sz
 ·have:=h.nt
  unfold aO.bQ
  split
  ·show 0≤IntKind.i64.wrap (x.er+1)∧IntKind.i64.wrap (x.er+1)≤((k+1:Nat):Int)
   rw [aN (by omega) (by omega)]
   omega
  ·show 0≤x.er∧x.er≤((k+1:Nat):Int)
   omega
theorem EN (x:aO) (q:Option dA) (now:Int) (l:mY):(lK x q now l).1.heard=l.heard:=by
 unfold lK
 split
 ·rfl
 ·split
  ·rfl
  split <;> rfl
theorem gM.JH {c:aC} {k:Nat} {y:aO} (h:gM c k y) (had:Int→Int) (now:Int):∀ j,gM c k (cT y had now j).1
 | 0=>h
 | j+1=>by
   have ih:=gM.JH h had now j
   refine ⟨⟨ih.ok.right,ih.ok.jn,ih.ok.sh,?_⟩,ih.cf,ih.dn,?_,ih.sz,ih.nt⟩
   ·show (List.set _ _ _).length=_
    rw [List.length_set]
    exact ih.ok.lines
   ·intro l hl
    change l∈(cT y had now j).1.lines.set j _ at hl
    rcases List.mem_or_eq_of_mem_set hl with hl | rfl
    ·exact ih.hr l hl
    ·rw [EN]
     by_cases hlt:j<(cT y had now j).1.lines.length
     ·exact ih.hr _ (by rw [List.getD,List.getElem?_eq_getElem hlt]; exact List.getElem_mem hlt)
     ·rw [List.getD,List.getElem?_eq_none (by omega)]
      exact ⟨Int.le_refl _,by show (0:Int)≤_; omega⟩
theorem gM.aaf {c:aC} {k:Nat} {x:aO} (h:gM c k x) (m:dA) {now:Int} (hn:0≤now∧now≤1000000):gM c k (x.kJ m now)∧(x.kJ m now).s=x.s∧(x.kJ m now).er=x.er:=by
 unfold aO.kJ
 split
 ·refine ⟨⟨⟨h.ok.right,h.ok.jn,h.ok.sh,?_⟩,h.cf,h.dn,?_,h.sz,h.nt⟩,rfl,rfl⟩
  ·show (List.set _ _ _).length=_
   rw [List.length_set]
   exact h.ok.lines
  ·intro l hl
   rcases List.mem_or_eq_of_mem_set hl with hl | rfl
   ·exact h.hr l hl
   ·exact hn
 ·exact ⟨h,rfl,rfl⟩
end Dv
namespace Dv
open Go Go.Proofs
variable {G:Nat→Option (List DV)}
def XE:=qx Tryz.f193
theorem TZ:aj Tryz.prog Tryz.f193=some XE:=by kernel_rfl
def Yo:=qx Tryz.f111
theorem UP:aj Tryz.prog Tryz.f111=some Yo:=by kernel_rfl
def abk:=qx Tryz.f41
theorem ZE:aj Tryz.prog Tryz.f41=some abk:=by kernel_rfl
def ji (m:dA):List Int:=[m.node,m.kind,m.term,m.gen,m.aQ,m.inc,m.version,m.epoch,m.til,m.mode,m.work]
def Cs (l:List Int):List (List DV):=l.map fun n=>[i64 n]
theorem Bh (m:dA):bw Tryz.prog G 193 [xS m] [] (.d (.dH 1 (Cs (ji m)))) []:=by
 refine cD Tryz.func193 (by decide) TZ rfl ?_
 simp only [XE,go_sem]
 exact dP [1] rfl (by simp [St.obj,aD]) (by simp [St.obj,aD,aU,St.get,aZ,ah,bG,ji,Cs,List.take_of_length_le])
def w_ (n:Int):Bool:=decide (0≤n)&&decide (n≤1000000)
def vN (m:dA):Bool:=(ji m).all w_&&decide (m.node≤5)&&decide (1≤m.kind)&&decide (m.kind≤6)
def Dw (m:dA) (k:Nat):St:=⟨[(1,.ptr 0 0),(2,.bool false),(3,.d (.dH 1 (Cs (ji m)))),(4,.int k)],[some (.box 87 [.int m.node,.int m.kind,.int m.term,.int m.gen,.int m.aQ,.int m.inc,.int m.version,.int m.epoch,.int m.til,.int m.mode,.int m.work])]⟩
theorem Ff (m:dA):bw Tryz.prog G 111 [xS m] [] (.bool (vN m)) []:=by
 have hn:=Bh (G:=G) m
 refine br Tryz.func111 (by decide) UP rfl rfl ?_
 simp only [Yo,go_sem]
 refine ay (hn) rfl rfl rfl rfl ?_; simp only [go_sem]
 refine aW [1,2,3,4] [] (fun k:Nat=>k≤11∧((ji m).take k).all w_=true) (fun k=>11-k) (Dw m) 0 ?_ ⟨Nat.zero_le _,rfl⟩ (fun k hk=>?_)
 ·simp only [Dw,Int.natCast_zero,go_sem]
 obtain ⟨hk,hall⟩:=hk
 have hlen:(ji m).length=11:=rfl
 have hlr:(Cs (ji m)).length=11:=by simp [Cs,ji]
 simp only [Dw,hlr,go_sem]
 by_cases hlt:k<11
 ·have hg:(Cs (ji m))[k]? = some [i64 ((ji m).getD k 0)]:=aJ (f:=fun n:Int=>[i64 n]) 0 (show k<(ji m).length by omega)
  have htk:(ji m).take (k+1)=(ji m).take k++[(ji m).getD k 0]:=by rw [List.take_add_one]; simp [List.getD,hlen,hlt]
  have hmem:(ji m).getD k 0∈ji m:=by
   rw [List.getD,List.getElem?_eq_getElem (by omega)]; exact List.getElem_mem _
  generalize (ji m).getD k 0=v at *
  simp only [decide_eq_true (show ((k:Nat):Int)<11 by omega),show (11:Int)=((11:Nat):Int) from rfl,go_sem]
  simp only [hg,go_sem]
  have Ac:w_ v=false→vN m=false:=fun h=>by
   unfold vN
   rw [show (ji m).all w_=false from List.all_eq_false.2 ⟨v,hmem,by rw [h]; decide⟩]
   rfl
  by_cases h0:v<0
  ·rw [Ac (by unfold w_; rw [decide_eq_false (by omega)]; rfl)]
   simp only [decide_eq_true h0,go_sem]
  by_cases h1:v>1000000
  ·rw [Ac (by unfold w_; rw [decide_eq_false (show ¬ v≤1000000 by omega),Bool.and_false])]
   simp only [decide_eq_false h0,decide_eq_true h1,hg,go_sem]
  simp only [decide_eq_false h0,decide_eq_false h1,hg,go_sem]
  refine a_ (k+1) ?_ ?_ ⟨show k+1≤11 by omega,by
   rw [htk,List.all_append,hall]
   simp [w_]
   omega⟩ (show 11-(k+1)<11-k by omega)
  ·simp only [go_sem]
  ·simp only [Dw,aG (show k<9223372036854775807 by omega),go_sem]
 obtain rfl:k=11:=by omega
 have acg:(ji m).all w_=true:=by rw [List.take_of_length_le (by omega)] at hall; exact hall
 unfold vN
 rw [acg]
 simp only [show decide (((11:Nat):Int)<11)=false from rfl,show (11:Int)=((11:Nat):Int) from rfl,go_sem]
 by_cases h5:m.node≤5
 ·by_cases h1:1≤m.kind
  ·simp only [decide_eq_true h5,decide_eq_true h1,decide_eq_true (show m.kind≥1 from h1),go_sem]
  ·simp only [decide_eq_true h5,decide_eq_false h1,decide_eq_false (show ¬ m.kind≥1 from h1),go_sem]
 ·simp only [decide_eq_false h5,go_sem]
structure wN where
 kind:Int
 now:Int
 keep:Int
 o:cA
 m:dA
 sk:Int
 st:Int
 sj:Int
 se:Int
 sd:List Int
def JB (a:wN):List DV:=[i64 a.kind,i64 a.now,i64 a.keep]++(opR a.o++(lX a.m++[i64 a.sk,i64 a.st,i64 a.sj,i64 a.se,.dH 1 (aB a.sd)]))
def GO:wN:=⟨0,0,0,ia,iX,0,0,0,0,[]⟩
def kN (l:List wN):LV:=.d (.dH 26 (l.map JB))
def BA (a:wN):Bool:=decide (0≤a.now)&&decide (a.now≤1000000)&&vN a.m&&decide (a.sd.length≤200)
def QH (c:aC) (l:List wN):Bool:=decide (l.length≤60)&&gJ c&&decide (c.fP≤4000)&&l.all BA
def Vw (c:aC) (l:List wN) (k:Nat):St:=⟨[(1,kN l),(2,.ptr 0 0),(4,.bool false),(5,.int k)],[some (.box 23 [.int c.nodes,.int c.bH,.int c.cB,.int c.gF,.int c.bZ,.int c.eC,.int c.deadline,.int c.room,.int c.fP])]⟩
theorem Vu (c:aC) (l:List wN):bw Tryz.prog G 41 [fV c,kN l] [] (.bool (QH c l)) []:=by
 have hmay:=O8 (G:=G) c
 refine br Tryz.func41 (by decide) ZE rfl rfl ?_
 simp only [abk,go_sem]
 simp only [kN,go_sem]
 unfold QH
 by_cases h1:l.length≤60
 case neg=>simp only [decide_eq_true (show ((l.length:Nat):Int)>60 by omega),decide_eq_false h1,go_sem]
 simp only [decide_eq_false (show ¬ ((l.length:Nat):Int)>60 by omega),decide_eq_true h1,go_sem]
 refine ay (hmay) rfl rfl rfl rfl ?_; simp only [go_sem]
 cases hm:gJ c with
 | false=>simp only [go_sem]
 | true=>
 by_cases h2:c.fP≤4000
 case neg=>simp only [decide_eq_true (show c.fP>4000 by omega),decide_eq_false h2,go_sem]
 simp only [decide_eq_false (show ¬ c.fP>4000 by omega),decide_eq_true h2,go_sem]
 refine aW [1,2,4,5] [] (fun k:Nat=>k≤l.length∧(l.take k).all BA=true) (fun k=>l.length-k) (Vw c l) 0 ?_ ⟨Nat.zero_le _,rfl⟩ (fun k hk=>?_)
 ·simp only [Vw,kN,Int.natCast_zero,go_sem]
 obtain ⟨hk,hall⟩:=hk
 simp only [Vw,kN,go_sem]
 by_cases hlt:k<l.length
 case neg=>
  obtain rfl:k=l.length:=by omega
  rw [List.take_length] at hall
  rw [hall]
  simp only [decide_eq_false (show ¬ ((l.length:Nat):Int)<((l.length:Nat):Int) by omega),go_sem]
 have hg:=aJ (f:=JB) GO hlt
 have htk:l.take (k+1)=l.take k++[l.getD k GO]:=by rw [List.take_add_one]; simp [List.getD,hlt]
 have hmem:l.getD k GO∈l:=by rw [List.getD,List.getElem?_eq_getElem hlt]; exact List.getElem_mem _
 generalize l.getD k GO=a at *
 have Ac:BA a=false→l.all BA=false:=fun h=>List.all_eq_false.2 ⟨a,hmem,by rw [h]; decide⟩
 have hR:=Ff (G:=G) a.m
 simp only [JB,opR,lX,List.cons_append,List.nil_append] at hg
 simp only [decide_eq_true (show ((k:Nat):Int)<((l.length:Nat):Int) by omega),hg,hlt,go_sem]
 by_cases e0:a.now<0
 ·rw [Ac (by unfold BA; rw [decide_eq_false (show ¬ 0≤a.now by omega)]; rfl)]
  simp only [decide_eq_true e0,hg,hlt,go_sem]
 by_cases e1:a.now>1000000
 ·rw [Ac (by unfold BA; rw [decide_eq_false (show ¬ a.now≤1000000 by omega),Bool.and_false]; rfl)]
  simp only [decide_eq_false e0,decide_eq_true e1,hg,hlt,go_sem]
 simp only [decide_eq_false e0,decide_eq_false e1,hg,hlt,go_sem]
 refine ay (hR) rfl rfl rfl rfl ?_; simp only [go_sem]
 cases hr:vN a.m with
 | false=>
   rw [Ac (by unfold BA; rw [hr,Bool.and_false]; rfl)]
   simp only [go_sem]
 | true=>
 have yB:(aB a.sd).length=a.sd.length:=aF _
 simp only [hg,hlt,yB,go_sem]
 by_cases e2:a.sd.length≤200
 ·simp only [decide_eq_false (show ¬ ((a.sd.length:Nat):Int)>200 by omega),go_sem]
  refine a_ (k+1) ?_ ?_ ⟨show k+1≤l.length by omega,by
   rw [htk,List.all_append,hall]
   simp [BA,hr,e2]
   omega⟩ (show l.length-(k+1)<l.length-k by omega)
  ·simp only [go_sem]
  ·simp only [Vw,kN,aG (show k<9223372036854775807 by omega),go_sem]
 ·rw [Ac (by unfold BA; rw [decide_eq_false e2,Bool.and_false])]
  simp only [decide_eq_true (show ((a.sd.length:Nat):Int)>200 by omega),go_sem]
theorem Vv {c:aC} {l:List wN} (h:QH c l=true):l.length≤60∧gJ c=true∧c.fP≤4000∧∀ a∈l,0≤a.now∧a.now≤1000000:=by
 unfold QH at h
 simp only [Bool.and_eq_true,decide_eq_true_eq] at h
 refine ⟨h.1.1.1,h.1.1.2,h.1.2,fun a ha=>?_⟩
 have:=List.all_eq_true.1 h.2 a ha
 unfold BA at this
 simp only [Bool.and_eq_true,decide_eq_true_eq] at this
 exact ⟨this.1.1.1,this.1.1.2⟩
end Dv
