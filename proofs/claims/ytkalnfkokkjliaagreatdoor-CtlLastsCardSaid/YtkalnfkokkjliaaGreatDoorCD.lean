/- part -/
import Derived.Test.YtkalnfkokkjliaaGreatDoorCB
import Derived.Test.YtkalnfkokkjliaaGreatDoorGA
import Derived.Test.YtkalnfkokkjliaaGreatDoorTB
import Derived.Test.YtkalnfkokkjliaaGreatDoorDD
import Derived.Test.YtkalnfkokkjliaaGreatDoorCA
set_option linter.all false
set_option maxHeartbeats 4000000
set_option maxRecDepth 100000
namespace Dv
open Go Go.Proofs
variable {G:Nat→Option (List DV)}
def IC:Nat×C×List RV:=(92,
(.seq (.pZ [qo 4 (.box 87 (.t 1)),
 qo 6 (.mv qf)])
 (.seq (.seq (.lS [qm 8 0,
 qd 9 (.call (.f 109) [(.t 8)]) [0],
 qd 10 (.not (.t 9)) [1,0],
 qd 11 (.mv (.t 10)) [2,1,0],
 qe 12 (.fS 1 (.t 4)) 11 false [3,2,1,0],
 qe 13 (.ld1 (.t 12)) 11 false [4,3,2,1,0],
 qe 14 (.bin .neq (.t 13) (qk 6)) 11 false [5,4,3,2,1,0],
 qd 15 (.pick (.t 11) qt (.t 14)) [3,2,1,0,6,5,4],
 qd 16 (.mv (.t 15)) [7,3,2,1,0,6,5,4],
 qe 17 (.fS 0 (.t 4)) 16 false [8,7,3,2,1,0,6,5,4],
 qe 18 (.ld1 (.t 17)) 16 false [9,8,7,3,2,1,0,6,5,4],
 qe 19 (.bin .lss (.t 18) (qk 0)) 16 false [10,9,8,7,3,2,1,0,6,5,4],
 qd 20 (.pick (.t 16) qt (.t 19)) [8,7,3,2,1,0,6,5,4,11,10,9],
 qd 21 (.mv (.t 20)) [12,8,7,3,2,1,0,6,5,4,11,10,9],
 qe 22 (.fS 0 (.t 4)) 21 false [13,12,8,7,3,2,1,0,6,5,4,11,10,9],
 qe 23 (.ld1 (.t 22)) 21 false [14,13,12,8,7,3,2,1,0,6,5,4,11,10,9],
 qe 24 (.mv (.t 0)) 21 false [13,12,8,7,3,2,1,0,6,5,4,11,10,9],
 qe 25 (.kX (.t 24)) 21 false [16,13,12,8,7,3,2,1,0,6,5,4,11,10,9],
 qe 26 (.fS 18 (.t 25)) 21 false [17,16,13,12,8,7,3,2,1,0,6,5,4,11,10,9],
 qe 27 (.ld1 (.t 26)) 21 false [18,17,16,13,12,8,7,3,2,1,0,6,5,4,11,10,9],
 qe 28 (.len (.t 27)) 21 false [19,18,17,16,13,12,8,7,3,2,1,0,6,5,4,11,10,9],
 qe 29 (.bin .geq (.t 23) (.t 28)) 21 false [15,14,13,12,8,7,3,2,1,0,6,5,4,11,10,9,20,19,18,17,16],
 qd 30 (.pick (.t 21) qt (.t 29)) [13,12,8,7,3,2,1,0,6,5,4,11,10,9,21,15,14,20,19,18,17,16],
 qd 31 (.mv (.t 30)) [22,13,12,8,7,3,2,1,0,6,5,4,11,10,9,21,15,14,20,19,18,17,16],
 qe 32 (.fS 2 (.t 4)) 31 false [23,22,13,12,8,7,3,2,1,0,6,5,4,11,10,9,21,15,14,20,19,18,17,16],
 qe 33 (.ld1 (.t 32)) 31 false [24,23,22,13,12,8,7,3,2,1,0,6,5,4,11,10,9,21,15,14,20,19,18,17,16],
 qe 34 (.mv (.t 0)) 31 false [23,22,13,12,8,7,3,2,1,0,6,5,4,11,10,9,21,15,14,20,19,18,17,16],
 qe 35 (.kX (.t 34)) 31 false [26,23,22,13,12,8,7,3,2,1,0,6,5,4,11,10,9,21,15,14,20,19,18,17,16],
 qe 36 (.fS 12 (.t 35)) 31 false [27,26,23,22,13,12,8,7,3,2,1,0,6,5,4,11,10,9,21,15,14,20,19,18,17,16],
 qe 37 (.fS 5 (.t 36)) 31 false [28,27,26,23,22,13,12,8,7,3,2,1,0,6,5,4,11,10,9,21,15,14,20,19,18,17,16],
 qe 38 (.ld1 (.t 37)) 31 false [29,28,27,26,23,22,13,12,8,7,3,2,1,0,6,5,4,11,10,9,21,15,14,20,19,18,17,16],
 qe 39 (.bin .gtr (.t 33) (.t 38)) 31 false [25,24,23,22,13,12,8,7,3,2,1,0,6,5,4,11,10,9,21,15,14,20,19,18,17,16,30,29,28,27,26],
 qd 40 (.pick (.t 31) qt (.t 39)) [23,22,13,12,8,7,3,2,1,0,6,5,4,11,10,9,21,15,14,20,19,18,17,16,31,25,24,30,29,28,27,26]])
 (.cond (.t 40) (.seq (.pZ [qo 6 (.mv qf)])
 .ret)
 .skip))
 (.seq (.lS [qm 41 0,
 qd 42 (.kX (.t 41)) [0],
 qd 43 (.fS 18 (.t 42)) [1,0],
 qd 44 (.ld1 (.t 43)) [2,1,0],
 qo 45 (.fS 0 (.t 4)),
 qd 46 (.ld1 (.t 45)) [4],
 qd 47 (.NP 26 (.t 44) (.t 46)) [3,2,1,0,5,4],
 qd 7 (.mv (.t 47)) [6,3,2,1,0,5,4]])
 (.seq (.seq (.lS [qm 48 0,
 qd 49 (.kX (.t 48)) [0],
 qd 50 (.fS 12 (.t 49)) [1,0],
 qd 51 (.fS 0 (.t 50)) [2,1,0],
 qd 52 (.ld1 (.t 51)) [3,2,1,0],
 qo 53 (.fS 0 (.t 4)),
 qd 54 (.ld1 (.t 53)) [5],
 qd 55 (.NP 5 (.t 52) (.t 54)) [4,3,2,1,0,6,5],
 qd 56 (.fS 0 (.t 55)) [7,4,3,2,1,0,6,5],
 qd 57 (.ld1 (.t 56)) [8,7,4,3,2,1,0,6,5],
 qd 58 (.mv (.t 57)) [9,8,7,4,3,2,1,0,6,5],
 qe 59 (.mv (.t 7)) 58 true [10,9,8,7,4,3,2,1,0,6,5],
 qe 60 (.kX (.t 59)) 58 true [11,10,9,8,7,4,3,2,1,0,6,5],
 qe 61 (.fS 1 (.t 60)) 58 true [12,11,10,9,8,7,4,3,2,1,0,6,5],
 qe 62 (.ld1 (.t 61)) 58 true [13,12,11,10,9,8,7,4,3,2,1,0,6,5],
 qe 63 (.not (.t 62)) 58 true [14,13,12,11,10,9,8,7,4,3,2,1,0,6,5],
 qe 64 (.mv (.t 63)) 58 true [15,14,13,12,11,10,9,8,7,4,3,2,1,0,6,5],
 qe 65 (.fS 2 (.t 4)) 64 false [16,15,14,13,12,11,10,9,8,7,4,3,2,1,0,6,5],
 qe 66 (.ld1 (.t 65)) 64 false [17,16,15,14,13,12,11,10,9,8,7,4,3,2,1,0,6,5],
 qe 67 (.mv (.t 0)) 64 false [16,15,14,13,12,11,10,9,8,7,4,3,2,1,0,6,5],
 qe 68 (.kX (.t 67)) 64 false [19,16,15,14,13,12,11,10,9,8,7,4,3,2,1,0,6,5],
 qe 69 (.fS 12 (.t 68)) 64 false [20,19,16,15,14,13,12,11,10,9,8,7,4,3,2,1,0,6,5],
 qe 70 (.fS 5 (.t 69)) 64 false [21,20,19,16,15,14,13,12,11,10,9,8,7,4,3,2,1,0,6,5],
 qe 71 (.ld1 (.t 70)) 64 false [22,21,20,19,16,15,14,13,12,11,10,9,8,7,4,3,2,1,0,6,5],
 qe 72 (.bin .neq (.t 66) (.t 71)) 64 false [18,17,16,15,14,13,12,11,10,9,8,7,4,3,2,1,0,6,5,23,22,21,20,19],
 qe 73 (.pick (.t 64) qt (.t 72)) 58 true [16,15,14,13,12,11,10,9,8,7,4,3,2,1,0,6,5,24,18,17,23,22,21,20,19],
 qe 74 (.mv (.t 73)) 58 true [25,16,15,14,13,12,11,10,9,8,7,4,3,2,1,0,6,5,24,18,17,23,22,21,20,19],
 qe 75 (.fS 3 (.t 4)) 74 false [26,25,16,15,14,13,12,11,10,9,8,7,4,3,2,1,0,6,5,24,18,17,23,22,21,20,19],
 qe 76 (.ld1 (.t 75)) 74 false [27,26,25,16,15,14,13,12,11,10,9,8,7,4,3,2,1,0,6,5,24,18,17,23,22,21,20,19],
 qe 77 (.mv (.t 7)) 74 false [26,25,16,15,14,13,12,11,10,9,8,7,4,3,2,1,0,6,5,24,18,17,23,22,21,20,19],
 qe 78 (.kX (.t 77)) 74 false [29,26,25,16,15,14,13,12,11,10,9,8,7,4,3,2,1,0,6,5,24,18,17,23,22,21,20,19],
 qe 79 (.fS 0 (.t 78)) 74 false [30,29,26,25,16,15,14,13,12,11,10,9,8,7,4,3,2,1,0,6,5,24,18,17,23,22,21,20,19],
 qe 80 (.ld1 (.t 79)) 74 false [31,30,29,26,25,16,15,14,13,12,11,10,9,8,7,4,3,2,1,0,6,5,24,18,17,23,22,21,20,19],
 qe 81 (.bin .neq (.t 76) (.t 80)) 74 false [28,27,26,25,16,15,14,13,12,11,10,9,8,7,4,3,2,1,0,6,5,24,18,17,23,22,21,20,19,32,31,30,29],
 qe 82 (.pick (.t 74) qt (.t 81)) 58 true [26,25,16,15,14,13,12,11,10,9,8,7,4,3,2,1,0,6,5,24,18,17,23,22,21,20,19,33,28,27,32,31,30,29],
 qd 83 (.pick (.t 58) (.t 82) qf) [10,9,8,7,4,3,2,1,0,6,5,34,26,25,16,15,14,13,12,11,24,18,17,23,22,21,20,19,33,28,27,32,31,30,29]])
 (.cond (.t 83) (.seq (.pZ [qo 6 (.mv qf)])
 .ret)
 .skip))
 (.seq (.pZ [qm 84 7,
 qm 85 7,
 qo 86 (.Ir 11 (.t 4)),
 qm 87 2,
 qo 88 (.kX (.t 84)),
 qo 89 (.fS 15 (.t 88)),
 qn (.st 11 (.t 89) (.t 86)),
 qo 90 (.kX (.t 85)),
 qo 91 (.fS 14 (.t 90)),
 qn (.st 1 (.t 91) (.t 87))])
 (.seq (.pZ [qo 6 (.mv qt)])
 .ret)))))),
[(.t 6)])
theorem wF:aj Tryz.prog Tryz.f45=some IC:=by kernel_rfl
def aN.Y5 (x:aN) (m:dL):Bool:=decide (m.kind=6)&&decide (0≤m.node)&&decide (m.node<x.lines.length)&&decide (m.term≤x.s.term)
def aN.Wr (x:aN) (m:dL):Bool:=(ec x.s m.node.toNat).up&&(!(x.lines.getD m.node.toNat fE).has||m.term !=x.s.term||m.gen !=(x.lines.getD m.node.toNat fE).gen)
def aN.QF (x:aN) (m:dL):Bool:=x.Y5 m&&!x.Wr m
def aN.kP (x:aN) (m:dL) (now:Int):aN:=if x.QF m=true then { x with lines:=x.lines.set m.node.toNat { (x.lines.getD m.node.toNat fE) with report:=m,heard:=now } } else x
theorem QE (x:aN) (hd:x.down=false) (wI:x.lines.length=x.s.nodes.length) (m:dL) (now:Int):bu Tryz.prog G 45 [.ptr 0 0,yt m,.int now] (bT x) (.bool (x.QF m)) (bT (x.kP m now)):=by
 have ha:=mA (G:=G) x
 rw [hd] at ha
 obtain ⟨q0,q1,q2,q3,q4,q5,q6,q7,q8,q9,q10⟩:=m
 unfold aN.kP aN.QF aN.Y5 aN.Wr
 dsimp only
 simp only [bT,dS,aR,List.cons_append,List.nil_append] at ha
 by_cases k1:q1=6
 case neg=>
  simp only [k1,decide_false,Bool.false_and,Bool.false_eq_true,if_false]
  refine aT Tryz.func45 (by decide) wF rfl rfl (ck _ (Nat.le_refl 8) _) rfl ?_
  simp only [bT,dS,aR,List.length_set,IC,go_sem]
  refine eA [0,1,2,3,4,5,6,7] (ha) rfl ?_ (by decide) ?_ ?_ ?_ <;> simp only [ag,ah,go_sem,aU,bE,aK,aP]
  simp only [show (q1 !=6)=true from bne_iff_ne.2 k1,go_sem]
 have b1:(q1 !=6)=false:=by rw [k1]; rfl
 by_cases k2:0≤q0
 case neg=>
  simp only [k1,k2,decide_true,decide_false,Bool.false_and,Bool.true_and,Bool.false_eq_true,if_false]
  refine aT Tryz.func45 (by decide) wF rfl rfl (ck _ (Nat.le_refl 8) _) rfl ?_
  simp only [bT,dS,aR,List.length_set,IC,go_sem]
  refine eA [0,1,2,3,4,5,6,7] (ha) rfl ?_ (by decide) ?_ ?_ ?_ <;> simp only [ag,ah,go_sem,aU,bE,aK,aP]
  simp only [b1,decide_eq_true (show q0<0 by omega),go_sem]
 by_cases k3:q0<x.lines.length
 case neg=>
  simp only [k1,k2,k3,decide_true,decide_false,Bool.false_and,Bool.true_and,Bool.false_eq_true,if_false]
  refine aT Tryz.func45 (by decide) wF rfl rfl (ck _ (Nat.le_refl 8) _) rfl ?_
  simp only [bT,dS,aR,List.length_set,IC,go_sem]
  refine eA [0,1,2,3,4,5,6,7] (ha) rfl ?_ (by decide) ?_ ?_ ?_ <;> simp only [ag,ah,go_sem,aU,bE,aK,aP]
  simp only [b1,decide_eq_false (show ¬ q0<0 by omega),decide_eq_true (show q0≥(x.lines.length:Nat) by omega),go_sem]
 by_cases k4:q2≤x.s.term
 case neg=>
  simp only [k1,k2,k3,k4,decide_true,decide_false,Bool.false_and,Bool.true_and,Bool.false_eq_true,if_false]
  refine aT Tryz.func45 (by decide) wF rfl rfl (ck _ (Nat.le_refl 8) _) rfl ?_
  simp only [bT,dS,aR,List.length_set,IC,go_sem]
  refine eA [0,1,2,3,4,5,6,7] (ha) rfl ?_ (by decide) ?_ ?_ ?_ <;> simp only [ag,ah,go_sem,aU,bE,aK,aP]
  simp only [b1,decide_eq_false (show ¬ q0<0 by omega),decide_eq_false (show ¬ q0≥(x.lines.length:Nat) by omega),decide_eq_true (show q2>x.s.term by omega),go_sem]
 obtain ⟨i,rfl⟩:∃ i:Nat,q0=i:=⟨q0.toNat,by omega⟩
 have hi:i<x.lines.length:=by omega
 have hin:i<x.s.nodes.length:=by omega
 have hg:=aM (f:=mU) fE hi
 have wL:=aM (f:=bZ) ai hin
 have wK:∀ v,((x.lines.map mU).set i v)[i]? = some v:=fun v=>List.getElem?_set_self (by simpa using hi)
 simp only [k1,k2,k3,k4,decide_true,Bool.true_and,Int.toNat_natCast]
 have hN:ec x.s i=x.s.nodes.getD i ai:=rfl
 rw [hN]
 generalize x.s.nodes.getD i ai=n at *
 generalize x.lines.getD i fE=l at *
 obtain ⟨up,co,mo,ve,jo⟩:=n
 obtain ⟨lg,lhs,⟨p0,p1,p2,p3,p4,p5,p6,p7,p8,p9,p10⟩,ls,le,⟨r0,r1,r2,r3,r4,r5,r6,r7,r8,r9,r10⟩⟩:=l
 simp only [mU,nL,List.cons_append,List.nil_append] at hg
 simp only [bZ] at wL
 have g1:=decide_eq_false (show ¬ ((i:Nat):Int)<0 by omega)
 have g2:=decide_eq_false (show ¬ ((i:Nat):Int)≥(x.lines.length:Nat) by omega)
 have g3:=decide_eq_false (show ¬ q2>x.s.term by omega)
 cases hst:(up&&(!lhs||q2 !=x.s.term||q3 !=lg)) with
 | true=>
   simp only [Bool.not_true,Bool.false_eq_true,if_false]
   refine aT Tryz.func45 (by decide) wF rfl rfl (ck _ (Nat.le_refl 8) _) rfl ?_
   simp only [bT,dS,aR,List.length_set,IC,go_sem]
   refine eA [0,1,2,3,4,5,6,7] (ha) rfl ?_ (by decide) ?_ ?_ ?_ <;> simp only [ag,ah,go_sem,aU,bE,aK,aP]
   simp only [b1,g1,g2,g3,hi,hin,hg,wL,go_sem]
   cases up with
   | false=>simp at hst
   | true=>
   cases lhs with
   | false=>
     simp only [hi,hin,hg,wL,wK,mU,List.map_set,List.length_set,List.set_set,go_sem]
     (repeat (refine ay rfl ?_; (try simp only [hi,hin,hg,wL,wK,mU,List.map_set,List.length_set,List.set_set,go_sem])))
   | true=>
   cases t1:(q2 !=x.s.term) with
   | true=>
     simp only [t1,hi,hin,hg,wL,wK,mU,List.map_set,List.length_set,List.set_set,go_sem]
     (repeat (refine ay rfl ?_; (try simp only [hi,hin,hg,wL,wK,mU,List.map_set,List.length_set,List.set_set,go_sem])))
   | false=>
   cases t2:(q3 !=lg) with
   | true=>
     simp only [t1,t2,hi,hin,hg,wL,wK,mU,List.map_set,List.length_set,List.set_set,go_sem]
     (repeat (refine ay rfl ?_; (try simp only [hi,hin,hg,wL,wK,mU,List.map_set,List.length_set,List.set_set,go_sem])))
   | false=>simp [t1,t2] at hst
 | false=>
   simp only [Bool.not_false,if_true]
   refine aT Tryz.func45 (by decide) wF rfl rfl (ck _ (Nat.le_refl 8) _) rfl ?_
   simp only [bT,dS,aR,List.length_set,IC,go_sem]
   refine eA [0,1,2,3,4,5,6,7] (ha) rfl ?_ (by decide) ?_ ?_ ?_ <;> simp only [ag,ah,go_sem,aU,bE,aK,aP]
   simp only [b1,g1,g2,g3,hi,hin,hg,wL,wK,go_sem]
   cases up with
   | false=>
     simp only [hi,hin,hg,wL,wK,mU,List.map_set,List.length_set,List.set_set,go_sem]
     (repeat (refine ay rfl ?_; (try simp only [hi,hin,hg,wL,wK,mU,List.map_set,List.length_set,List.set_set,go_sem])))
   | true=>
   cases lhs with
   | false=>simp at hst
   | true=>
   cases t1:(q2 !=x.s.term) with
   | true=>simp [t1] at hst
   | false=>
   cases t2:(q3 !=lg) with
   | true=>simp [t1,t2] at hst
   | false=>
     simp only [t1,t2,hi,hin,hg,wL,wK,mU,List.map_set,List.length_set,List.set_set,go_sem]
     (repeat (refine ay rfl ?_; (try simp only [hi,hin,hg,wL,wK,mU,List.map_set,List.length_set,List.set_set,go_sem])))
end Dv
namespace Dv
open Go Go.Proofs
structure gQ (c:aF) (k:Nat) (x:aN):Prop where
 ok:BW x
 cf:x.c=c
 dn:x.down=false
 hr:∀ l∈x.lines,0≤l.heard∧l.heard≤1000000
 sz:∀ i,i<25→x.sh.getD i iB=iB
 nt:0≤x.ew∧x.ew≤k
theorem gQ.more {c:aF} {k k':Nat} {x:aN} (h:gQ c k x) (hk:k≤k'):gQ c k' x:=⟨h.ok,h.cf,h.dn,h.hr,h.sz,by have:=h.nt; omega⟩
theorem KY (ep:Int):ic iB ep=iB:=by
 unfold ic
 split <;> rfl
theorem R5 {sh:List lz} (h:∀ i,i<25→sh.getD i iB=iB) (j:Nat):∀ i,i<25→(sh.set j iB).getD i iB=iB:=by
 intro i hi
 have:=h i hi
 simp only [List.getD,List.getElem?_set] at *
 split
 ·split <;> rfl
 ·exact this
theorem gQ.note {c:aF} {k:Nat} {x:aN} (h:gQ c k x) (hk:k≤1000) (o:cB) {now:Int} (hn:0≤now∧now≤1000000):gQ c (k+1) (x.bR o now):=by
 refine ⟨h.ok.note o now,by rw [Kj]; exact h.cf,by rw [Ig]; exact h.dn,?_,?_,?_⟩
 ·unfold aN.bR
  split
  ·intro l hl
   change l∈nr now o x.lines at hl
   unfold nr at hl
   split at hl
   ·rcases List.mem_or_eq_of_mem_set hl with hl | rfl
    ·exact h.hr l hl
    ·show 0≤(if o.kind=8 then now else (x.lines.getD o.a.toNat fE).heard)∧(if o.kind=8 then now else (x.lines.getD o.a.toNat fE).heard)≤1000000
     split
     ·exact hn
     ·by_cases hlt:o.a.toNat<x.lines.length
      ·exact h.hr _ (by rw [List.getD,List.getElem?_eq_getElem hlt]; exact List.getElem_mem hlt)
      ·rw [List.getD,List.getElem?_eq_none (by omega)]
       exact ⟨Int.le_refl _,by show (0:Int)≤_; omega⟩
   ·exact h.hr l hl
  ·exact h.hr
 ·unfold aN.bR
  split
  ·intro i hi
   show (jC o x.sh).getD i iB=iB
   unfold jC
   split
   ·by_cases ha:o.a.toNat<25
    ·rw [h.sz _ ha,KY]; exact R5 h.sz _ i hi
    ·rw [List.set_eq_of_length_le (by have:=h.ok.sh; omega)]; exact h.sz i hi
   split
   ·exact R5 h.sz _ i hi
   ·exact h.sz i hi
  ·exact h.sz
 ·have:=h.nt
  unfold aN.bR
  split
  ·show 0≤IntKind.i64.wrap (x.ew+1)∧IntKind.i64.wrap (x.ew+1)≤((k+1:Nat):Int)
   rw [aO (by omega) (by omega)]
   omega
  ·show 0≤x.ew∧x.ew≤((k+1:Nat):Int)
   omega
theorem Fb (x:aN) (q:Option dL) (now:Int) (l:ny):(lN x q now l).1.heard=l.heard:=by
 unfold lN
 split
 ·rfl
 ·split
  ·rfl
  split <;> rfl
theorem gQ.JX {c:aF} {k:Nat} {y:aN} (h:gQ c k y) (had:Int→Int) (now:Int):∀ j,gQ c k (c_ y had now j).1
 | 0=>h
 | j+1=>by
   have ih:=gQ.JX h had now j
   refine ⟨⟨ih.ok.right,ih.ok.jn,ih.ok.sh,?_⟩,ih.cf,ih.dn,?_,ih.sz,ih.nt⟩
   ·show (List.set _ _ _).length=_
    rw [List.length_set]
    exact ih.ok.lines
   ·intro l hl
    change l∈(c_ y had now j).1.lines.set j _ at hl
    rcases List.mem_or_eq_of_mem_set hl with hl | rfl
    ·exact ih.hr l hl
    ·rw [Fb]
     by_cases hlt:j<(c_ y had now j).1.lines.length
     ·exact ih.hr _ (by rw [List.getD,List.getElem?_eq_getElem hlt]; exact List.getElem_mem hlt)
     ·rw [List.getD,List.getElem?_eq_none (by omega)]
      exact ⟨Int.le_refl _,by show (0:Int)≤_; omega⟩
theorem gQ.aay {c:aF} {k:Nat} {x:aN} (h:gQ c k x) (m:dL) {now:Int} (hn:0≤now∧now≤1000000):gQ c k (x.kP m now)∧(x.kP m now).s=x.s∧(x.kP m now).ew=x.ew:=by
 unfold aN.kP
 split
 ·refine ⟨⟨⟨h.ok.right,h.ok.jn,h.ok.sh,?_⟩,h.cf,h.dn,?_,h.sz,h.nt⟩,rfl,rfl⟩
  ·show (List.set _ _ _).length=_
   rw [List.length_set]
   exact h.ok.lines
  ·intro l hl
   rcases List.mem_or_eq_of_mem_set hl with hl | rfl
   ·exact h.hr l hl
   ·exact hn
 ·exact ⟨h,rfl,rfl⟩
end Dv
namespace Dv
open Go Go.Proofs
variable {G:Nat→Option (List DV)}
def X2:=qx Tryz.f193
theorem Ui:aj Tryz.prog Tryz.f193=some X2:=by kernel_rfl
def YL:=qx Tryz.f111
theorem U3:aj Tryz.prog Tryz.f111=some YL:=by kernel_rfl
def abC:=qx Tryz.f41
theorem Z0:aj Tryz.prog Tryz.f41=some abC:=by kernel_rfl
def jw (m:dL):List Int:=[m.node,m.kind,m.term,m.gen,m.aQ,m.inc,m.version,m.epoch,m.til,m.mode,m.work]
def CJ (l:List Int):List (List DV):=l.map fun n=>[i64 n]
theorem BF (m:dL):bu Tryz.prog G 193 [yt m] [] (.d (.dO 1 (CJ (jw m)))) []:=by
 refine cI Tryz.func193 (by decide) Ui rfl ?_
 simp only [X2,go_sem]
 exact dQ [1] rfl (by simp [St.obj,aC]) (by simp [St.obj,aC,aV,St.get,aY,ah,bK,jw,CJ,List.take_of_length_le])
def xJ (n:Int):Bool:=decide (0≤n)&&decide (n≤1000000)
def wh (m:dL):Bool:=(jw m).all xJ&&decide (m.node≤5)&&decide (1≤m.kind)&&decide (m.kind≤6)
def DN (m:dL) (k:Nat):St:=⟨[(1,.ptr 0 0),(2,.bool false),(3,.d (.dO 1 (CJ (jw m)))),(4,.int k)],[some (.box 87 [.int m.node,.int m.kind,.int m.term,.int m.gen,.int m.aQ,.int m.inc,.int m.version,.int m.epoch,.int m.til,.int m.mode,.int m.work])]⟩
theorem Fx (m:dL):bu Tryz.prog G 111 [yt m] [] (.bool (wh m)) []:=by
 have hn:=BF (G:=G) m
 refine bz Tryz.func111 (by decide) U3 rfl rfl ?_
 simp only [YL,go_sem]
 refine av (hn) rfl rfl rfl rfl ?_; simp only [go_sem]
 refine aW [1,2,3,4] [] (fun k:Nat=>k≤11∧((jw m).take k).all xJ=true) (fun k=>11-k) (DN m) 0 ?_ ⟨Nat.zero_le _,rfl⟩ (fun k hk=>?_)
 ·simp only [DN,Int.natCast_zero,go_sem]
 obtain ⟨hk,hall⟩:=hk
 have hlen:(jw m).length=11:=rfl
 have hlr:(CJ (jw m)).length=11:=by simp [CJ,jw]
 simp only [DN,hlr,go_sem]
 by_cases hlt:k<11
 ·have hg:(CJ (jw m))[k]? = some [i64 ((jw m).getD k 0)]:=aM (f:=fun n:Int=>[i64 n]) 0 (show k<(jw m).length by omega)
  have htk:(jw m).take (k+1)=(jw m).take k++[(jw m).getD k 0]:=by rw [List.take_add_one]; simp [List.getD,hlen,hlt]
  have hmem:(jw m).getD k 0∈jw m:=by
   rw [List.getD,List.getElem?_eq_getElem (by omega)]; exact List.getElem_mem _
  generalize (jw m).getD k 0=v at *
  simp only [decide_eq_true (show ((k:Nat):Int)<11 by omega),show (11:Int)=((11:Nat):Int) from rfl,go_sem]
  simp only [hg,go_sem]
  have AD:xJ v=false→wh m=false:=fun h=>by
   unfold wh
   rw [show (jw m).all xJ=false from List.all_eq_false.2 ⟨v,hmem,by rw [h]; decide⟩]
   rfl
  by_cases h0:v<0
  ·rw [AD (by unfold xJ; rw [decide_eq_false (by omega)]; rfl)]
   simp only [decide_eq_true h0,go_sem]
  by_cases h1:v>1000000
  ·rw [AD (by unfold xJ; rw [decide_eq_false (show ¬ v≤1000000 by omega),Bool.and_false])]
   simp only [decide_eq_false h0,decide_eq_true h1,hg,go_sem]
  simp only [decide_eq_false h0,decide_eq_false h1,hg,go_sem]
  refine bh (k+1) ?_ ?_ ⟨show k+1≤11 by omega,by
   rw [htk,List.all_append,hall]
   simp [xJ]
   omega⟩ (show 11-(k+1)<11-k by omega)
  ·simp only [go_sem]
  ·simp only [DN,aH (show k<9223372036854775807 by omega),go_sem]
 obtain rfl:k=11:=by omega
 have acy:(jw m).all xJ=true:=by rw [List.take_of_length_le (by omega)] at hall; exact hall
 unfold wh
 rw [acy]
 simp only [show decide (((11:Nat):Int)<11)=false from rfl,show (11:Int)=((11:Nat):Int) from rfl,go_sem]
 by_cases h5:m.node≤5
 ·by_cases h1:1≤m.kind
  ·simp only [decide_eq_true h5,decide_eq_true h1,decide_eq_true (show m.kind≥1 from h1),go_sem]
  ·simp only [decide_eq_true h5,decide_eq_false h1,decide_eq_false (show ¬ m.kind≥1 from h1),go_sem]
 ·simp only [decide_eq_false h5,go_sem]
structure vQ where
 kind:Int
 now:Int
 keep:Int
 o:cB
 m:dL
 sk:Int
 st:Int
 sj:Int
 se:Int
 sd:List Int
def JR (a:vQ):List DV:=[i64 a.kind,i64 a.now,i64 a.keep]++(opR a.o++(nL a.m++[i64 a.sk,i64 a.st,i64 a.sj,i64 a.se,.dO 1 (aB a.sd)]))
def G5:vQ:=⟨0,0,0,iA,jg,0,0,0,0,[]⟩
def jK (l:List vQ):LV:=.d (.dO 26 (l.map JR))
def BU (a:vQ):Bool:=decide (0≤a.now)&&decide (a.now≤1000000)&&wh a.m&&decide (a.sd.length≤200)
def Q_ (c:aF) (l:List vQ):Bool:=decide (l.length≤60)&&gH c&&decide (c.ga≤4000)&&l.all BU
def VP (c:aF) (l:List vQ) (k:Nat):St:=⟨[(1,jK l),(2,.ptr 0 0),(4,.bool false),(5,.int k)],[some (.box 23 [.int c.nodes,.int c.bL,.int c.cE,.int c.gT,.int c.cc,.int c.eG,.int c.deadline,.int c.room,.int c.ga])]⟩
theorem VN (c:aF) (l:List vQ):bu Tryz.prog G 41 [fN c,jK l] [] (.bool (Q_ c l)) []:=by
 have hmay:=Pq (G:=G) c
 refine bz Tryz.func41 (by decide) Z0 rfl rfl ?_
 simp only [abC,go_sem]
 simp only [jK,go_sem]
 unfold Q_
 by_cases h1:l.length≤60
 case neg=>simp only [decide_eq_true (show ((l.length:Nat):Int)>60 by omega),decide_eq_false h1,go_sem]
 simp only [decide_eq_false (show ¬ ((l.length:Nat):Int)>60 by omega),decide_eq_true h1,go_sem]
 refine av (hmay) rfl rfl rfl rfl ?_; simp only [go_sem]
 cases hm:gH c with
 | false=>simp only [go_sem]
 | true=>
 by_cases h2:c.ga≤4000
 case neg=>simp only [decide_eq_true (show c.ga>4000 by omega),decide_eq_false h2,go_sem]
 simp only [decide_eq_false (show ¬ c.ga>4000 by omega),decide_eq_true h2,go_sem]
 refine aW [1,2,4,5] [] (fun k:Nat=>k≤l.length∧(l.take k).all BU=true) (fun k=>l.length-k) (VP c l) 0 ?_ ⟨Nat.zero_le _,rfl⟩ (fun k hk=>?_)
 ·simp only [VP,jK,Int.natCast_zero,go_sem]
 obtain ⟨hk,hall⟩:=hk
 simp only [VP,jK,go_sem]
 by_cases hlt:k<l.length
 case neg=>
  obtain rfl:k=l.length:=by omega
  rw [List.take_length] at hall
  rw [hall]
  simp only [decide_eq_false (show ¬ ((l.length:Nat):Int)<((l.length:Nat):Int) by omega),go_sem]
 have hg:=aM (f:=JR) G5 hlt
 have htk:l.take (k+1)=l.take k++[l.getD k G5]:=by rw [List.take_add_one]; simp [List.getD,hlt]
 have hmem:l.getD k G5∈l:=by rw [List.getD,List.getElem?_eq_getElem hlt]; exact List.getElem_mem _
 generalize l.getD k G5=a at *
 have AD:BU a=false→l.all BU=false:=fun h=>List.all_eq_false.2 ⟨a,hmem,by rw [h]; decide⟩
 have hR:=Fx (G:=G) a.m
 simp only [JR,opR,nL,List.cons_append,List.nil_append] at hg
 simp only [decide_eq_true (show ((k:Nat):Int)<((l.length:Nat):Int) by omega),hg,hlt,go_sem]
 by_cases e0:a.now<0
 ·rw [AD (by unfold BU; rw [decide_eq_false (show ¬ 0≤a.now by omega)]; rfl)]
  simp only [decide_eq_true e0,hg,hlt,go_sem]
 by_cases e1:a.now>1000000
 ·rw [AD (by unfold BU; rw [decide_eq_false (show ¬ a.now≤1000000 by omega),Bool.and_false]; rfl)]
  simp only [decide_eq_false e0,decide_eq_true e1,hg,hlt,go_sem]
 simp only [decide_eq_false e0,decide_eq_false e1,hg,hlt,go_sem]
 refine av (hR) rfl rfl rfl rfl ?_; simp only [go_sem]
 cases hr:wh a.m with
 | false=>
   rw [AD (by unfold BU; rw [hr,Bool.and_false]; rfl)]
   simp only [go_sem]
 | true=>
 have yY:(aB a.sd).length=a.sd.length:=aD _
 simp only [hg,hlt,yY,go_sem]
 by_cases e2:a.sd.length≤200
 ·simp only [decide_eq_false (show ¬ ((a.sd.length:Nat):Int)>200 by omega),go_sem]
  refine bh (k+1) ?_ ?_ ⟨show k+1≤l.length by omega,by
   rw [htk,List.all_append,hall]
   simp [BU,hr,e2]
   omega⟩ (show l.length-(k+1)<l.length-k by omega)
  ·simp only [go_sem]
  ·simp only [VP,jK,aH (show k<9223372036854775807 by omega),go_sem]
 ·rw [AD (by unfold BU; rw [decide_eq_false e2,Bool.and_false])]
  simp only [decide_eq_true (show ((a.sd.length:Nat):Int)>200 by omega),go_sem]
theorem VO {c:aF} {l:List vQ} (h:Q_ c l=true):l.length≤60∧gH c=true∧c.ga≤4000∧∀ a∈l,0≤a.now∧a.now≤1000000:=by
 unfold Q_ at h
 simp only [Bool.and_eq_true,decide_eq_true_eq] at h
 refine ⟨h.1.1.1,h.1.1.2,h.1.2,fun a ha=>?_⟩
 have:=List.all_eq_true.1 h.2 a ha
 unfold BU at this
 simp only [Bool.and_eq_true,decide_eq_true_eq] at this
 exact ⟨this.1.1.1,this.1.1.2⟩
end Dv
