/- The logical machine and its plain laws: parts GF, G2, proved sound. -/
import Derived.Test.YtkalnfkokkjliaaGreatDoorDB
import Derived.Test.YtkalnfkokkjliaaGreatDoorP8
import Derived.Test.YtkalnfkokkjliaaGreatDoorR2
set_option linter.unusedVariables false
set_option linter.unusedSimpArgs false
namespace Dv
open Go Go.Proofs
variable {G:Nat→Option (List DV)}
def Qu:Nat×C×List RV:=(26,
(.seq (.af [qo 4 (.new 87 [q0,q0,q0,q0,q0,q0,q0,q0,q0,q0,q0])])
 (.seq (.seq (.af [qm 5 1,
 qo 6 (.bin .lss (.t 5) (qk 0)),
 qm 7 6,
 qg 8 (.mv (.t 1)) 7 false,
 qg 9 (.mv (.t 0)) 7 false,
 qg 10 (.len (.t 9)) 7 false,
 qg 11 (.bin .geq (.t 8) (.t 10)) 7 false,
 qo 12 (.pick (.t 7) qt (.t 11)),
 qm 13 12,
 qg 14 (.mv (.t 0)) 13 false,
 qg 15 (.mv (.t 1)) 13 false,
 qg 16 (.eG 11 (.t 14) (.t 15)) 13 false,
 qg 17 (.aj 1 (.t 16)) 13 false,
 qg 18 (.ld1 (.t 17)) 13 false,
 qg 19 (.bin .neq (.t 18) (qk 6)) 13 false,
 qo 20 (.pick (.t 13) qt (.t 19))])
 (.cond (.t 20) (.seq (.af [qo 21 (.build [q0,q0,q0,q0,q0,q0,q0,q0,q0,q0,q0] []),
 qn (.st 11 (.t 4) (.t 21))])
 .ret)
 .skip))
 (.seq (.af [qm 22 0,
 qm 23 1,
 qo 24 (.eG 11 (.t 22) (.t 23)),
 qo 25 (.bP 11 (.t 24)),
 qn (.st 11 (.t 4) (.t 25))])
 .ret))),
[(.cn 4 11)])
theorem M1:aq Tryz.prog Tryz.f277=some Qu:=by kernel_rfl
def Qt:Nat×C×List RV:=(11,
(.seq (.af [qo 1 (.box 87 (.t 0)),
 qo 2 (.mv qf)])
 (.seq (.af [qo 3 (.aj 1 (.t 1)),
 qo 4 (.ld1 (.t 3)),
 qo 5 (.bin .eql (.t 4) (qk 6)),
 qm 6 5,
 qg 7 (.aj 9 (.t 1)) 6 true,
 qg 8 (.ld1 (.t 7)) 6 true,
 qg 9 (.bin .eql (.t 8) (qk 0)) 6 true,
 qo 10 (.pick (.t 6) (.t 9) qf),
 qm 2 10])
 .ret)),
[(.t 2)])
theorem M0:aq Tryz.prog Tryz.f278=some Qt:=by kernel_rfl
def Qq:Nat×C×List RV:=(53,
(.seq (.af [qo 5 (.box 30 (.t 0)),
 qo 10 (.mv qf)])
 (.seq (.af [qm 12 1,
 qm 13 2,
 qo 14 (.call (.f 277) [(.t 12),(.t 13)]),
 qo 11 (.new 87 [q0,q0,q0,q0,q0,q0,q0,q0,q0,q0,q0]),
 qn (.st 11 (.t 11) (.t 14))])
 (.seq (.bQ [qo 15 (.aj 1 (.t 11)),
 qd 16 (.ld1 (.t 15)) [0],
 qd 17 (.bin .eql (.t 16) (qk 6)) [1,0],
 qd 18 (.mv (.t 17)) [2,1,0],
 qe 19 (.mv (.t 4)) 18 true [3,2,1,0],
 qe 20 (.bin .geq (.t 19) (qk 1)) 18 true [4,3,2,1,0],
 qd 21 (.pick (.t 18) (.t 20) qf) [3,2,1,0,5,4],
 qd 22 (.mv (.t 21)) [6,3,2,1,0,5,4],
 qe 23 (.mv (.t 4)) 22 true [7,6,3,2,1,0,5,4],
 qe 24 (.aj 1 (.t 5)) 22 true [7,6,3,2,1,0,5,4],
 qe 25 (.ld1 (.t 24)) 22 true [9,7,6,3,2,1,0,5,4],
 qe 26 (.len (.t 25)) 22 true [10,9,7,6,3,2,1,0,5,4],
 qe 27 (.bin .leq (.t 23) (.t 26)) 22 true [8,7,6,3,2,1,0,5,4,11,10,9],
 qd 28 (.pick (.t 22) (.t 27) qf) [7,6,3,2,1,0,5,4,12,8,11,10,9],
 qd 29 (.mv (.t 28)) [13,7,6,3,2,1,0,5,4,12,8,11,10,9],
 qe 30 (.aj 9 (.t 11)) 29 true [14,13,7,6,3,2,1,0,5,4,12,8,11,10,9],
 qe 31 (.ld1 (.t 30)) 29 true [15,14,13,7,6,3,2,1,0,5,4,12,8,11,10,9],
 qe 32 (.mv (.t 3)) 29 true [14,13,7,6,3,2,1,0,5,4,12,8,11,10,9],
 qe 33 (.bin .eql (.t 31) (.t 32)) 29 true [16,15,14,13,7,6,3,2,1,0,5,4,12,8,11,10,9,17],
 qd 34 (.pick (.t 29) (.t 33) qf) [14,13,7,6,3,2,1,0,5,4,12,8,11,10,9,18,16,15,17],
 qd 35 (.mv (.t 34)) [19,14,13,7,6,3,2,1,0,5,4,12,8,11,10,9,18,16,15,17],
 qe 36 (.aj 4 (.t 11)) 35 true [20,19,14,13,7,6,3,2,1,0,5,4,12,8,11,10,9,18,16,15,17],
 qe 37 (.ld1 (.t 36)) 35 true [21,20,19,14,13,7,6,3,2,1,0,5,4,12,8,11,10,9,18,16,15,17],
 qe 38 (.mv (.t 4)) 35 true [20,19,14,13,7,6,3,2,1,0,5,4,12,8,11,10,9,18,16,15,17],
 qe 39 (.bin .eql (.t 37) (.t 38)) 35 true [22,21,20,19,14,13,7,6,3,2,1,0,5,4,12,8,11,10,9,18,16,15,17,23],
 qd 40 (.pick (.t 35) (.t 39) qf) [20,19,14,13,7,6,3,2,1,0,5,4,12,8,11,10,9,18,16,15,17,24,22,21,23],
 qd 41 (.mv (.t 40)) [25,20,19,14,13,7,6,3,2,1,0,5,4,12,8,11,10,9,18,16,15,17,24,22,21,23],
 qe 42 (.aj 5 (.t 11)) 41 true [26,25,20,19,14,13,7,6,3,2,1,0,5,4,12,8,11,10,9,18,16,15,17,24,22,21,23],
 qe 43 (.ld1 (.t 42)) 41 true [27,26,25,20,19,14,13,7,6,3,2,1,0,5,4,12,8,11,10,9,18,16,15,17,24,22,21,23],
 qe 44 (.aj 1 (.t 5)) 41 true [26,25,20,19,14,13,7,6,3,2,1,0,5,4,12,8,11,10,9,18,16,15,17,24,22,21,23],
 qe 45 (.ld1 (.t 44)) 41 true [29,26,25,20,19,14,13,7,6,3,2,1,0,5,4,12,8,11,10,9,18,16,15,17,24,22,21,23],
 qe 46 (.mv (.t 4)) 41 true [26,25,20,19,14,13,7,6,3,2,1,0,5,4,12,8,11,10,9,18,16,15,17,24,22,21,23],
 qe 47 (.bin .sub (.t 46) (qk 1)) 41 true [31,26,25,20,19,14,13,7,6,3,2,1,0,5,4,12,8,11,10,9,18,16,15,17,24,22,21,23],
 qe 48 (.eG 12 (.t 45) (.t 47)) 41 true [30,29,26,25,20,19,14,13,7,6,3,2,1,0,5,4,12,8,11,10,9,18,16,15,17,24,22,21,23,32,31],
 qe 49 (.aj 7 (.t 48)) 41 true [33,30,29,26,25,20,19,14,13,7,6,3,2,1,0,5,4,12,8,11,10,9,18,16,15,17,24,22,21,23,32,31],
 qe 50 (.ld1 (.t 49)) 41 true [34,33,30,29,26,25,20,19,14,13,7,6,3,2,1,0,5,4,12,8,11,10,9,18,16,15,17,24,22,21,23,32,31],
 qe 51 (.bin .eql (.t 43) (.t 50)) 41 true [28,27,26,25,20,19,14,13,7,6,3,2,1,0,5,4,12,8,11,10,9,18,16,15,17,24,22,21,23,35,34,33,30,29,32,31],
 qd 52 (.pick (.t 41) (.t 51) qf) [26,25,20,19,14,13,7,6,3,2,1,0,5,4,12,8,11,10,9,18,16,15,17,24,22,21,23,36,28,27,35,34,33,30,29,32,31],
 qd 10 (.mv (.t 52)) [37,26,25,20,19,14,13,7,6,3,2,1,0,5,4,12,8,11,10,9,18,16,15,17,24,22,21,23,36,28,27,35,34,33,30,29,32,31]])
 .ret))),
[(.t 10)])
theorem MX:aq Tryz.prog Tryz.f281=some Qq:=by kernel_rfl
def Qs:Nat×C×List RV:=(7,
(.seq (.af [qo 4 (.box 3 (.t 0)),
 qo 5 (.mv (.c (.val .nilFunc)))])
 (.seq (.af [qo 6 (.zS (.func 280) [] [(.t 1),(.t 2),(.t 4),(.t 3)]),
 qm 5 6])
 .ret)),
[(.t 5)])
theorem MZ:aq Tryz.prog Tryz.f279=some Qs:=by kernel_rfl
def Qr:Nat×C×List RV:=(13,
(.seq (.af [qo 6 (.mv qf)])
 (.seq (.af [qo 7 (.bP 6 (.t 1)),
 qo 8 (.ld1 (.t 2)),
 qm 9 0,
 qo 10 (.ld1 (.t 3)),
 qo 11 (.ld1 (.t 4)),
 qo 12 (.call (.f 281) [(.t 7),(.t 8),(.t 9),(.t 10),(.t 11)]),
 qm 6 12])
 .ret)),
[(.t 6)])
theorem MY:aq Tryz.prog Tryz.f280=some Qr:=by kernel_rfl
def Qp:Nat×C×List RV:=(14,
(.seq (.af [qo 3 (.mv qf)])
 (.seq (.af [qo 4 (.ld1 (.t 1)),
 qo 5 (.call (.t 4) [(qk 1)]),
 qm 6 0,
 qo 7 (.call (.t 5) [(.t 6)]),
 qm 8 7,
 qg 9 (.ld1 (.t 1)) 8 false,
 qg 10 (.call (.t 9) [(qk 2)]) 8 false,
 qg 11 (.mv (.t 0)) 8 false,
 qg 12 (.call (.t 10) [(.t 11)]) 8 false,
 qo 13 (.pick (.t 8) qt (.t 12)),
 qm 3 13])
 .ret)),
[(.t 3)])
theorem MW:aq Tryz.prog Tryz.f283=some Qp:=by kernel_rfl
def Qo:Nat×C×List RV:=(19,
(.seq (.af [qo 5 (.mv qf)])
 (.seq (.seq (.bQ [qo 6 (.ld1 (.t 1)),
 qd 7 (.call (.t 6) [(qk 2)]) [0],
 qm 8 0])
 (.seq (.af [qd 9 (.call (.t 7) [(.t 8)]) [1,0,2]])
 (.bQ [qm 10 9,
 qe 11 (.ld1 (.t 2)) 10 true [0],
 qe 12 (.mv (.t 0)) 10 true [0],
 qe 13 (.call (.f 277) [(.t 11),(.t 12)]) 10 true [1,0,2],
 qe 14 (.KW 10 (.t 13)) 10 true [3,1,0,2],
 qe 15 (.aj 4 (.t 3)) 10 true [0],
 qe 16 (.ld1 (.t 15)) 10 true [5,0],
 qe 17 (.bin .geq (.t 14) (.t 16)) 10 true [4,3,1,0,2,6,5],
 qd 18 (.pick (.t 10) (.t 17) qf) [0,7,4,3,1,2,6,5],
 qd 5 (.mv (.t 18)) [8,0,7,4,3,1,2,6,5]])))
 .ret)),
[(.t 5)])
theorem MV:aq Tryz.prog Tryz.f284=some Qo:=by kernel_rfl
theorem pV (r:List dc) (i:Int):bw Tryz.prog G 277 [iu r,.int i] [] (vU (fq r i)) []:=by
 have hg:i.toNat<r.length→(r.map kV)[i.toNat]? = some (kV (r.getD i.toNat gO)):=fun h=>aL (f:=kV) gO h
 unfold fq
 generalize r.getD i.toNat gO=m at *
 refine bn Tryz.func277 (by decide) M1 rfl rfl ?_
 simp only [Qu,go_sem,simprocAttr]
 cases h1:decide (i<0) with
 | true=>
   have xz:i<0:=of_decide_eq_true h1
   simp only [xz,go_sem,simprocAttr]
 | false=>
 have xz:¬ i<0:=of_decide_eq_false h1
 simp only [xz,false_or,go_sem,simprocAttr]
 cases h2:decide (i≥(r.length:Int)) with
 | true=>
   have CH:(r.length:Int)≤i:=of_decide_eq_true h2
   simp only [CH,go_sem,simprocAttr]
 | false=>
 have CH:¬ (r.length:Int)≤i:=of_decide_eq_false h2
 have h0:0≤i:=by omega
 have hg:=hg (by omega)
 rw [if_neg CH]
 simp only [h0,hg,go_sem,simprocAttr]
 cases h3:(m.kind !=6) with
 | true=>
   have D6:¬ m.kind=6:=by simpa using h3
   rw [if_neg D6]
   simp only [go_sem,simprocAttr]
 | false=>
   have D6:m.kind=6:=by simpa using h3
   rw [if_pos D6]
   simp only [h0,hg,go_sem,simprocAttr]
theorem Kf (m:dc):bw Tryz.prog G 278 [vU m] [] (.bool (Fq m)) []:=by
 refine bn Tryz.func278 (by decide) M0 rfl rfl ?_
 simp only [Qt,go_sem,simprocAttr]
 unfold Fq
 repeat' (first | ((first | with_reducible refine dN (fun h=>?_) (fun h=>?_) | refine cN (fun h=>?_) (fun h=>?_)) <;> simp only [h,go_sem,simprocAttr]) | ((first | with_reducible refine xq (fun h=>?_) (fun h=>?_) | refine fW (fun h=>?_) (fun h=>?_)) <;> simp only [h,go_sem,simprocAttr]))
theorem IP (s:aa) (r:List dc) (node mode aN:Int) (hl:s.jobs.length≤1000):bw Tryz.prog G 281 [bp s,iu r,.int node,.int mode,.int aN] [] (.bool (jf s r node mode aN)) []:=by
 unfold jf
 have hg:(aN-1).toNat<s.jobs.length→(s.jobs.map dh)[(aN-1).toNat]? = some (dh (s.jobs.getD (aN-1).toNat ax)):=fun h=>aL (f:=dh) ax h
 generalize s.jobs.getD (aN-1).toNat ax=j at *
 refine bn Tryz.func281 (by decide) MX rfl rfl ?_
 simp only [Qq,go_sem,simprocAttr]
 refine aC (pV r node) rfl rfl rfl rfl ?_; simp only [go_sem,simprocAttr]
 generalize fq r node=m at *
 cases h1:(m.kind==6) <;> simp only [go_sem,simprocAttr]
 cases h2:decide (aN≥1) with
 | false=>simp only [go_sem,simprocAttr]
 | true=>
 simp only [go_sem,simprocAttr]
 cases h3:decide (aN≤(s.jobs.length:Int)) <;> simp only [go_sem,simprocAttr]
 cases h4:(m.mode==mode) <;> simp only [go_sem,simprocAttr]
 cases h5:(m.aN==aN) <;> simp only [go_sem,simprocAttr]
 have CH:1≤aN:=of_decide_eq_true h2
 have D6:aN≤s.jobs.length:=of_decide_eq_true h3
 have Y9:0≤aN-1:=by omega
 have hw:IntKind.i64.wrap (aN-1)=aN-1:=aO (by omega) (by omega)
 have hg:=hg (by omega)
 simp only [hw,hg,Y9,go_sem,simprocAttr]
def gP (s:aa):aD:=.box 30 [bZ s.nodes,dg s.jobs,.int s.goal,.int s.prior,.int s.mode,.int s.term]
def rB (r:List dc):aD:=.box 94 [iu r]
def nV (x:Int):aD:=.box 3 [.int x]
def tN:aD:=.box 323 [.fn (.func 279) [] [.ptr 0 0,.ptr 1 0,.ptr 2 0]]
def JW (j:bU):aD:=.box 119 [.int j.queue,.int j.prio,.int j.min,.int j.max,.int j.work,.int j.pin,.int j.phase,.int j.inc,.int j.nodes,.int j.since,.int j.til,.int j.epoch]
attribute [local go_sem] gP rB nV tN JW
theorem lZ (s:aa) (r:List dc) (node mode aN:Int) (hl:s.jobs.length≤1000) :
  bw Tryz.prog G 280 [.int node,.ptr 0 0,.ptr 1 0,.ptr 3 0,.ptr 2 0] [gP s,rB r,nV aN,nV mode] (.bool (jf s r node mode aN)) [gP s,rB r,nV aN,nV mode]:=by
 refine CS Tryz.func280 (by decide) MY rfl rfl rfl rfl ?_
 simp only [Qr,go_sem,simprocAttr]
 refine aC (IP s r node mode aN hl) rfl rfl rfl rfl ?_; simp only [go_sem,simprocAttr]
theorem ou (s:aa) (r:List dc) (mode aN:Int) :
  bw Tryz.prog G 279 [.int mode,.ptr 0 0,.ptr 1 0,.ptr 2 0] [gP s,rB r,nV aN] (.fn (.func 280) [] [.ptr 0 0,.ptr 1 0,.ptr 3 0,.ptr 2 0]) [gP s,rB r,nV aN,nV mode]:=by
 refine cG Tryz.func279 (by decide) MZ rfl ?_
 simp only [Qs,go_sem,simprocAttr]
 refine dF [] [0,1,2,3] [] rfl rfl (by decide) (by simp) (by simp) rfl rfl ?_
 show ai _ _ _ (.fn (.func 280) [] [.ptr 0 0,.ptr 1 0,.ptr 3 0,.ptr 2 0]) _
 simp [ai,ah]
theorem Hu (s:aa) (r:List dc) (node aN:Int) (hl:s.jobs.length≤1000) :
  bw Tryz.prog G 283 [.int node,.ptr 3 0] [gP s,rB r,nV aN,tN] (.bool (jf s r node 1 aN||jf s r node 2 aN)) [gP s,rB r,nV aN,tN]:=by
 refine aR Tryz.func283 (by decide) MW rfl rfl rfl rfl ?_
 simp only [Qp,go_sem,simprocAttr]
 refine aK [0,1,2] (ou s r 1 aN) rfl ?_ (by decide) ?_ ?_ (by simp) ?_ <;> simp only [ah,ai,go_sem,simprocAttr]
 refine aK [0,1,2,4] (lZ s r node 1 aN hl) rfl ?_ (by decide) ?_ ?_ (by simp) ?_ <;> simp only [ah,ai,go_sem,simprocAttr]
 cases h1:jf s r node 1 aN with
 | true=>simp only [go_sem,simprocAttr]
 | false=>
 simp only [go_sem,simprocAttr]
 refine aK [0,1,2] (ou s r 2 aN) rfl ?_ (by decide) ?_ ?_ (by simp) ?_ <;> simp only [ah,ai,go_sem,simprocAttr]
 refine aK [0,1,2,5] (lZ s r node 2 aN hl) rfl ?_ (by decide) ?_ ?_ (by simp) ?_ <;> simp only [ah,ai,go_sem,simprocAttr]
theorem Ht (s:aa) (r:List dc) (node aN:Int) (j:bU) (hl:s.jobs.length≤1000) :
  bw Tryz.prog G 284 [.int node,.ptr 3 0,.ptr 1 0,.ptr 4 0] [gP s,rB r,nV aN,tN,JW j] (.bool (jf s r node 2 aN&&decide (j.work≤(fq r node).work))) [gP s,rB r,nV aN,tN,JW j]:=by
 refine aR Tryz.func284 (by decide) MV rfl rfl rfl rfl ?_
 simp only [Qo,go_sem,simprocAttr]
 refine eS [0,1,2] (ou s r 2 aN) rfl ?_ (by decide) ?_ ?_ (by simp) ?_ <;> simp only [ah,ai,go_sem,simprocAttr]
 refine av (by decide) ?_
 simp only [go_sem,simprocAttr]
 refine aK [0,1,2,5] (lZ s r node 2 aN hl) rfl ?_ (by decide) ?_ ?_ (by simp) ?_ <;> simp only [ah,ai,go_sem,simprocAttr]
 cases h1:jf s r node 2 aN with
 | false=>
   simp only [go_sem,simprocAttr]
 | true=>
 simp only [go_sem,simprocAttr]
 refine bf (pV r node) rfl rfl rfl rfl ?_; simp only [go_sem,simprocAttr]
end Dv
namespace Dv
open Go Go.Proofs
variable {G:Nat→Option (List DV)}
def QJ:Nat×C×List RV:=(61,
(.seq (.af [qo 4 (.box 30 (.t 0)),
 qo 5 (.box 94 (.t 1)),
 qo 6 (.box 3 (.t 2)),
 qo 8 (.new 37 [q0,q0,q0,q0,q0,q0,q0]),
 qo 9 (.mv qf)])
 (.seq (.af [qo 15 (.aj 1 (.t 4)),
 qo 16 (.ld1 (.t 15)),
 qo 17 (.ld1 (.t 6)),
 qo 18 (.bin .sub (.t 17) (qk 1)),
 qo 19 (.eG 12 (.t 16) (.t 18)),
 qo 20 (.bP 12 (.t 19)),
 qo 10 (.new 119 [q0,q0,q0,q0,q0,q0,q0,q0,q0,q0,q0,q0]),
 qn (.st 12 (.t 10) (.t 20))])
 (.seq (.af [qo 21 (.zS (.func 279) [] [(.t 4),(.t 5),(.t 6)]),
 qo 11 (.new 323 [(.val .nilFunc)]),
 qn (.st 1 (.t 11) (.t 21))])
 (.seq (.seq (.af [qo 22 (.aj 6 (.t 10)),
 qo 23 (.ld1 (.t 22))])
 (.block 0 (.seq (.af [qo 25 (.bin .eql (.t 23) (qk 1)),
 qm 24 25])
 (.cond (.t 24) (.seq (.af [qo 26 (.bP 12 (.t 10)),
 qo 27 (.zS (.func 283) [] [(.t 11)]),
 qo 28 (.call (.f 282) [(.t 26),(.t 27)]),
 qm 12 28])
 (.seq (.af [qo 29 (.ld1 (.t 6)),
 qm 30 3,
 qo 31 (.build [q0,q0,q0,q0,q0,q0,q0] [(0,1,(qk 10)),(1,1,(.t 29)),(2,1,(.t 30))]),
 qm 32 12,
 qn (.st 7 (.t 8) (.t 31)),
 qm 9 32])
 .ret))
 (.seq (.af [qo 34 (.bin .eql (.t 23) (qk 2)),
 qm 33 34])
 (.cond (.t 33) (.seq (.af [qo 35 (.bP 12 (.t 10)),
 qo 36 (.zS (.func 284) [] [(.t 11),(.t 5),(.t 10)]),
 qo 37 (.call (.f 282) [(.t 35),(.t 36)]),
 qm 13 37])
 (.seq (.af [qo 38 (.ld1 (.t 6)),
 qo 39 (.build [q0,q0,q0,q0,q0,q0,q0] [(0,1,(qk 15)),(1,1,(.t 38))]),
 qm 40 13,
 qn (.st 7 (.t 8) (.t 39)),
 qm 9 40])
 .ret))
 (.seq (.af [qo 42 (.bin .eql (.t 23) (qk 3)),
 qm 41 42])
 (.cond (.t 41) (.seq (.bQ [qo 43 (.bP 12 (.t 10)),
 qo 44 (.ld1 (.t 11)),
 qd 45 (.call (.t 44) [(qk 3)]) [1],
 qd 46 (.call (.f 282) [(.t 43),(.t 45)]) [0,2,1],
 qd 14 (.mv (.t 46)) [3,0,2,1]])
 (.seq (.seq (.af [qo 47 (.aj 11 (.t 10)),
 qo 48 (.ld1 (.t 47)),
 qo 49 (.aj 7 (.t 10)),
 qo 50 (.ld1 (.t 49)),
 qo 51 (.bin .lss (.t 48) (.t 50))])
 (.cond (.t 51) (.seq (.af [qo 52 (.ld1 (.t 6)),
 qo 53 (.aj 7 (.t 10)),
 qo 54 (.ld1 (.t 53)),
 qo 55 (.build [q0,q0,q0,q0,q0,q0,q0] [(0,1,(qk 13)),(1,1,(.t 52)),(2,1,(.t 54))]),
 qm 56 14,
 qn (.st 7 (.t 8) (.t 55)),
 qm 9 56])
 .ret)
 .skip))
 (.seq (.af [qo 57 (.ld1 (.t 6)),
 qo 58 (.build [q0,q0,q0,q0,q0,q0,q0] [(0,1,(qk 14)),(1,1,(.t 57))]),
 qm 59 14,
 qn (.st 7 (.t 8) (.t 58)),
 qm 9 59])
 .ret)))
 .skip))))))))
 (.seq (.af [qo 60 (.build [q0,q0,q0,q0,q0,q0,q0] []),
 qn (.st 7 (.t 8) (.t 60)),
 qo 9 (.mv qf)])
 .ret))))),
[(.cn 8 7),(.t 9)])
theorem Ng:aq Tryz.prog Tryz.f244=some QJ:=by kernel_rfl
def QK:Nat×C×List RV:=(55,
(.seq (.af [qo 3 (.box 30 (.t 0)),
 qo 6 (.new 37 [q0,q0,q0,q0,q0,q0,q0]),
 qo 7 (.mv qf)])
 (.seq (.bQ [qo 10 (.aj 0 (.t 3)),
 qd 11 (.ld1 (.t 10)) [0],
 qm 12 2,
 qd 13 (.eG 5 (.t 11) (.t 12)) [1,0,2],
 qd 14 (.bP 5 (.t 13)) [3,1,0,2],
 qm 15 1,
 qm 16 2,
 qd 17 (.call (.f 277) [(.t 15),(.t 16)]) [5,6],
 qo 8 (.new 102 [(.val (.bool false)),(.val (.bool false)),(.val (.bool false)),q0,q0]),
 qo 9 (.new 87 [q0,q0,q0,q0,q0,q0,q0,q0,q0,q0,q0]),
 ql (.st 5 (.t 8) (.t 14)) [8,4,3,1,0,2,7,5,6,9],
 ql (.st 11 (.t 9) (.t 17)) [9,7,5,6,10,8,4,3,1,0,2]])
 (.seq (.block 0 (.seq (.af [qo 19 (.bP 11 (.t 9)),
 qo 20 (.call (.f 278) [(.t 19)]),
 qo 21 (.not (.t 20)),
 qm 18 21])
 (.cond (.t 18) .skip
 (.seq (.af [qo 23 (.aj 0 (.t 8)),
 qo 24 (.ld1 (.t 23)),
 qo 25 (.not (.t 24)),
 qm 26 25,
 qg 27 (.aj 6 (.t 9)) 26 true,
 qg 28 (.ld1 (.t 27)) 26 true,
 qg 29 (.bin .geq (.t 28) (qk 1)) 26 true,
 qo 30 (.pick (.t 26) (.t 29) qf),
 qm 31 30,
 qg 32 (.aj 6 (.t 9)) 31 true,
 qg 33 (.ld1 (.t 32)) 31 true,
 qg 34 (.bin .leq (.t 33) (qk 9)) 31 true,
 qo 35 (.pick (.t 31) (.t 34) qf),
 qm 22 35])
 (.cond (.t 22) (.seq (.af [qm 36 2,
 qo 37 (.aj 6 (.t 9)),
 qo 38 (.ld1 (.t 37)),
 qo 39 (.build [q0,q0,q0,q0,q0,q0,q0] [(0,1,(qk 8)),(1,1,(.t 36)),(2,1,(.t 38))]),
 qn (.st 7 (.t 6) (.t 39)),
 qo 7 (.mv qt)])
 .ret)
 (.seq (.bQ [qo 41 (.aj 2 (.t 8)),
 qd 42 (.ld1 (.t 41)) [0],
 qd 43 (.mv (.t 42)) [1,0],
 qe 44 (.aj 6 (.t 9)) 43 true [2,1,0],
 qe 45 (.ld1 (.t 44)) 43 true [3,2,1,0],
 qe 46 (.bP 6 (.t 3)) 43 true [2,1,0],
 qe 47 (.call (.f 220) [(.t 46)]) 43 true [5,2,1,0],
 qe 48 (.bin .eql (.t 45) (.t 47)) 43 true [4,3,2,1,0,6,5],
 qd 49 (.pick (.t 43) (.t 48) qf) [2,1,0,7,4,3,6,5],
 qd 40 (.mv (.t 49)) [8,2,1,0,7,4,3,6,5]])
 (.cond (.t 40) (.seq (.af [qm 50 2,
 qo 51 (.aj 6 (.t 9)),
 qo 52 (.ld1 (.t 51)),
 qo 53 (.build [q0,q0,q0,q0,q0,q0,q0] [(0,1,(qk 19)),(1,1,(.t 50)),(2,1,(.t 52))]),
 qn (.st 7 (.t 6) (.t 53)),
 qo 7 (.mv qt)])
 .ret)
 .skip)))))))
 (.seq (.af [qo 54 (.build [q0,q0,q0,q0,q0,q0,q0] []),
 qn (.st 7 (.t 6) (.t 54)),
 qo 7 (.mv qf)])
 .ret)))),
[(.cn 6 7),(.t 7)])
theorem Nh:aq Tryz.prog Tryz.f243=some QK:=by kernel_rfl
def Q_:Nat×C×List RV:=(63,
(.seq (.af [qo 3 (.box 30 (.t 0)),
 qo 6 (.new 37 [q0,q0,q0,q0,q0,q0,q0]),
 qo 7 (.mv qf)])
 (.seq (.seq (.af [qo 17 (.build [(.val (.bool false)),(.val (.bool false))] [(0,1,qf),(1,1,qt)]),
 qo 18 (.mv (qk 0))])
 (.block 0 (.loop (.seq (.af [qo 19 (.bin .lss (.t 18) (qk 2))])
 (.seq (.cond (.t 19) .skip
 (.exit 0))
 (.seq (.block 1 (.seq (.af [qo 20 (.UB 2 (.t 17) (.t 18)),
 qm 9 20])
 (.seq (.af [qo 21 (.aj 0 (.t 3)),
 qo 22 (.ld1 (.t 21)),
 qo 23 (.len (.t 22)),
 qo 24 (.mv (qk 0))])
 (.block 2 (.loop (.seq (.af [qo 25 (.bin .lss (.t 24) (.t 23))])
 (.seq (.cond (.t 25) .skip
 (.exit 2))
 (.seq (.block 3 (.seq (.af [qm 26 24,
 qo 27 (.eG 5 (.t 22) (.t 24)),
 qo 28 (.bP 5 (.t 27)),
 qo 11 (.new 102 [(.val (.bool false)),(.val (.bool false)),(.val (.bool false)),q0,q0]),
 qm 10 26,
 qn (.st 5 (.t 11) (.t 28))])
 (.seq (.seq (.af [qo 29 (.aj 0 (.t 11)),
 qo 30 (.ld1 (.t 29)),
 qm 31 9,
 qo 32 (.T8 true (.t 30) (.t 31))])
 (.cond (.t 32) (.exit 3)
 .skip))
 (.seq (.af [qo 34 (.bP 6 (.t 3)),
 qm 35 1,
 qm 36 10,
 qo 37 (.call (.f 243) [(.t 34),(.t 35),(.t 36)]),
 qm 33 37,
 qo 38 (.ext (.t 33) 0),
 qo 39 (.ext (.t 33) 1),
 qo 12 (.new 37 [q0,q0,q0,q0,q0,q0,q0]),
 qn (.st 7 (.t 12) (.t 38)),
 qm 13 39])
 (.seq (.af [qm 40 13])
 (.cond (.t 40) (.seq (.af [qo 41 (.bP 7 (.t 12)),
 qn (.st 7 (.t 6) (.t 41)),
 qo 7 (.mv qt)])
 .ret)
 .skip))))))
 (.af [qo 42 (.bin .add (.t 24) (qk 1)),
 qm 24 42])))))))))
 (.af [qo 43 (.bin .add (.t 18) (qk 1)),
 qm 18 43])))))))
 (.seq (.seq (.af [qo 44 (.aj 1 (.t 3)),
 qo 45 (.ld1 (.t 44)),
 qo 46 (.len (.t 45)),
 qo 47 (.mv (qk 0))])
 (.block 4 (.loop (.seq (.af [qo 48 (.bin .lss (.t 47) (.t 46))])
 (.seq (.cond (.t 48) .skip
 (.exit 4))
 (.seq (.block 5 (.seq (.af [qm 49 47,
 qm 14 49])
 (.seq (.af [qo 51 (.bP 6 (.t 3)),
 qm 52 1,
 qm 53 14,
 qo 54 (.bin .add (.t 53) (qk 1)),
 qm 55 2,
 qo 56 (.call (.f 244) [(.t 51),(.t 52),(.t 54),(.t 55)]),
 qm 50 56,
 qo 57 (.ext (.t 50) 0),
 qo 58 (.ext (.t 50) 1),
 qo 15 (.new 37 [q0,q0,q0,q0,q0,q0,q0]),
 qn (.st 7 (.t 15) (.t 57)),
 qm 16 58])
 (.seq (.af [qm 59 16])
 (.cond (.t 59) (.seq (.af [qo 60 (.bP 7 (.t 15)),
 qn (.st 7 (.t 6) (.t 60)),
 qo 7 (.mv qt)])
 .ret)
 .skip)))))
 (.af [qo 61 (.bin .add (.t 47) (qk 1)),
 qm 47 61])))))))
 (.seq (.af [qo 62 (.build [q0,q0,q0,q0,q0,q0,q0] []),
 qn (.st 7 (.t 6) (.t 62)),
 qo 7 (.mv qf)])
 .ret)))),
[(.cn 6 7),(.t 7)])
theorem NA:aq Tryz.prog Tryz.f199=some Q_:=by kernel_rfl
def Ra:Nat×C×List RV:=(34,
(.seq (.af [qo 8 (.mv (qk 0))])
 (.seq (.seq (.af [qm 10 0,
 qo 11 (.len (.t 10)),
 qm 12 1,
 qo 13 (.len (.t 12)),
 qo 14 (.min (.t 11) (.t 13)),
 qo 15 (.mv (qk 0))])
 (.block 0 (.loop (.seq (.af [qo 16 (.bin .lss (.t 15) (.t 14))])
 (.seq (.cond (.t 16) .skip
 (.exit 0))
 (.seq (.block 1 (.seq (.af [qm 17 15,
 qm 9 17])
 (.seq (.af [qm 18 0,
 qm 19 9,
 qo 20 (.eG 1 (.t 18) (.t 19)),
 qo 21 (.ld1 (.t 20)),
 qm 22 21,
 qg 23 (.mv (.t 3)) 22 true,
 qg 24 (.mv (.t 1)) 22 true,
 qg 25 (.mv (.t 9)) 22 true,
 qg 26 (.eG 1 (.t 24) (.t 25)) 22 true,
 qg 27 (.ld1 (.t 26)) 22 true,
 qg 28 (.mv (.t 2)) 22 true,
 qg 29 (.bin .add (.t 27) (.t 28)) 22 true,
 qg 30 (.bin .geq (.t 23) (.t 29)) 22 true,
 qo 31 (.pick (.t 22) (.t 30) qf)])
 (.cond (.t 31) (.seq (.af [qm 32 9,
 qm 8 32])
 .ret)
 .skip))))
 (.af [qo 33 (.bin .add (.t 15) (qk 1)),
 qm 15 33])))))))
 (.seq (.af [qo 8 (.mv (.c (.val (.int .i64 (-1)))))])
 .ret))),
[(.t 8)])
theorem NB:aq Tryz.prog Tryz.f198=some Ra:=by kernel_rfl
attribute [local go_sem] gP rB nV tN JW
theorem Hx (m:Int) (tk:Nat→Bool):qi m (fun i=>tk i.val)=mA m tk:=by
 simp only [qi,mA,eD,show List.range 6=[0,1,2,3,4,5] from rfl,List.all_cons,List.all_nil,List.all_append]
 simp only [show (0:Nat)<6 from by decide,show (1:Nat)<6 from by decide,show (2:Nat)<6 from by decide,show (3:Nat)<6 from by decide,show (4:Nat)<6 from by decide,show (5:Nat)<6 from by decide,dite_true]
 cases hasB m 0 <;> cases hasB m 1 <;> cases hasB m 2 <;> cases hasB m 3 <;> cases hasB m 4 <;> cases hasB m 5 <;> (first | rfl | (simp only [Bool.and_true,Bool.true_and,Bool.false_or,Bool.not_true,Bool.not_false,Bool.true_or,List.all_cons,List.all_nil,Bool.and_assoc,if_true,Bool.false_eq_true,if_false] <;> rfl))
theorem qj (j:bU) (t:Nat) (first caps:List LV) (objs:List aD) (hno:((objs.map some).all fun x=>match x with | some (.mp _)=>false | _=>true)=true) (tk:Nat→Bool) (hT:∀ i:Nat,bw Tryz.prog G t (first++[.int i]++caps) objs (.bool (tk i)) objs) :
  bw Tryz.prog G 282 [zW j,.fn (.func t) first caps] objs (.bool (mA j.nodes tk)) objs:=by
 rw [← Hx]
 exact Hw j t first caps objs hno (fun i=>tk i.val) (fun i=>hT i.val)
theorem KS (s:aa) (r:List dc) (aN now:Int) (hl:s.jobs.length≤1000) (h1:1≤aN) (h2:aN≤s.jobs.length) :
  bw Tryz.prog G 244 [bp s,iu r,.int aN,.int now] [] (.dP [uN (BZ s r aN now (s.jobs.getD (aN-1).toNat ax)).1,.bool (BZ s r aN now (s.jobs.getD (aN-1).toNat ax)).2]) []:=by
 have hg:=aL (f:=dh) ax (show (aN-1).toNat<s.jobs.length by omega)
 generalize s.jobs.getD (aN-1).toNat ax=j at *
 have Y9:0≤aN-1:=by omega
 have hw:IntKind.i64.wrap (aN-1)=aN-1:=aO (by omega) (by omega)
 have hold:=qj (G:=G) j 283 [] [.ptr 3 0] [gP s,rB r,nV aN,tN] rfl _ (fun i=>Hu s r i aN hl)
 have work:=qj (G:=G) j 284 [] [.ptr 3 0,.ptr 1 0,.ptr 4 0] [gP s,rB r,nV aN,tN,JW j] rfl _ (fun i=>Ht s r i aN j hl)
 have kept:=qj (G:=G) j 280 [] [.ptr 0 0,.ptr 1 0,.ptr 3 0,.ptr 2 0] [gP s,rB r,nV aN,nV 3] rfl _ (fun i=>lZ s r i 3 aN hl)
 unfold BZ
 generalize mA j.nodes (fun i=>jf s r i 1 aN||jf s r i 2 aN)=e1 at *
 generalize mA j.nodes (fun i=>jf s r i 2 aN&&decide (j.work≤(fq r i).work))=e2 at *
 generalize mA j.nodes (fun i=>jf s r i 3 aN)=e3 at *
 refine bn Tryz.func244 (by decide) Ng rfl rfl ?_
 simp only [QJ,go_sem,simprocAttr]
 simp only [hw,hg,Y9,go_sem,simprocAttr]
 cases hp1:(j.phase==1) with
 | true=>
   have DS:j.phase=1:=by simpa using hp1
   rw [if_pos DS]
   simp only [go_sem,simprocAttr]
   refine aK [0,1,2,5] (hold) rfl ?_ (by decide) ?_ ?_ (by simp) ?_ <;> simp only [ah,ai,go_sem,simprocAttr]
 | false=>
 have DS:¬ j.phase=1:=by simpa using hp1
 rw [if_neg DS]
 simp only [go_sem,simprocAttr]
 cases hp2:(j.phase==2) with
 | true=>
   have hp2':j.phase=2:=by simpa using hp2
   rw [if_pos hp2']
   simp only [go_sem,simprocAttr]
   refine aK [0,1,2,5,4] (work) rfl ?_ (by decide) ?_ ?_ (by simp) ?_ <;> simp only [ah,ai,go_sem,simprocAttr]
 | false=>
 have hp2':¬ j.phase=2:=by simpa using hp2
 rw [if_neg hp2']
 simp only [go_sem,simprocAttr]
 cases hp3:(j.phase==3) with
 | true=>
   have TH:j.phase=3:=by simpa using hp3
   rw [if_pos TH]
   simp only [go_sem,simprocAttr]
   refine eS [0,1,2] (ou s r 3 aN) rfl ?_ (by decide) ?_ ?_ (by simp) ?_ <;> simp only [ah,ai,go_sem,simprocAttr]
   refine eS [0,1,2,6] (kept) rfl ?_ (by decide) ?_ ?_ (by simp) ?_ <;> simp only [ah,ai,go_sem,simprocAttr]
   refine av (by decide) ?_
   simp only [go_sem,simprocAttr]
   cases he:decide (j.epoch<j.inc) with
   | true=>
     rw [if_pos (of_decide_eq_true he)]
     simp only [go_sem,simprocAttr]
   | false=>
     rw [if_neg (of_decide_eq_false he)]
     simp only [go_sem,simprocAttr]
 | false=>
 have TH:¬ j.phase=3:=by simpa using hp3
 rw [if_neg TH]
 simp only [go_sem,simprocAttr]
def lD (o:Option cH):LV:=.dP [uN (o.getD gh),.bool o.isSome]
theorem Jz (s:aa) (r:List dc) (k:Nat) (hk:k<s.nodes.length) :
  bw Tryz.prog G 243 [bp s,iu r,.int k] [] (lD (EJ s (fq r k) (s.nodes.getD k ag) k)) []:=by
 have hg:=aL (f:=ck) ag hk
 have hT:=pV (G:=G) r k
 generalize s.nodes.getD k ag=n at *
 generalize fq r k=m at *
 obtain ⟨up,co,mo,ve,jo⟩:=n
 have hM:=iE (G:=G) s
 unfold EJ
 generalize fk s=ms at *
 refine bn Tryz.func243 (by decide) Nh rfl rfl ?_
 simp only [QK,go_sem,simprocAttr]
 simp only [hg,go_sem,simprocAttr]
 refine bf (hT) rfl rfl rfl rfl ?_; simp only [go_sem,simprocAttr]
 refine av (by decide) ?_
 simp only [go_sem,simprocAttr]
 refine aC (Kf m) rfl rfl rfl rfl ?_; simp only [go_sem,simprocAttr]
 generalize Fq m=b at *
 cases b with
 | false=>simp only [go_sem,simprocAttr,lD,Option.getD_none,Option.isSome_none]
 | true=>
 have e:∀ A B:Option cH,(if true=false then none else if up=false∧1≤m.version∧m.version≤9 then A else if mo=true∧m.version=ms then B else none)=if (!up&&decide (m.version≥1)&&decide (m.version≤9))=true then A else if (mo&&(m.version==ms))=true then B else none:=fun A B=>by
  simp only [Bool.and_eq_true,Bool.not_eq_true',decide_eq_true_eq,beq_iff_eq,and_assoc,ge_iff_le,Bool.true_eq_false,if_false]
 rw [e]
 cases up <;> cases h2:decide (m.version≥1) <;> cases h3:decide (m.version≤9) <;> cases mo <;> simp only [h2,h3,Bool.false_eq_true,go_sem,simprocAttr,lD,Option.getD_none,Option.isSome_none,Option.getD_some,Option.isSome_some]
 all_goals
  refine bf (hM) rfl rfl rfl rfl ?_; simp only [go_sem,simprocAttr]
  cases h4:(m.version==ms) <;> simp only [Bool.false_eq_true,go_sem,simprocAttr,Option.getD_none,Option.isSome_none,Option.getD_some,Option.isSome_some]
def II (up:List Bool) (hs:List Int) (b_ now:Int) (k:Nat):St:=⟨[(0,.d (.dY 1 (up.map fun b=>[bl b]))),(1,.d (.dY 1 (hs.map fun h=>[i64 h]))),(2,.int b_),(3,.int now),(14,.int (min up.length hs.length:Nat)),(15,.int k)],[]⟩
theorem C8 (up:List Bool) (hs:List Int) (b_ now:Int) (hu:up.length≤50) (hh:hs.length≤50) (hl:0≤b_∧b_≤1000000) (hT:∀ h∈hs,0≤h∧h≤1000000) :
  bw Tryz.prog G 198 [.d (.dY 1 (up.map fun b=>[bl b])),.d (.dY 1 (hs.map fun h=>[i64 h])),.int b_,.int now] [] (.int (kn b_ now up hs 0)) []:=by
 refine bn Tryz.func198 (by decide) NB rfl rfl ?_
 simp only [Ra,go_sem,simprocAttr]
 generalize hr:kn b_ now up hs 0=r
 have hm:(if (hs.length:Int)<(up.length:Int) then (hs.length:Int) else (up.length:Int))=((min up.length hs.length:Nat):Int):=by split <;> omega
 refine aY [0,1,2,3,14,15] [] (fun k:Nat=>k≤min up.length hs.length∧kn b_ now (up.drop k) (hs.drop k) k=r) (fun k=>min up.length hs.length-k) (II up hs b_ now) 0 ?_ ⟨Nat.zero_le _,hr⟩ ?_
 ·simp only [II,go_sem,simprocAttr,hm,Int.natCast_zero]
 rintro k ⟨hk,hF⟩
 simp only [II,go_sem,simprocAttr]
 refine bg (fun h=>?_) (fun h=>?_)
 ·have h:=dX h
  have LD:k<up.length:=by omega
  have hk2:k<hs.length:=by omega
  rw [List.drop_eq_getElem_cons LD,List.drop_eq_getElem_cons hk2,kn] at hF
  have hg1:=get_map (f:=fun b:Bool=>[bl b]) LD
  have hg2:=get_map (f:=fun h:Int=>[i64 h]) hk2
  have hb:=hT hs[k] (List.getElem_mem hk2)
  generalize up[k]=u at *
  generalize hs[k]=x at *
  have hw:IntKind.i64.wrap (x+b_)=x+b_:=aO (by omega) (by omega)
  simp only [hg1,go_sem,simprocAttr]
  cases u with
  | false=>
    simp only [Bool.false_eq_true,false_and,if_false] at hF
    simp only [go_sem,simprocAttr]
    refine bz (k+1) ?_ ?_ ⟨h,by rw [Int.natCast_add]; exact hF⟩ (by omega)
    ·simp only [go_sem,simprocAttr]
    ·simp only [II,go_sem,simprocAttr,aG (show k<9223372036854775807 by omega)]
  | true=>
    simp only [hw,hg2,go_sem,simprocAttr]
    cases h5:decide (now≥x+b_) with
    | true=>
      have Y8:x+b_≤now:=of_decide_eq_true h5
      rw [if_pos ⟨rfl,Y8⟩] at hF
      simp only [go_sem,simprocAttr,← hF]
    | false=>
      have Y8:¬ x+b_≤now:=of_decide_eq_false h5
      rw [if_neg (fun h=>Y8 h.2)] at hF
      simp only [go_sem,simprocAttr]
      refine bz (k+1) ?_ ?_ ⟨h,by rw [Int.natCast_add]; exact hF⟩ (by omega)
      ·simp only [go_sem,simprocAttr]
      ·simp only [II,go_sem,simprocAttr,aG (show k<9223372036854775807 by omega)]
 ·have hk2:=d_ h hk
  have:kn b_ now (up.drop k) (hs.drop k) k = -1:=by
   rcases (by omega:up.length≤k∨hs.length≤k) with h | h
   ·rw [List.drop_eq_nil_of_le h]; rfl
   ·rw [List.drop_eq_nil_of_le h]; cases List.drop k up <;> rfl
  rw [this] at hF
  simp only [go_sem,simprocAttr,← hF]
def yt (s:aa) (r:List dc) (now:Int):Nat→Option cH
 | 0=>match k_ s r false s.nodes 0 with
   | some o=>some o
   | none=>match k_ s r true s.nodes 0 with
     | some o=>some o
     | none=>tI s r now s.jobs 0
 | 1=>match k_ s r true s.nodes 0 with
   | some o=>some o
   | none=>tI s r now s.jobs 0
 | _=>tI s r now s.jobs 0
def LJ:Nat→Bool
 | 0=>false
 | _=>true
theorem I7 (s:aa) (r:List dc) (now:Int) (i:Nat) (hi:i<2):yt s r now i=match k_ s r (LJ i) s.nodes 0 with | some o=>some o | none=>yt s r now (i+1):=by
 match i,hi with
 | 0,_=>rfl
 | 1,_=>rfl
theorem LI (i:Nat) (hi:i<2):([.bool false,.bool true]:List LV)[i]? = some (.bool (LJ i)):=by
 match i,hi with
 | 0,_=>rfl
 | 1,_=>rfl
def iD (s:aa):List (Option aD):=[some (gP s),some (.box 37 [.int 0,.int 0,.int 0,.int 0,.int 0,.int 0,.int 0])]
def Fb (s:aa) (r:List dc) (now:Int) (i:Nat):St:=⟨[(1,iu r),(2,.int now),(3,.ptr 0 0),(6,.ptr 1 0),(7,.bool false),(17,.agg [.bool false,.bool true]),(18,.int i)],iD s⟩
def Bu (s:aa) (r:List dc) (now:Int) (i k:Nat):St:=⟨[(1,iu r),(2,.int now),(3,.ptr 0 0),(6,.ptr 1 0),(7,.bool false),(9,.bool (LJ i)),(17,.agg [.bool false,.bool true]),(18,.int i),(22,bZ s.nodes),(23,.int s.nodes.length),(24,.int k)],iD s⟩
def Fa (s:aa) (r:List dc) (now:Int) (k:Nat):St:=⟨[(1,iu r),(2,.int now),(3,.ptr 0 0),(6,.ptr 1 0),(7,.bool false),(46,.int s.jobs.length),(47,.int k)],iD s⟩
theorem xR (s:aa) (r:List dc) (now:Int) (hn:s.nodes.length≤1000) (hl:s.jobs.length≤1000):bw Tryz.prog G 199 [bp s,iu r,.int now] [] (lD (tf s r now)) []:=by
 rw [show tf s r now=yt s r now 0 from rfl]
 generalize hr:yt s r now 0=q
 refine bn Tryz.func199 (by decide) NA rfl rfl ?_
 simp only [Q_,go_sem,simprocAttr]
 refine aY [1,2,3,6,7,17,18] [] (fun i:Nat=>i≤2∧yt s r now i=q) (fun i=>2-i) (Fb s r now) 0 ?_ ⟨by omega,hr⟩ ?_
 ·simp only [Fb,iD,go_sem,simprocAttr,Int.natCast_zero]
 clear hr
 rintro i ⟨hi,hr⟩
 simp only [Fb,iD,go_sem,simprocAttr]
 cases hlt:decide ((i:Int)<2) with
 | false=>
   have h3:i=2:=by have:=of_decide_eq_false hlt; omega
   subst h3
   simp only [yt] at hr
   simp only [go_sem,simprocAttr]
   refine aY [1,2,3,6,7,46,47] [] (fun k:Nat=>k≤s.jobs.length∧tI s r now (s.jobs.drop k) k=q) (fun k=>s.jobs.length-k) (Fa s r now) 0 ?_ ⟨Nat.zero_le _,hr⟩ ?_
   ·simp only [Fa,iD,go_sem,simprocAttr,Int.natCast_zero]
   clear hr
   rintro k ⟨hk,hF⟩
   simp only [Fa,iD,go_sem,simprocAttr]
   refine bg (fun h=>?_) (fun h=>?_)
   ·have h:=dX h
    rw [List.drop_eq_getElem_cons h,tI] at hF
    have hT:=KS (G:=G) s r ((k+1:Nat):Int) now hl (by omega) (by omega)
    rw [show (((k+1:Nat):Int)-1).toNat=k by omega,show s.jobs.getD k ax=s.jobs[k] by simp [List.getD,h]] at hT
    rw [show (k:Int)+1=((k+1:Nat):Int) from rfl] at hF
    generalize BZ s r ((k+1:Nat):Int) now s.jobs[k]=p at *
    obtain ⟨⟨o1,o2,o3,o4,o5,o6,o7⟩,b⟩:=p
    unfold PF at hF
    simp only [aG (show k<9223372036854775807 by omega),go_sem,simprocAttr]
    refine aC (hT) rfl rfl rfl rfl ?_; simp only [go_sem,simprocAttr]
    cases b with
    | true=>
      simp only [if_true] at hF
      subst hF
      simp only [go_sem,simprocAttr,lD,Option.getD_some,Option.isSome_some]
    | false=>
      simp only [Bool.false_eq_true,if_false] at hF
      simp only [go_sem,simprocAttr]
      refine bz (k+1) ?_ ?_ ⟨h,hF⟩ (by omega)
      ·simp only [go_sem,simprocAttr]
      ·simp only [Fa,iD,go_sem,simprocAttr,aG (show k<9223372036854775807 by omega)]
   ·obtain rfl:=d_ h hk
    rw [List.drop_length,tI] at hF
    subst hF
    simp only [go_sem,simprocAttr,lD,Option.getD_none,Option.isSome_none]
 | true=>
 have h3:i<2:=by have:=of_decide_eq_true hlt; omega
 rw [I7 s r now i h3] at hr
 have hg:=LI i h3
 simp only [go_sem,simprocAttr] at hg
 simp only [go_sem,simprocAttr,hg,h3]
 generalize OZ:k_ s r (LJ i) s.nodes 0=q2 at hr
 refine aY [1,2,3,6,7,9,17,18,22,23,24] [] (fun k:Nat=>k≤s.nodes.length∧k_ s r (LJ i) (s.nodes.drop k) k=q2) (fun k=>s.nodes.length-k) (Bu s r now i) 0 ?_ ⟨Nat.zero_le _,OZ⟩ ?_
 ·simp only [Bu,iD,go_sem,simprocAttr,Int.natCast_zero]
 clear OZ
 rintro k ⟨hk,hF⟩
 simp only [Bu,iD,go_sem,simprocAttr]
 refine bg (fun h=>?_) (fun h=>?_)
 ·have h:=dX h
  rw [List.drop_eq_getElem_cons h,k_] at hF
  have hT:=Jz (G:=G) s r k h
  rw [show s.nodes.getD k ag=s.nodes[k] by simp [List.getD,h]] at hT
  have hg:=get_map (f:=ck) h
  generalize EJ s (fq r k) s.nodes[k] k=p at *
  generalize s.nodes[k]=n at *
  obtain ⟨up,co,mo,ve,jo⟩:=n
  simp only [hg,go_sem,simprocAttr]
  cases hu:(up==LJ i) with
  | false=>
    have Yk:¬ up=LJ i:=by simpa using hu
    rw [if_neg Yk] at hF
    simp only [go_sem,simprocAttr]
    refine bz (k+1) ?_ ?_ ⟨h,hF⟩ (by omega)
    ·simp only [go_sem,simprocAttr]
    ·simp only [Bu,iD,go_sem,simprocAttr,aG (show k<9223372036854775807 by omega)]
  | true=>
  have Yk:up=LJ i:=by simpa using hu
  rw [if_pos Yk] at hF
  simp only [go_sem,simprocAttr]
  cases p with
  | none=>
    replace hF:k_ s r (LJ i) (List.drop (k+1) s.nodes) (k+1)=q2:=hF
    replace hT:bw Tryz.prog G 243 [bp s,iu r,.int k] [] (.dP [uN gh,.bool false]) []:=hT
    refine aC (hT) rfl rfl rfl rfl ?_; simp only [go_sem,simprocAttr]
    refine bz (k+1) ?_ ?_ ⟨h,hF⟩ (by omega)
    ·simp only [go_sem,simprocAttr]
    ·simp only [Bu,iD,go_sem,simprocAttr,aG (show k<9223372036854775807 by omega)]
  | some o=>
    replace hF:some o=q2:=hF
    subst hF
    replace hr:some o=q:=hr
    subst hr
    replace hT:bw Tryz.prog G 243 [bp s,iu r,.int k] [] (.dP [uN o,.bool true]) []:=hT
    obtain ⟨o1,o2,o3,o4,o5,o6,o7⟩:=o
    refine aC (hT) rfl rfl rfl rfl ?_; simp only [go_sem,simprocAttr]
    simp only [go_sem,simprocAttr,lD,Option.getD_some,Option.isSome_some]
 ·obtain rfl:=d_ h hk
  rw [List.drop_length,k_] at hF
  subst hF
  simp only [go_sem,simprocAttr]
  refine bz (i+1) ?_ ?_ ⟨h3,hr⟩ (by omega)
  ·simp only [go_sem,simprocAttr]
  ·simp only [Fb,iD,go_sem,simprocAttr,aG (show i<9223372036854775807 by omega)]
end Dv
