/- The document's book: its small functions; the first state. -/
import Derived.Test.YtkalnfkokkjliaaGreatDoorDA
set_option linter.unusedVariables false
set_option linter.unusedSimpArgs false
namespace Dv
open Go Go.Proofs
variable {G:Nat→Option (List DV)}
def VJ:Nat×C×List RV:=(87,
(.seq (.af [qo 1 (.box 23 (.t 0)),
 qo 2 (.mv qf)])
 (.seq (.seq (.af [qo 3 (.aj 0 (.t 1)),
 qo 4 (.ld1 (.t 3)),
 qo 5 (.bin .lss (.t 4) (qk 1)),
 qm 6 5,
 qg 7 (.aj 0 (.t 1)) 6 false,
 qg 8 (.ld1 (.t 7)) 6 false,
 qg 9 (.bin .gtr (.t 8) (qk 6)) 6 false,
 qo 10 (.pick (.t 6) qt (.t 9)),
 qm 11 10,
 qg 12 (.aj 1 (.t 1)) 11 false,
 qg 13 (.ld1 (.t 12)) 11 false,
 qg 14 (.bin .lss (.t 13) (qk 1)) 11 false,
 qo 15 (.pick (.t 11) qt (.t 14)),
 qm 16 15,
 qg 17 (.aj 1 (.t 1)) 16 false,
 qg 18 (.ld1 (.t 17)) 16 false,
 qg 19 (.bin .gtr (.t 18) (qk 3)) 16 false,
 qo 20 (.pick (.t 16) qt (.t 19)),
 qm 21 20,
 qg 22 (.aj 2 (.t 1)) 21 false,
 qg 23 (.ld1 (.t 22)) 21 false,
 qg 24 (.bin .lss (.t 23) (qk 0)) 21 false,
 qo 25 (.pick (.t 21) qt (.t 24)),
 qm 26 25,
 qg 27 (.aj 2 (.t 1)) 26 false,
 qg 28 (.ld1 (.t 27)) 26 false,
 qg 29 (.bin .gtr (.t 28) (qk 4)) 26 false,
 qo 30 (.pick (.t 26) qt (.t 29)),
 qm 31 30,
 qg 32 (.aj 3 (.t 1)) 31 false,
 qg 33 (.ld1 (.t 32)) 31 false,
 qg 34 (.bin .lss (.t 33) (qk 1)) 31 false,
 qo 35 (.pick (.t 31) qt (.t 34)),
 qm 36 35,
 qg 37 (.aj 3 (.t 1)) 36 false,
 qg 38 (.ld1 (.t 37)) 36 false,
 qg 39 (.bin .gtr (.t 38) (qk 6)) 36 false,
 qo 40 (.pick (.t 36) qt (.t 39))])
 (.cond (.t 40) (.seq (.af [qo 2 (.mv qf)])
 .ret)
 .skip))
 (.seq (.seq (.af [qo 41 (.aj 4 (.t 1)),
 qo 42 (.ld1 (.t 41)),
 qo 43 (.bin .lss (.t 42) (qk 2)),
 qm 44 43,
 qg 45 (.aj 4 (.t 1)) 44 false,
 qg 46 (.ld1 (.t 45)) 44 false,
 qg 47 (.bin .gtr (.t 46) (qk 30)) 44 false,
 qo 48 (.pick (.t 44) qt (.t 47)),
 qm 49 48,
 qg 50 (.aj 5 (.t 1)) 49 false,
 qg 51 (.ld1 (.t 50)) 49 false,
 qg 52 (.bin .lss (.t 51) (qk 1)) 49 false,
 qo 53 (.pick (.t 49) qt (.t 52)),
 qm 54 53,
 qg 55 (.aj 5 (.t 1)) 54 false,
 qg 56 (.ld1 (.t 55)) 54 false,
 qg 57 (.bin .gtr (.t 56) (qk 20)) 54 false,
 qo 58 (.pick (.t 54) qt (.t 57)),
 qm 59 58,
 qg 60 (.aj 6 (.t 1)) 59 false,
 qg 61 (.ld1 (.t 60)) 59 false,
 qg 62 (.bin .lss (.t 61) (qk 1)) 59 false,
 qo 63 (.pick (.t 59) qt (.t 62)),
 qm 64 63,
 qg 65 (.aj 6 (.t 1)) 64 false,
 qg 66 (.ld1 (.t 65)) 64 false,
 qg 67 (.bin .gtr (.t 66) (qk 60)) 64 false,
 qo 68 (.pick (.t 64) qt (.t 67))])
 (.cond (.t 68) (.seq (.af [qo 2 (.mv qf)])
 .ret)
 .skip))
 (.seq (.af [qo 69 (.aj 7 (.t 1)),
 qo 70 (.ld1 (.t 69)),
 qo 71 (.bin .geq (.t 70) (qk 0)),
 qm 72 71,
 qg 73 (.aj 7 (.t 1)) 72 true,
 qg 74 (.ld1 (.t 73)) 72 true,
 qg 75 (.bin .leq (.t 74) (qk 5000)) 72 true,
 qo 76 (.pick (.t 72) (.t 75) qf),
 qm 77 76,
 qg 78 (.aj 8 (.t 1)) 77 true,
 qg 79 (.ld1 (.t 78)) 77 true,
 qg 80 (.bin .geq (.t 79) (qk 2000)) 77 true,
 qo 81 (.pick (.t 77) (.t 80) qf),
 qm 82 81,
 qg 83 (.aj 8 (.t 1)) 82 true,
 qg 84 (.ld1 (.t 83)) 82 true,
 qg 85 (.bin .leq (.t 84) (qk 40000)) 82 true,
 qo 86 (.pick (.t 82) (.t 85) qf),
 qm 2 86])
 .ret)))),
[(.t 2)])
theorem Tt:aq Tryz.prog Tryz.f14=some VJ:=by kernel_rfl
def VI:Nat×C×List RV:=(21,
(.seq (.af [qo 1 (.box 23 (.t 0)),
 qo 2 (.new 30 [(.val (.slice none 0 0)),(.val (.slice none 0 0)),q0,q0,q0,q0])])
 (.seq (.seq (.af [qo 4 (.bP 9 (.t 1)),
 qo 5 (.call (.f 64) [(.t 4)]),
 qo 6 (.not (.t 5))])
 (.cond (.t 6) (.seq (.af [qo 7 (.build [(.val (.slice none 0 0)),(.val (.slice none 0 0)),q0,q0,q0,q0] []),
 qn (.st 6 (.t 2) (.t 7))])
 .ret)
 .skip))
 (.seq (.af [qo 8 (.build [(.val (.slice none 0 0)),(.val (.slice none 0 0)),q0,q0,q0,q0] [(2,1,(qk 1)),(3,1,(qk 1))]),
 qo 3 (.new 30 [(.val (.slice none 0 0)),(.val (.slice none 0 0)),q0,q0,q0,q0]),
 qn (.st 6 (.t 3) (.t 8))])
 (.seq (.seq (.af [qo 9 (.aj 0 (.t 1)),
 qo 10 (.ld1 (.t 9)),
 qo 11 (.mv (qk 0))])
 (.block 0 (.loop (.seq (.af [qo 12 (.bin .lss (.t 11) (.t 10))])
 (.seq (.cond (.t 12) .skip
 (.exit 0))
 (.seq (.block 1 (.af [qo 13 (.aj 0 (.t 3)),
 qo 14 (.ld1 (.t 13)),
 qo 15 (.build [(.val (.bool false)),(.val (.bool false)),(.val (.bool false)),q0,q0] [(0,1,qt),(3,1,(qk 1))]),
 qo 16 (.nh 102 5 [(.t 15)]),
 qo 17 (.app 102 5 24 (.t 14) (.t 16)),
 qo 18 (.aj 0 (.t 3)),
 qn (.st 1 (.t 18) (.t 17))]))
 (.af [qo 19 (.bin .add (.t 11) (qk 1)),
 qm 11 19])))))))
 (.seq (.af [qo 20 (.bP 6 (.t 3)),
 qn (.st 6 (.t 2) (.t 20))])
 .ret))))),
[(.cn 2 6)])
theorem Ts:aq Tryz.prog Tryz.f15=some VI:=by kernel_rfl
theorem JJ (c:aH):gL c=decide (1≤c.nodes∧c.nodes≤6∧1≤c.bG∧c.bG≤3∧0≤c.cD∧c.cD≤4∧1≤c.wave∧c.wave≤6∧2≤c.b_∧c.b_≤30∧1≤c.eE∧c.eE≤20∧1≤c.deadline∧c.deadline≤60∧0≤c.room∧c.room≤5000∧2000≤c.fG∧c.fG≤40000):=by
 rw [Bool.eq_iff_iff]
 simp only [gL,bF,Bool.and_eq_true,decide_eq_true_eq,and_assoc]
theorem JK (c:aH):bw Tryz.prog G 14 [gK c] [] (.bool (gL c)) []:=by
 refine bn Tryz.func14 (by decide) Tt rfl rfl ?_
 simp only [VJ,go_sem,simprocAttr]
 rw [JJ]
 repeat' (first | ((first | with_reducible refine dN (fun h=>?_) (fun h=>?_) | refine cN (fun h=>?_) (fun h=>?_)) <;> simp only [h,go_sem,simprocAttr] <;> (try simp only [decide_eq_true_eq,decide_eq_false_iff_not,Bool.not_true,Bool.not_false] at h)) | ((first | with_reducible refine jF (fun h=>?_) (fun h=>?_) | refine bg (fun h=>?_) (fun h=>?_)) <;> simp only [h,go_sem,simprocAttr] <;> (try simp only [decide_eq_true_eq,decide_eq_false_iff_not] at h)))
 all_goals first | (symm; apply decide_eq_false; omega) | (symm; apply decide_eq_true; omega) | (rw [Bool.eq_iff_iff]; simp only [decide_eq_true_eq]; omega)
def node1:bK:=⟨true,false,false,1,0⟩
def dJ (c:aH):aa:=if gL c=true then ⟨List.replicate c.nodes.toNat node1,[],1,1,0,0⟩ else kZ
def Mn (c:aH) (k:Nat):St:=⟨[(1,.ptr 0 0),(2,.ptr 1 0),(3,.ptr 2 0),(10,.int c.nodes),(11,.int k)],[some (.box 23 [.int c.nodes,.int c.bG,.int c.cD,.int c.wave,.int c.b_,.int c.eE,.int c.deadline,.int c.room,.int c.fG]),some (.box 30 [.d (.val (.slice none 0 0)),.d (.val (.slice none 0 0)),.int 0,.int 0,.int 0,.int 0]),some (.box 30 [.sl 3 k 5 0 k,.d (.val (.slice none 0 0)),.int 1,.int 1,.int 0,.int 0]),some (.dat 102 5 ((List.replicate k node1).map ck))]⟩
theorem Mm (c:aH):bw Tryz.prog G 15 [gK c] [] (bp (dJ c)) []:=by
 refine cG Tryz.func15 (by decide) Ts rfl ?_
 simp only [VI,go_sem,simprocAttr]
 refine aC (zT c) rfl rfl rfl rfl ?_; simp only [go_sem,simprocAttr]
 unfold dJ
 cases hm:gL c with
 | false=>
   simp only [go_sem,simprocAttr]
   exact dL [] rfl (by simp) (by simp [aW,ai,ah,kZ])
 | true=>
   have hc:=mg hm
   simp only [go_sem,simprocAttr]
   refine aY [1,2,3,10,11] [.b 2 0 102 5] (fun k:Nat=>(k:Int)≤c.nodes) (fun k=>(c.nodes-k).toNat) (Mn c) 0 ?_ (by omega) (fun k hk=>?_)
   ·simp only [Mn,go_sem,simprocAttr,List.replicate_zero,Int.natCast_zero]
   simp only [Mn,go_sem,simprocAttr]
   refine bg (fun h=>?_) (fun h=>?_) <;> simp only [h,go_sem,simprocAttr] <;> (try simp only [decide_eq_true_eq,decide_eq_false_iff_not] at h)
   ·have hbd:(k+1)*24≤70368744177664:=by omega
    simp only [List.length_append,List.length_replicate,hbd,go_sem,simprocAttr]
    refine bz (k+1) ?_ ?_ (by omega) (by omega)
    ·simp only [go_sem,simprocAttr]
    ·simp only [Mn,go_sem,simprocAttr,aG (show k<9223372036854775807 by omega),List.replicate_succ',List.map_append]
     rfl
   ·obtain rfl:k=c.nodes.toNat:=by omega
    exact dL [3] rfl (by simp [St.obj,aB]) (by simp [St.obj,aB,aW,ai,ah,bE,List.take_of_length_le])
end Dv
namespace Dv
open Go Go.Proofs
variable {G:Nat→Option (List DV)}
end Dv
namespace Dv
open Go Go.Proofs
variable {G:Nat→Option (List DV)}
section
variable {c:aH} {s:aa} {o:cH} (ho:gH o=true)
include ho
end
end Dv
namespace Dv
open Go Go.Proofs
variable {G:Nat→Option (List DV)}
def VH:Nat×C×List RV:=(87,
(.seq (.af [qo 2 (.box 30 (.t 0)),
 qo 3 (.box 30 (.t 1)),
 qo 4 (.mv qf)])
 (.seq (.seq (.af [qo 7 (.aj 0 (.t 2)),
 qo 8 (.ld1 (.t 7)),
 qo 9 (.len (.t 8)),
 qo 10 (.aj 0 (.t 3)),
 qo 11 (.ld1 (.t 10)),
 qo 12 (.len (.t 11)),
 qo 13 (.bin .neq (.t 9) (.t 12)),
 qm 14 13,
 qg 15 (.aj 1 (.t 2)) 14 false,
 qg 16 (.ld1 (.t 15)) 14 false,
 qg 17 (.len (.t 16)) 14 false,
 qg 18 (.aj 1 (.t 3)) 14 false,
 qg 19 (.ld1 (.t 18)) 14 false,
 qg 20 (.len (.t 19)) 14 false,
 qg 21 (.bin .neq (.t 17) (.t 20)) 14 false,
 qo 22 (.pick (.t 14) qt (.t 21)),
 qm 23 22,
 qg 24 (.aj 2 (.t 2)) 23 false,
 qg 25 (.ld1 (.t 24)) 23 false,
 qg 26 (.aj 2 (.t 3)) 23 false,
 qg 27 (.ld1 (.t 26)) 23 false,
 qg 28 (.bin .neq (.t 25) (.t 27)) 23 false,
 qo 29 (.pick (.t 23) qt (.t 28)),
 qm 30 29,
 qg 31 (.aj 3 (.t 2)) 30 false,
 qg 32 (.ld1 (.t 31)) 30 false,
 qg 33 (.aj 3 (.t 3)) 30 false,
 qg 34 (.ld1 (.t 33)) 30 false,
 qg 35 (.bin .neq (.t 32) (.t 34)) 30 false,
 qo 36 (.pick (.t 30) qt (.t 35)),
 qm 37 36,
 qg 38 (.aj 4 (.t 2)) 37 false,
 qg 39 (.ld1 (.t 38)) 37 false,
 qg 40 (.aj 4 (.t 3)) 37 false,
 qg 41 (.ld1 (.t 40)) 37 false,
 qg 42 (.bin .neq (.t 39) (.t 41)) 37 false,
 qo 43 (.pick (.t 37) qt (.t 42)),
 qm 44 43,
 qg 45 (.aj 5 (.t 2)) 44 false,
 qg 46 (.ld1 (.t 45)) 44 false,
 qg 47 (.aj 5 (.t 3)) 44 false,
 qg 48 (.ld1 (.t 47)) 44 false,
 qg 49 (.bin .neq (.t 46) (.t 48)) 44 false,
 qo 50 (.pick (.t 44) qt (.t 49))])
 (.cond (.t 50) (.seq (.af [qo 4 (.mv qf)])
 .ret)
 .skip))
 (.seq (.seq (.af [qo 5 (.mv (qk 0))])
 (.block 0 (.loop (.seq (.seq (.af [qm 51 5,
 qo 52 (.aj 0 (.t 2)),
 qo 53 (.ld1 (.t 52)),
 qo 54 (.len (.t 53)),
 qo 55 (.bin .lss (.t 51) (.t 54))])
 (.cond (.t 55) .skip
 (.exit 0)))
 (.seq (.block 1 (.seq (.bQ [qo 58 (.aj 0 (.t 2)),
 qd 59 (.ld1 (.t 58)) [0],
 qm 60 5,
 qd 61 (.eG 5 (.t 59) (.t 60)) [1,0,2],
 qd 62 (.bP 5 (.t 61)) [3,1,0,2],
 qo 63 (.aj 0 (.t 3)),
 qd 64 (.ld1 (.t 63)) [5],
 qm 65 5,
 qd 66 (.eG 5 (.t 64) (.t 65)) [6,5,7],
 qd 67 (.bP 5 (.t 66)) [8,6,5,7],
 qd 68 (.eqs true [1,1,1,0,0] (.t 62) (.t 67)) [4,3,1,0,2,9,8,6,5,7]])
 (.cond (.t 68) (.seq (.af [qo 4 (.mv qf)])
 .ret)
 .skip)))
 (.af [qm 56 5,
 qo 57 (.bin .add (.t 56) (qk 1)),
 qm 5 57]))))))
 (.seq (.seq (.af [qo 6 (.mv (qk 0))])
 (.block 2 (.loop (.seq (.seq (.af [qm 69 6,
 qo 70 (.aj 1 (.t 2)),
 qo 71 (.ld1 (.t 70)),
 qo 72 (.len (.t 71)),
 qo 73 (.bin .lss (.t 69) (.t 72))])
 (.cond (.t 73) .skip
 (.exit 2)))
 (.seq (.block 3 (.seq (.bQ [qo 76 (.aj 1 (.t 2)),
 qd 77 (.ld1 (.t 76)) [0],
 qm 78 6,
 qd 79 (.eG 12 (.t 77) (.t 78)) [1,0,2],
 qd 80 (.bP 12 (.t 79)) [3,1,0,2],
 qo 81 (.aj 1 (.t 3)),
 qd 82 (.ld1 (.t 81)) [5],
 qm 83 6,
 qd 84 (.eG 12 (.t 82) (.t 83)) [6,5,7],
 qd 85 (.bP 12 (.t 84)) [8,6,5,7],
 qd 86 (.eqs true [0,0,0,0,0,0,0,0,0,0,0,0] (.t 80) (.t 85)) [4,3,1,0,2,9,8,6,5,7]])
 (.cond (.t 86) (.seq (.af [qo 4 (.mv qf)])
 .ret)
 .skip)))
 (.af [qm 74 6,
 qo 75 (.bin .add (.t 74) (qk 1)),
 qm 6 75]))))))
 (.seq (.af [qo 4 (.mv qt)])
 .ret))))),
[(.t 4)])
theorem Tr:aq Tryz.prog Tryz.f20=some VH:=by kernel_rfl
@[reducible] def stA (s:aa) (a b:Nat):LV:=.agg [.sl a s.nodes.length 5 0 s.nodes.length,.sl b s.jobs.length 12 0 s.jobs.length,.int s.goal,.int s.prior,.int s.mode,.int s.term]
@[reducible] def aag (s:aa):List aD:=[.dat 102 5 (s.nodes.map ck),.dat 119 12 (s.jobs.map dh)]
theorem JA (a b:bK):(a.up==b.up&&(a.ct==b.ct&&(a.bu==b.bu&&(a.version==b.version&&(a.aN==b.aN&&true)))))=decide (a=b):=by
 rw [Bool.eq_iff_iff]
 obtain ⟨a1,a2,a3,a4,a5⟩:=a
 obtain ⟨b1,b2,b3,b4,b5⟩:=b
 simp
theorem Mu (a b:bU):(a.queue==b.queue&&(a.prio==b.prio&&(a.min==b.min&&(a.max==b.max&&(a.work==b.work&&(a.pin==b.pin&&(a.phase==b.phase&&(a.inc==b.inc&&(a.nodes==b.nodes&&(a.since==b.since&&(a.til==b.til&&(a.epoch==b.epoch&&true))))))))))))=decide (a=b):=by
 rw [Bool.eq_iff_iff]
 obtain ⟨a1,a2,a3,a4,a5,a6,a7,a8,a9,a10,a11,a12⟩:=a
 obtain ⟨b1,b2,b3,b4,b5,b6,b7,b8,b9,b10,b11,b12⟩:=b
 simp
theorem IU (s t:aa):decide (s=t)=(decide (s.goal=t.goal∧s.prior=t.prior∧s.mode=t.mode∧s.term=t.term)&&(decide (s.nodes=t.nodes)&&decide (s.jobs=t.jobs))):=by
 rw [Bool.eq_iff_iff]
 obtain ⟨a1,a2,a3,a4,a5,a6⟩:=s
 obtain ⟨b1,b2,b3,b4,b5,b6⟩:=t
 simp
 constructor
 ·rintro ⟨rfl,rfl,rfl,rfl,rfl,rfl⟩; simp
 ·rintro ⟨⟨rfl,rfl,rfl,rfl⟩,rfl,rfl⟩; simp
theorem B8 {α:Type} [DecidableEq α] (l m:List α) (k:Nat) (z:α) (h1:k<l.length) (h2:k<m.length):decide (l.drop k=m.drop k)=(decide (l.getD k z=m.getD k z)&&decide (l.drop (k+1)=m.drop (k+1))):=by
 rw [drop_cons l k z h1,drop_cons m k z h2,Bool.eq_iff_iff]
 simp
def uF (s t:aa) (k:Nat):St:=⟨[(2,.ptr 0 0),(3,.ptr 1 0),(5,.int k)],[some (.box 30 [bZ s.nodes,dg s.jobs,.int s.goal,.int s.prior,.int s.mode,.int s.term]),some (.box 30 [bZ t.nodes,dg t.jobs,.int t.goal,.int t.prior,.int t.mode,.int t.term])]⟩
def uE (s t:aa) (k:Nat):St:=⟨[(2,.ptr 0 0),(3,.ptr 1 0),(6,.int k)],[some (.box 30 [bZ s.nodes,dg s.jobs,.int s.goal,.int s.prior,.int s.mode,.int s.term]),some (.box 30 [bZ t.nodes,dg t.jobs,.int t.goal,.int t.prior,.int t.mode,.int t.term])]⟩
theorem Gi (s t:aa) (hn:s.nodes.length≤1000000000000) (hj:s.jobs.length≤1000000000000):bw Tryz.prog G 20 [bp s,bp t] [] (.bool (decide (s=t))) []:=by
 refine bn Tryz.func20 (by decide) Tr rfl rfl ?_
 simp only [VH,go_sem,simprocAttr]
 repeat' (first | ((first | with_reducible refine dN (fun h=>?_) (fun h=>?_) | refine cN (fun h=>?_) (fun h=>?_)) <;> simp only [h,go_sem,simprocAttr] <;> (try simp only [bne_iff_ne,ne_eq,Bool.not_false,bne_eq_false_iff_eq] at h)))
 all_goals try (symm; apply decide_eq_false; intro e; subst e; omega)
 refine bg (fun Kk=>?_) (fun Kk=>?_) <;> simp only [Kk,go_sem,simprocAttr] <;> (try simp only [bne_iff_ne,ne_eq,bne_eq_false_iff_eq] at Kk)
 ·symm; apply decide_eq_false; intro e; subst e; omega
 have Ae:s.nodes.length=t.nodes.length:=by omega
 have hlj:s.jobs.length=t.jobs.length:=by omega
 rw [IU,decide_eq_true (show s.goal=t.goal∧s.prior=t.prior∧s.mode=t.mode∧s.term=t.term by omega),Bool.true_and]
 generalize hq:(decide (s.nodes=t.nodes)&&decide (s.jobs=t.jobs))=r
 refine aY [2,3,5] [] (fun k:Nat=>k≤s.nodes.length∧(decide (s.nodes.drop k=t.nodes.drop k)&&decide (s.jobs=t.jobs))=r) (fun k=>s.nodes.length-k) (uF s t) 0 ?_ ⟨Nat.zero_le _,hq⟩ ?_
 ·simp only [uF,go_sem,simprocAttr,Int.natCast_zero]
 rintro k ⟨hk,hF⟩
 simp only [uF,go_sem,simprocAttr]
 refine bg (fun h=>?_) (fun h=>?_)
 ·have h:=dX h
  have h2:k<t.nodes.length:=by omega
  rw [B8 s.nodes t.nodes k ag h h2] at hF
  have hg:=aL (f:=ck) ag h
  have hg2:=aL (f:=ck) ag h2
  generalize s.nodes.getD k ag=a at *
  generalize t.nodes.getD k ag=b at *
  simp only [hg,hg2,go_sem,simprocAttr]
  have hnd:=JA a b
  simp only [Bool.and_true] at hnd
  simp only [hnd,go_sem,simprocAttr]
  cases hab:decide (a=b) with
  | false=>
    rw [hab] at hF
    simp only [Bool.false_and] at hF
    simp only [go_sem,simprocAttr,← hF]
  | true=>
    rw [hab,Bool.true_and] at hF
    simp only [go_sem,simprocAttr]
    refine bz (k+1) ?_ ?_ ⟨by omega,hF⟩ (by omega)
    ·simp only [go_sem,simprocAttr]
    ·simp only [uF,go_sem,simprocAttr,aG (show k<9223372036854775807 by omega)]
 ·obtain rfl:=d_ h hk
  clear hq hk
  rw [List.drop_length,Ae,List.drop_length,decide_eq_true rfl,Bool.true_and] at hF
  simp only [go_sem,simprocAttr]
  refine aY [2,3,6] [] (fun k:Nat=>k≤s.jobs.length∧decide (s.jobs.drop k=t.jobs.drop k)=r) (fun k=>s.jobs.length-k) (uE s t) 0 ?_ ⟨Nat.zero_le _,hF⟩ ?_
  ·simp only [uE,go_sem,simprocAttr,Int.natCast_zero]
  clear hF
  rintro k ⟨hk,hF⟩
  simp only [uE,go_sem,simprocAttr]
  refine bg (fun h=>?_) (fun h=>?_)
  ·have h:=dX h
   have h2:k<t.jobs.length:=by omega
   rw [B8 s.jobs t.jobs k ax h h2] at hF
   have hg:=aL (f:=dh) ax h
   have hg2:=aL (f:=dh) ax h2
   generalize s.jobs.getD k ax=a at *
   generalize t.jobs.getD k ax=b at *
   simp only [hg,hg2,go_sem,simprocAttr]
   have ZA:=Mu a b
   simp only [Bool.and_true] at ZA
   simp only [ZA,go_sem,simprocAttr]
   cases hab:decide (a=b) with
   | false=>
     rw [hab] at hF
     simp only [Bool.false_and] at hF
     simp only [go_sem,simprocAttr,← hF]
   | true=>
     rw [hab,Bool.true_and] at hF
     simp only [go_sem,simprocAttr]
     refine bz (k+1) ?_ ?_ ⟨by omega,hF⟩ (by omega)
     ·simp only [go_sem,simprocAttr]
     ·simp only [uE,go_sem,simprocAttr,aG (show k<9223372036854775807 by omega)]
  ·obtain rfl:=d_ h hk
   rw [List.drop_length,hlj,List.drop_length,decide_eq_true rfl] at hF
   simp only [go_sem,simprocAttr,← hF]
end Dv
namespace Dv
open Go Go.Proofs
variable {G:Nat→Option (List DV)}
section
variable {s:aa} {o:cH}
end
end Dv
