/- part -/
import Derived.Test.YtkalnfkokkjliaaGreatDoorDA
set_option linter.all false
set_option maxRecDepth 100000
namespace Dv
open Go Go.Proofs
variable {G:Nat→Option (List DV)}
def abK:=qx Tryz.f14
theorem Z8:aj Tryz.prog Tryz.f14=some abK:=by kernel_rfl
def abJ:=qx Tryz.f15
theorem Z7:aj Tryz.prog Tryz.f15=some abJ:=by kernel_rfl
theorem Pp (c:aF):gH c=decide (1≤c.nodes∧c.nodes≤6∧1≤c.bL∧c.bL≤3∧0≤c.cE∧c.cE≤4∧1≤c.gT∧c.gT≤6∧2≤c.cc∧c.cc≤30∧1≤c.eG∧c.eG≤20∧1≤c.deadline∧c.deadline≤60∧0≤c.room∧c.room≤5000∧2000≤c.ga∧c.ga≤40000):=by
 rw [Bool.eq_iff_iff]
 simp only [gH,bN,Bool.and_eq_true,decide_eq_true_eq,and_assoc]
theorem Pq (c:aF):bu Tryz.prog G 14 [fN c] [] (.bool (gH c)) []:=by
 refine bz Tryz.func14 (by decide) Z8 rfl rfl ?_
 simp only [abK,go_sem]
 rw [Pp]
 repeat' (first | ((first | with_reducible refine eD (fun h=>?_) (fun h=>?_) | refine dH (fun h=>?_) (fun h=>?_)) <;> simp only [h,go_sem] <;> (try simp only [qqS] at h)) | ((first | with_reducible refine lJ (fun h=>?_) (fun h=>?_) | refine bA (fun h=>?_) (fun h=>?_)) <;> simp only [h,go_sem] <;> (try simp only [qqS] at h)))
 all_goals first | (symm; apply decide_eq_false; omega) | (symm; apply decide_eq_true; omega) | (rw [Bool.eq_iff_iff]; simp only [decide_eq_true_eq]; omega)
def node1:br:=⟨true,false,false,1,0⟩
def dN (c:aF):aa:=if gH c=true then ⟨List.replicate c.nodes.toNat node1,[],1,1,0,0⟩ else nT
def SK (c:aF) (k:Nat):St:=⟨[(1,.ptr 0 0),(2,.ptr 1 0),(3,.ptr 2 0),(10,.int c.nodes),(11,.int k)],[some (.box 23 [.int c.nodes,.int c.bL,.int c.cE,.int c.gT,.int c.cc,.int c.eG,.int c.deadline,.int c.room,.int c.ga]),some (.box 30 [.d (.val (.slice none 0 0)),.d (.val (.slice none 0 0)),.int 0,.int 0,.int 0,.int 0]),some (.box 30 [.sl 3 k 5 0 k,.d (.val (.slice none 0 0)),.int 1,.int 1,.int 0,.int 0]),some (.dat 102 5 ((List.replicate k node1).map bZ))]⟩
theorem Ko (c:aF):bu Tryz.prog G 15 [fN c] [] (aX (dN c)) []:=by
 refine cI Tryz.func15 (by decide) Z7 rfl ?_
 simp only [abJ,go_sem]
 refine av (yT c) rfl rfl rfl rfl ?_; simp only [go_sem]
 unfold dN
 cases hm:gH c with
 | false=>
   simp only [go_sem]
   exact dQ [] rfl (by simp) (by simp [St.obj,aC,aV,St.get,aY,ah,ag,bK,nT,LV.int])
 | true=>
   have hc:=o8 hm
   simp only [go_sem]
   refine aW [1,2,3,10,11] [.b 2 0 102 5] (fun k:Nat=>(k:Int)≤c.nodes) (fun k=>(c.nodes-k).toNat) (SK c) 0 ?_ (by omega) (fun k hk=>?_)
   ·simp only [SK,go_sem,List.replicate_zero,Int.natCast_zero]
   simp only [SK,go_sem]
   refine bA (fun h=>?_) (fun h=>?_) <;> simp only [h,go_sem] <;> (try simp only [qqS] at h)
   ·have hbd:(k+1)*24≤70368744177664:=by omega
    simp only [List.length_append,List.length_replicate,hbd,go_sem]
    refine bh (k+1) ?_ ?_ (by omega) (by omega)
    ·simp only [go_sem]
    ·simp only [SK,go_sem,aH (show k<9223372036854775807 by omega),List.replicate_succ',List.map_append]
     rfl
   ·obtain rfl:k=c.nodes.toNat:=by omega
    exact dQ [3] rfl (by simp [St.obj,aC]) (by simp [St.obj,aC,aV,St.get,aY,ah,ag,bK,LV.int,List.take_of_length_le])
end Dv
namespace Dv
open Go Go.Proofs
variable {G:Nat→Option (List DV)}
end Dv
namespace Dv
open Go Go.Proofs
variable {G:Nat→Option (List DV)}
section
variable {c:aF} {s:aa} {o:cB} (ho:fc o=true)
include ho
end
end Dv
namespace Dv
open Go Go.Proofs
variable {G:Nat→Option (List DV)}
def abI:=qx Tryz.f20
theorem Z6:aj Tryz.prog Tryz.f20=some abI:=by kernel_rfl
@[reducible] def stA (s:aa) (a b:Nat):LV:=.agg [.sl a s.nodes.length 5 0 s.nodes.length,.sl b s.jobs.length 12 0 s.jobs.length,.int s.goal,.int s.prior,.int s.mode,.int s.term]
@[reducible] def ad9 (s:aa):List aG:=[.dat 102 5 (s.nodes.map bZ),.dat 119 12 (s.jobs.map dJ)]
theorem Pf (a b:br):(a.up==b.up&&(a.cQ==b.cQ&&(a.bG==b.bG&&(a.version==b.version&&(a.aQ==b.aQ&&true)))))=decide (a=b):=by
 rw [Bool.eq_iff_iff]
 obtain ⟨a1,a2,a3,a4,a5⟩:=a
 obtain ⟨b1,b2,b3,b4,b5⟩:=b
 simp
theorem SU (a b:bQ):(a.queue==b.queue&&(a.prio==b.prio&&(a.min==b.min&&(a.max==b.max&&(a.work==b.work&&(a.pin==b.pin&&(a.phase==b.phase&&(a.inc==b.inc&&(a.nodes==b.nodes&&(a.since==b.since&&(a.til==b.til&&(a.epoch==b.epoch&&true))))))))))))=decide (a=b):=by
 rw [Bool.eq_iff_iff]
 obtain ⟨a1,a2,a3,a4,a5,a6,a7,a8,a9,a10,a11,a12⟩:=a
 obtain ⟨b1,b2,b3,b4,b5,b6,b7,b8,b9,b10,b11,b12⟩:=b
 simp
theorem Ou (s t:aa):decide (s=t)=(decide (s.goal=t.goal∧s.prior=t.prior∧s.mode=t.mode∧s.term=t.term)&&(decide (s.nodes=t.nodes)&&decide (s.jobs=t.jobs))):=by
 rw [Bool.eq_iff_iff]
 obtain ⟨a1,a2,a3,a4,a5,a6⟩:=s
 obtain ⟨b1,b2,b3,b4,b5,b6⟩:=t
 simp
 constructor
 ·rintro ⟨rfl,rfl,rfl,rfl,rfl,rfl⟩; simp
 ·rintro ⟨⟨rfl,rfl,rfl,rfl⟩,rfl,rfl⟩; simp
theorem GC {α:Type} [DecidableEq α] (l m:List α) (k:Nat) (z:α) (h1:k<l.length) (h2:k<m.length):decide (l.drop k=m.drop k)=(decide (l.getD k z=m.getD k z)&&decide (l.drop (k+1)=m.drop (k+1))):=by
 rw [drop_cons l k z h1,drop_cons m k z h2,Bool.eq_iff_iff]
 simp
def yG (s t:aa) (k:Nat):St:=⟨[(2,.ptr 0 0),(3,.ptr 1 0),(5,.int k)],[some (.box 30 [bS s.nodes,cZ s.jobs,.int s.goal,.int s.prior,.int s.mode,.int s.term]),some (.box 30 [bS t.nodes,cZ t.jobs,.int t.goal,.int t.prior,.int t.mode,.int t.term])]⟩
def yF (s t:aa) (k:Nat):St:=⟨[(2,.ptr 0 0),(3,.ptr 1 0),(6,.int k)],[some (.box 30 [bS s.nodes,cZ s.jobs,.int s.goal,.int s.prior,.int s.mode,.int s.term]),some (.box 30 [bS t.nodes,cZ t.jobs,.int t.goal,.int t.prior,.int t.mode,.int t.term])]⟩
theorem Cf (s t:aa) (hn:s.nodes.length≤1000000000000) (hj:s.jobs.length≤1000000000000):bu Tryz.prog G 20 [aX s,aX t] [] (.bool (decide (s=t))) []:=by
 refine bz Tryz.func20 (by decide) Z6 rfl rfl ?_
 simp only [abI,go_sem]
 repeat' (first | ((first | with_reducible refine eD (fun h=>?_) (fun h=>?_) | refine dH (fun h=>?_) (fun h=>?_)) <;> simp only [h,go_sem] <;> (try simp only [qqS] at h)))
 all_goals try (symm; apply decide_eq_false; intro e; subst e; omega)
 refine bA (fun Qf=>?_) (fun Qf=>?_) <;> simp only [Qf,go_sem] <;> (try simp only [qqS] at Qf)
 ·symm; apply decide_eq_false; intro e; subst e; omega
 have sP:s.nodes.length=t.nodes.length:=by omega
 have hlj:s.jobs.length=t.jobs.length:=by omega
 rw [Ou,decide_eq_true (show s.goal=t.goal∧s.prior=t.prior∧s.mode=t.mode∧s.term=t.term by omega),Bool.true_and]
 generalize hq:(decide (s.nodes=t.nodes)&&decide (s.jobs=t.jobs))=r
 refine aW [2,3,5] [] (fun k:Nat=>k≤s.nodes.length∧(decide (s.nodes.drop k=t.nodes.drop k)&&decide (s.jobs=t.jobs))=r) (fun k=>s.nodes.length-k) (yG s t) 0 ?_ ⟨Nat.zero_le _,hq⟩ ?_
 ·simp only [yG,go_sem,Int.natCast_zero]
 rintro k ⟨hk,hF⟩
 simp only [yG,go_sem]
 refine bA (fun h=>?_) (fun h=>?_)
 ·have h:=eR h
  have h2:k<t.nodes.length:=by omega
  rw [GC s.nodes t.nodes k ai h h2] at hF
  have hg:=aM (f:=bZ) ai h
  have hg2:=aM (f:=bZ) ai h2
  generalize s.nodes.getD k ai=a at *
  generalize t.nodes.getD k ai=b at *
  simp only [hg,hg2,go_sem]
  have hnd:=Pf a b
  simp only [Bool.and_true] at hnd
  simp only [hnd,go_sem]
  cases hab:decide (a=b) with
  | false=>
    rw [hab] at hF
    simp only [Bool.false_and] at hF
    simp only [hab,go_sem,← hF]
  | true=>
    rw [hab,Bool.true_and] at hF
    simp only [hab,go_sem]
    refine bh (k+1) ?_ ?_ ⟨by omega,hF⟩ (by omega)
    ·simp only [go_sem]
    ·simp only [yG,go_sem,aH (show k<9223372036854775807 by omega)]
 ·obtain rfl:=eS h hk
  clear hq hk
  rw [List.drop_length,sP,List.drop_length,decide_eq_true rfl,Bool.true_and] at hF
  simp only [go_sem]
  refine aW [2,3,6] [] (fun k:Nat=>k≤s.jobs.length∧decide (s.jobs.drop k=t.jobs.drop k)=r) (fun k=>s.jobs.length-k) (yF s t) 0 ?_ ⟨Nat.zero_le _,hF⟩ ?_
  ·simp only [yF,go_sem,Int.natCast_zero]
  clear hF
  rintro k ⟨hk,hF⟩
  simp only [yF,go_sem]
  refine bA (fun h=>?_) (fun h=>?_)
  ·have h:=eR h
   have h2:k<t.jobs.length:=by omega
   rw [GC s.jobs t.jobs k az h h2] at hF
   have hg:=aM (f:=dJ) az h
   have hg2:=aM (f:=dJ) az h2
   generalize s.jobs.getD k az=a at *
   generalize t.jobs.getD k az=b at *
   simp only [hg,hg2,go_sem]
   have hjd:=SU a b
   simp only [Bool.and_true] at hjd
   simp only [hjd,go_sem]
   cases hab:decide (a=b) with
   | false=>
     rw [hab] at hF
     simp only [Bool.false_and] at hF
     simp only [hab,go_sem,← hF]
   | true=>
     rw [hab,Bool.true_and] at hF
     simp only [hab,go_sem]
     refine bh (k+1) ?_ ?_ ⟨by omega,hF⟩ (by omega)
     ·simp only [go_sem]
     ·simp only [yF,go_sem,aH (show k<9223372036854775807 by omega)]
  ·obtain rfl:=eS h hk
   rw [List.drop_length,hlj,List.drop_length,decide_eq_true rfl] at hF
   simp only [go_sem,← hF]
end Dv
namespace Dv
open Go Go.Proofs
variable {G:Nat→Option (List DV)}
section
variable {s:aa} {o:cB}
end
end Dv
