/- part -/
import Derived.Test.YtkalnfkokkjliaaGreatDoorDA
set_option linter.all false
set_option maxRecDepth 100000
namespace Dv
open Go Go.Proofs
variable {G:Nat→Option (List DV)}
def aba:=qx Tryz.f14
theorem Zf:aj Tryz.prog Tryz.f14=some aba:=by kernel_rfl
def aa_:=qx Tryz.f15
theorem Ze:aj Tryz.prog Tryz.f15=some aa_:=by kernel_rfl
theorem Oy (c:aB):iq c=decide (1≤c.nodes∧c.nodes≤6∧1≤c.bI∧c.bI≤3∧0≤c.cH∧c.cH≤4∧1≤c.iN∧c.iN≤6∧2≤c.cr∧c.cr≤30∧1≤c.eZ∧c.eZ≤20∧1≤c.deadline∧c.deadline≤60∧0≤c.room∧c.room≤5000∧2000≤c.gX∧c.gX≤40000):=by
 rw [Bool.eq_iff_iff]
 simp only [iq,bJ,Bool.and_eq_true,decide_eq_true_eq,and_assoc]
theorem Oz (c:aB):bh Tryz.prog G 14 [fN c] [] (.bool (iq c)) []:=by
 refine bn Tryz.func14 (by decide) Zf rfl rfl ?_
 simp only [aba,go_sem]
 rw [Oy]
 repeat' (first | ((first | with_reducible refine ek (fun h=>?_) (fun h=>?_) | refine di (fun h=>?_) (fun h=>?_)) <;> simp only [h,go_sem] <;> (try simp only [qqS] at h)) | ((first | with_reducible refine kU (fun h=>?_) (fun h=>?_) | refine bp (fun h=>?_) (fun h=>?_)) <;> simp only [h,go_sem] <;> (try simp only [qqS] at h)))
 all_goals first | (symm; apply decide_eq_false; omega) | (symm; apply decide_eq_true; omega) | (rw [Bool.eq_iff_iff]; simp only [decide_eq_true_eq]; omega)
def node1:a_:=⟨true,false,false,1,0⟩
def dz (c:aB):aa:=if iq c=true then ⟨List.replicate c.nodes.toNat node1,[],1,1,0,0⟩ else kO
def RQ (c:aB) (k:Nat):St:=⟨[(1,.ptr 0 0),(2,.ptr 1 0),(3,.ptr 2 0),(10,.int c.nodes),(11,.int k)],[some (.box 23 [.int c.nodes,.int c.bI,.int c.cH,.int c.iN,.int c.cr,.int c.eZ,.int c.deadline,.int c.room,.int c.gX]),some (.box 30 [.d (.val (.slice none 0 0)),.d (.val (.slice none 0 0)),.int 0,.int 0,.int 0,.int 0]),some (.box 30 [.sl 3 k 5 0 k,.d (.val (.slice none 0 0)),.int 1,.int 1,.int 0,.int 0]),some (.dat 102 5 ((List.replicate k node1).map bX))]⟩
theorem Ju (c:aB):bh Tryz.prog G 15 [fN c] [] (aY (dz c)) []:=by
 refine cA Tryz.func15 (by decide) Ze rfl ?_
 simp only [aa_,go_sem]
 refine ax (x_ c) rfl rfl rfl rfl ?_; simp only [go_sem]
 unfold dz
 cases hm:iq c with
 | false=>
   simp only [go_sem]
   exact dZ [] rfl (by simp) (by simp [St.obj,au,aP,St.get,aW,ah,ag,bB,kO,LV.int])
 | true=>
   have hc:=ou hm
   simp only [go_sem]
   refine aR [1,2,3,10,11] [.b 2 0 102 5] (fun k:Nat=>(k:Int)≤c.nodes) (fun k=>(c.nodes-k).toNat) (RQ c) 0 ?_ (by omega) (fun k hk=>?_)
   ·simp only [RQ,go_sem,List.replicate_zero,Int.natCast_zero]
   simp only [RQ,go_sem]
   refine bp (fun h=>?_) (fun h=>?_) <;> simp only [h,go_sem] <;> (try simp only [qqS] at h)
   ·have hbd:(k+1)*24≤70368744177664:=by omega
    simp only [List.length_append,List.length_replicate,hbd,go_sem]
    refine bg (k+1) ?_ ?_ (by omega) (by omega)
    ·simp only [go_sem]
    ·simp only [RQ,go_sem,aG (show k<9223372036854775807 by omega),List.replicate_succ',List.map_append]
     rfl
   ·obtain rfl:k=c.nodes.toNat:=by omega
    exact dZ [3] rfl (by simp [St.obj,au]) (by simp [St.obj,au,aP,St.get,aW,ah,ag,bB,LV.int,List.take_of_length_le])
end Dv
namespace Dv
open Go Go.Proofs
variable {G:Nat→Option (List DV)}
end Dv
namespace Dv
open Go Go.Proofs
variable {G:Nat→Option (List DV)}
section
variable {c:aB} {s:aa} {o:bT} (ho:eP o=true)
include ho
end
end Dv
namespace Dv
open Go Go.Proofs
variable {G:Nat→Option (List DV)}
def aa8:=qx Tryz.f20
theorem Zc:aj Tryz.prog Tryz.f20=some aa8:=by kernel_rfl
@[reducible] def stA (s:aa) (a b:Nat):LV:=.agg [.sl a s.nodes.length 5 0 s.nodes.length,.sl b s.jobs.length 12 0 s.jobs.length,.int s.goal,.int s.prior,.int s.mode,.int s.term]
@[reducible] def adw (s:aa):List aC:=[.dat 102 5 (s.nodes.map bX),.dat 119 12 (s.jobs.map dF)]
theorem On (a b:a_):(a.up==b.up&&(a.cF==b.cF&&(a.bw==b.bw&&(a.version==b.version&&(a.aM==b.aM&&true)))))=decide (a=b):=by
 rw [Bool.eq_iff_iff]
 obtain ⟨a1,a2,a3,a4,a5⟩:=a
 obtain ⟨b1,b2,b3,b4,b5⟩:=b
 simp
theorem RZ (a b:bP):(a.queue==b.queue&&(a.prio==b.prio&&(a.min==b.min&&(a.max==b.max&&(a.work==b.work&&(a.pin==b.pin&&(a.phase==b.phase&&(a.inc==b.inc&&(a.nodes==b.nodes&&(a.since==b.since&&(a.til==b.til&&(a.epoch==b.epoch&&true))))))))))))=decide (a=b):=by
 rw [Bool.eq_iff_iff]
 obtain ⟨a1,a2,a3,a4,a5,a6,a7,a8,a9,a10,a11,a12⟩:=a
 obtain ⟨b1,b2,b3,b4,b5,b6,b7,b8,b9,b10,b11,b12⟩:=b
 simp
theorem Ns (s t:aa):decide (s=t)=(decide (s.goal=t.goal∧s.prior=t.prior∧s.mode=t.mode∧s.term=t.term)&&(decide (s.nodes=t.nodes)&&decide (s.jobs=t.jobs))):=by
 rw [Bool.eq_iff_iff]
 obtain ⟨a1,a2,a3,a4,a5,a6⟩:=s
 obtain ⟨b1,b2,b3,b4,b5,b6⟩:=t
 simp
 constructor
 ·rintro ⟨rfl,rfl,rfl,rfl,rfl,rfl⟩; simp
 ·rintro ⟨⟨rfl,rfl,rfl,rfl⟩,rfl,rfl⟩; simp
theorem FN {α:Type} [DecidableEq α] (l m:List α) (k:Nat) (z:α) (h1:k<l.length) (h2:k<m.length):decide (l.drop k=m.drop k)=(decide (l.getD k z=m.getD k z)&&decide (l.drop (k+1)=m.drop (k+1))):=by
 rw [drop_cons l k z h1,drop_cons m k z h2,Bool.eq_iff_iff]
 simp
def xO (s t:aa) (k:Nat):St:=⟨[(2,.ptr 0 0),(3,.ptr 1 0),(5,.int k)],[some (.box 30 [bS s.nodes,de s.jobs,.int s.goal,.int s.prior,.int s.mode,.int s.term]),some (.box 30 [bS t.nodes,de t.jobs,.int t.goal,.int t.prior,.int t.mode,.int t.term])]⟩
def xN (s t:aa) (k:Nat):St:=⟨[(2,.ptr 0 0),(3,.ptr 1 0),(6,.int k)],[some (.box 30 [bS s.nodes,de s.jobs,.int s.goal,.int s.prior,.int s.mode,.int s.term]),some (.box 30 [bS t.nodes,de t.jobs,.int t.goal,.int t.prior,.int t.mode,.int t.term])]⟩
theorem KT (s t:aa) (hn:s.nodes.length≤1000000000000) (hj:s.jobs.length≤1000000000000):bh Tryz.prog G 20 [aY s,aY t] [] (.bool (decide (s=t))) []:=by
 refine bn Tryz.func20 (by decide) Zc rfl rfl ?_
 simp only [aa8,go_sem]
 repeat' (first | ((first | with_reducible refine ek (fun h=>?_) (fun h=>?_) | refine di (fun h=>?_) (fun h=>?_)) <;> simp only [h,go_sem] <;> (try simp only [qqS] at h)))
 all_goals try (symm; apply decide_eq_false; intro e; subst e; omega)
 refine bp (fun O8=>?_) (fun O8=>?_) <;> simp only [O8,go_sem] <;> (try simp only [qqS] at O8)
 ·symm; apply decide_eq_false; intro e; subst e; omega
 have vm:s.nodes.length=t.nodes.length:=by omega
 have hlj:s.jobs.length=t.jobs.length:=by omega
 rw [Ns,decide_eq_true (show s.goal=t.goal∧s.prior=t.prior∧s.mode=t.mode∧s.term=t.term by omega),Bool.true_and]
 generalize hq:(decide (s.nodes=t.nodes)&&decide (s.jobs=t.jobs))=r
 refine aR [2,3,5] [] (fun k:Nat=>k≤s.nodes.length∧(decide (s.nodes.drop k=t.nodes.drop k)&&decide (s.jobs=t.jobs))=r) (fun k=>s.nodes.length-k) (xO s t) 0 ?_ ⟨Nat.zero_le _,hq⟩ ?_
 ·simp only [xO,go_sem,Int.natCast_zero]
 rintro k ⟨hk,hF⟩
 simp only [xO,go_sem]
 refine bp (fun h=>?_) (fun h=>?_)
 ·have h:=eA h
  have h2:k<t.nodes.length:=by omega
  rw [FN s.nodes t.nodes k ai h h2] at hF
  have hg:=aK (f:=bX) ai h
  have hg2:=aK (f:=bX) ai h2
  generalize s.nodes.getD k ai=a at *
  generalize t.nodes.getD k ai=b at *
  simp only [hg,hg2,go_sem]
  have hnd:=On a b
  simp only [Bool.and_true] at hnd
  simp only [hnd,go_sem]
  cases hab:decide (a=b) with
  | false=>
    rw [hab] at hF
    simp only [Bool.false_and] at hF
    simp only [hab,go_sem,← hF]
  | true=>
    rw [hab,Bool.true_and] at hF
    simp only [hab,go_sem]
    refine bg (k+1) ?_ ?_ ⟨by omega,hF⟩ (by omega)
    ·simp only [go_sem]
    ·simp only [xO,go_sem,aG (show k<9223372036854775807 by omega)]
 ·obtain rfl:=eC h hk
  clear hq hk
  rw [List.drop_length,vm,List.drop_length,decide_eq_true rfl,Bool.true_and] at hF
  simp only [go_sem]
  refine aR [2,3,6] [] (fun k:Nat=>k≤s.jobs.length∧decide (s.jobs.drop k=t.jobs.drop k)=r) (fun k=>s.jobs.length-k) (xN s t) 0 ?_ ⟨Nat.zero_le _,hF⟩ ?_
  ·simp only [xN,go_sem,Int.natCast_zero]
  clear hF
  rintro k ⟨hk,hF⟩
  simp only [xN,go_sem]
  refine bp (fun h=>?_) (fun h=>?_)
  ·have h:=eA h
   have h2:k<t.jobs.length:=by omega
   rw [FN s.jobs t.jobs k aD h h2] at hF
   have hg:=aK (f:=dF) aD h
   have hg2:=aK (f:=dF) aD h2
   generalize s.jobs.getD k aD=a at *
   generalize t.jobs.getD k aD=b at *
   simp only [hg,hg2,go_sem]
   have hjd:=RZ a b
   simp only [Bool.and_true] at hjd
   simp only [hjd,go_sem]
   cases hab:decide (a=b) with
   | false=>
     rw [hab] at hF
     simp only [Bool.false_and] at hF
     simp only [hab,go_sem,← hF]
   | true=>
     rw [hab,Bool.true_and] at hF
     simp only [hab,go_sem]
     refine bg (k+1) ?_ ?_ ⟨by omega,hF⟩ (by omega)
     ·simp only [go_sem]
     ·simp only [xN,go_sem,aG (show k<9223372036854775807 by omega)]
  ·obtain rfl:=eC h hk
   rw [List.drop_length,hlj,List.drop_length,decide_eq_true rfl] at hF
   simp only [go_sem,← hF]
end Dv
namespace Dv
open Go Go.Proofs
variable {G:Nat→Option (List DV)}
section
variable {s:aa} {o:bT}
end
end Dv
