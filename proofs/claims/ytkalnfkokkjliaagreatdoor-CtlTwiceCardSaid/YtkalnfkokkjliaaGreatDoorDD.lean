/- part -/
import Derived.Test.YtkalnfkokkjliaaGreatDoorDA
set_option linter.all false
set_option maxRecDepth 100000
namespace Dv
open Go Go.Proofs
variable {G:Nat→Option (List DV)}
def abt:=qx Tryz.f14
theorem ZM:aj Tryz.prog Tryz.f14=some abt:=by kernel_rfl
def abr:=qx Tryz.f15
theorem ZL:aj Tryz.prog Tryz.f15=some abr:=by kernel_rfl
theorem O7 (c:aC):gJ c=decide (1≤c.nodes∧c.nodes≤6∧1≤c.bH∧c.bH≤3∧0≤c.cB∧c.cB≤4∧1≤c.gF∧c.gF≤6∧2≤c.bZ∧c.bZ≤30∧1≤c.eC∧c.eC≤20∧1≤c.deadline∧c.deadline≤60∧0≤c.room∧c.room≤5000∧2000≤c.fP∧c.fP≤40000):=by
 rw [Bool.eq_iff_iff]
 simp only [gJ,bK,Bool.and_eq_true,decide_eq_true_eq,and_assoc]
theorem O8 (c:aC):bw Tryz.prog G 14 [fV c] [] (.bool (gJ c)) []:=by
 refine br Tryz.func14 (by decide) ZM rfl rfl ?_
 simp only [abt,go_sem]
 rw [O7]
 repeat' (first | ((first | with_reducible refine eB (fun h=>?_) (fun h=>?_) | refine dz (fun h=>?_) (fun h=>?_)) <;> simp only [h,go_sem] <;> (try simp only [qqS] at h)) | ((first | with_reducible refine lG (fun h=>?_) (fun h=>?_) | refine bx (fun h=>?_) (fun h=>?_)) <;> simp only [h,go_sem] <;> (try simp only [qqS] at h)))
 all_goals first | (symm; apply decide_eq_false; omega) | (symm; apply decide_eq_true; omega) | (rw [Bool.eq_iff_iff]; simp only [decide_eq_true_eq]; omega)
def node1:bp:=⟨true,false,false,1,0⟩
def dF (c:aC):aa:=if gJ c=true then ⟨List.replicate c.nodes.toNat node1,[],1,1,0,0⟩ else nJ
def Sv (c:aC) (k:Nat):St:=⟨[(1,.ptr 0 0),(2,.ptr 1 0),(3,.ptr 2 0),(10,.int c.nodes),(11,.int k)],[some (.box 23 [.int c.nodes,.int c.bH,.int c.cB,.int c.gF,.int c.bZ,.int c.eC,.int c.deadline,.int c.room,.int c.fP]),some (.box 30 [.d (.val (.slice none 0 0)),.d (.val (.slice none 0 0)),.int 0,.int 0,.int 0,.int 0]),some (.box 30 [.sl 3 k 5 0 k,.d (.val (.slice none 0 0)),.int 1,.int 1,.int 0,.int 0]),some (.dat 102 5 ((List.replicate k node1).map bY))]⟩
theorem J8 (c:aC):bw Tryz.prog G 15 [fV c] [] (aY (dF c)) []:=by
 refine cD Tryz.func15 (by decide) ZL rfl ?_
 simp only [abr,go_sem]
 refine ay (yx c) rfl rfl rfl rfl ?_; simp only [go_sem]
 unfold dF
 cases hm:gJ c with
 | false=>
   simp only [go_sem]
   exact dP [] rfl (by simp) (by simp [St.obj,aD,aU,St.get,aZ,ah,ag,bG,nJ,LV.int])
 | true=>
   have hc:=oM hm
   simp only [go_sem]
   refine aW [1,2,3,10,11] [.b 2 0 102 5] (fun k:Nat=>(k:Int)≤c.nodes) (fun k=>(c.nodes-k).toNat) (Sv c) 0 ?_ (by omega) (fun k hk=>?_)
   ·simp only [Sv,go_sem,List.replicate_zero,Int.natCast_zero]
   simp only [Sv,go_sem]
   refine bx (fun h=>?_) (fun h=>?_) <;> simp only [h,go_sem] <;> (try simp only [qqS] at h)
   ·have hbd:(k+1)*24≤70368744177664:=by omega
    simp only [List.length_append,List.length_replicate,hbd,go_sem]
    refine a_ (k+1) ?_ ?_ (by omega) (by omega)
    ·simp only [go_sem]
    ·simp only [Sv,go_sem,aG (show k<9223372036854775807 by omega),List.replicate_succ',List.map_append]
     rfl
   ·obtain rfl:k=c.nodes.toNat:=by omega
    exact dP [3] rfl (by simp [St.obj,aD]) (by simp [St.obj,aD,aU,St.get,aZ,ah,ag,bG,LV.int,List.take_of_length_le])
end Dv
namespace Dv
open Go Go.Proofs
variable {G:Nat→Option (List DV)}
end Dv
namespace Dv
open Go Go.Proofs
variable {G:Nat→Option (List DV)}
section
variable {c:aC} {s:aa} {o:cA} (ho:eY o=true)
include ho
end
end Dv
namespace Dv
open Go Go.Proofs
variable {G:Nat→Option (List DV)}
def abq:=qx Tryz.f20
theorem ZK:aj Tryz.prog Tryz.f20=some abq:=by kernel_rfl
@[reducible] def stA (s:aa) (a b:Nat):LV:=.agg [.sl a s.nodes.length 5 0 s.nodes.length,.sl b s.jobs.length 12 0 s.jobs.length,.int s.goal,.int s.prior,.int s.mode,.int s.term]
@[reducible] def adX (s:aa):List aH:=[.dat 102 5 (s.nodes.map bY),.dat 119 12 (s.jobs.map dD)]
theorem OW (a b:bp):(a.up==b.up&&(a.cL==b.cL&&(a.bC==b.bC&&(a.version==b.version&&(a.aQ==b.aQ&&true)))))=decide (a=b):=by
 rw [Bool.eq_iff_iff]
 obtain ⟨a1,a2,a3,a4,a5⟩:=a
 obtain ⟨b1,b2,b3,b4,b5⟩:=b
 simp
theorem SE (a b:bP):(a.queue==b.queue&&(a.prio==b.prio&&(a.min==b.min&&(a.max==b.max&&(a.work==b.work&&(a.pin==b.pin&&(a.phase==b.phase&&(a.inc==b.inc&&(a.nodes==b.nodes&&(a.since==b.since&&(a.til==b.til&&(a.epoch==b.epoch&&true))))))))))))=decide (a=b):=by
 rw [Bool.eq_iff_iff]
 obtain ⟨a1,a2,a3,a4,a5,a6,a7,a8,a9,a10,a11,a12⟩:=a
 obtain ⟨b1,b2,b3,b4,b5,b6,b7,b8,b9,b10,b11,b12⟩:=b
 simp
theorem N_ (s t:aa):decide (s=t)=(decide (s.goal=t.goal∧s.prior=t.prior∧s.mode=t.mode∧s.term=t.term)&&(decide (s.nodes=t.nodes)&&decide (s.jobs=t.jobs))):=by
 rw [Bool.eq_iff_iff]
 obtain ⟨a1,a2,a3,a4,a5,a6⟩:=s
 obtain ⟨b1,b2,b3,b4,b5,b6⟩:=t
 simp
 constructor
 ·rintro ⟨rfl,rfl,rfl,rfl,rfl,rfl⟩; simp
 ·rintro ⟨⟨rfl,rfl,rfl,rfl⟩,rfl,rfl⟩; simp
theorem Gn {α:Type} [DecidableEq α] (l m:List α) (k:Nat) (z:α) (h1:k<l.length) (h2:k<m.length):decide (l.drop k=m.drop k)=(decide (l.getD k z=m.getD k z)&&decide (l.drop (k+1)=m.drop (k+1))):=by
 rw [drop_cons l k z h1,drop_cons m k z h2,Bool.eq_iff_iff]
 simp
def yc (s t:aa) (k:Nat):St:=⟨[(2,.ptr 0 0),(3,.ptr 1 0),(5,.int k)],[some (.box 30 [bO s.nodes,cO s.jobs,.int s.goal,.int s.prior,.int s.mode,.int s.term]),some (.box 30 [bO t.nodes,cO t.jobs,.int t.goal,.int t.prior,.int t.mode,.int t.term])]⟩
def yb (s t:aa) (k:Nat):St:=⟨[(2,.ptr 0 0),(3,.ptr 1 0),(6,.int k)],[some (.box 30 [bO s.nodes,cO s.jobs,.int s.goal,.int s.prior,.int s.mode,.int s.term]),some (.box 30 [bO t.nodes,cO t.jobs,.int t.goal,.int t.prior,.int t.mode,.int t.term])]⟩
theorem Lu (s t:aa) (hn:s.nodes.length≤1000000000000) (hj:s.jobs.length≤1000000000000):bw Tryz.prog G 20 [aY s,aY t] [] (.bool (decide (s=t))) []:=by
 refine br Tryz.func20 (by decide) ZK rfl rfl ?_
 simp only [abq,go_sem]
 repeat' (first | ((first | with_reducible refine eB (fun h=>?_) (fun h=>?_) | refine dz (fun h=>?_) (fun h=>?_)) <;> simp only [h,go_sem] <;> (try simp only [qqS] at h)))
 all_goals try (symm; apply decide_eq_false; intro e; subst e; omega)
 refine bx (fun PM=>?_) (fun PM=>?_) <;> simp only [PM,go_sem] <;> (try simp only [qqS] at PM)
 ·symm; apply decide_eq_false; intro e; subst e; omega
 have sE:s.nodes.length=t.nodes.length:=by omega
 have hlj:s.jobs.length=t.jobs.length:=by omega
 rw [N_,decide_eq_true (show s.goal=t.goal∧s.prior=t.prior∧s.mode=t.mode∧s.term=t.term by omega),Bool.true_and]
 generalize hq:(decide (s.nodes=t.nodes)&&decide (s.jobs=t.jobs))=r
 refine aW [2,3,5] [] (fun k:Nat=>k≤s.nodes.length∧(decide (s.nodes.drop k=t.nodes.drop k)&&decide (s.jobs=t.jobs))=r) (fun k=>s.nodes.length-k) (yc s t) 0 ?_ ⟨Nat.zero_le _,hq⟩ ?_
 ·simp only [yc,go_sem,Int.natCast_zero]
 rintro k ⟨hk,hF⟩
 simp only [yc,go_sem]
 refine bx (fun h=>?_) (fun h=>?_)
 ·have h:=eN h
  have h2:k<t.nodes.length:=by omega
  rw [Gn s.nodes t.nodes k ai h h2] at hF
  have hg:=aJ (f:=bY) ai h
  have hg2:=aJ (f:=bY) ai h2
  generalize s.nodes.getD k ai=a at *
  generalize t.nodes.getD k ai=b at *
  simp only [hg,hg2,go_sem]
  have hnd:=OW a b
  simp only [Bool.and_true] at hnd
  simp only [hnd,go_sem]
  cases hab:decide (a=b) with
  | false=>
    rw [hab] at hF
    simp only [Bool.false_and] at hF
    simp only [hab,go_sem,← hF]
  | true=>
    rw [hab,Bool.true_and] at hF
    simp only [hab,go_sem]
    refine a_ (k+1) ?_ ?_ ⟨by omega,hF⟩ (by omega)
    ·simp only [go_sem]
    ·simp only [yc,go_sem,aG (show k<9223372036854775807 by omega)]
 ·obtain rfl:=eP h hk
  clear hq hk
  rw [List.drop_length,sE,List.drop_length,decide_eq_true rfl,Bool.true_and] at hF
  simp only [go_sem]
  refine aW [2,3,6] [] (fun k:Nat=>k≤s.jobs.length∧decide (s.jobs.drop k=t.jobs.drop k)=r) (fun k=>s.jobs.length-k) (yb s t) 0 ?_ ⟨Nat.zero_le _,hF⟩ ?_
  ·simp only [yb,go_sem,Int.natCast_zero]
  clear hF
  rintro k ⟨hk,hF⟩
  simp only [yb,go_sem]
  refine bx (fun h=>?_) (fun h=>?_)
  ·have h:=eN h
   have h2:k<t.jobs.length:=by omega
   rw [Gn s.jobs t.jobs k az h h2] at hF
   have hg:=aJ (f:=dD) az h
   have hg2:=aJ (f:=dD) az h2
   generalize s.jobs.getD k az=a at *
   generalize t.jobs.getD k az=b at *
   simp only [hg,hg2,go_sem]
   have hjd:=SE a b
   simp only [Bool.and_true] at hjd
   simp only [hjd,go_sem]
   cases hab:decide (a=b) with
   | false=>
     rw [hab] at hF
     simp only [Bool.false_and] at hF
     simp only [hab,go_sem,← hF]
   | true=>
     rw [hab,Bool.true_and] at hF
     simp only [hab,go_sem]
     refine a_ (k+1) ?_ ?_ ⟨by omega,hF⟩ (by omega)
     ·simp only [go_sem]
     ·simp only [yb,go_sem,aG (show k<9223372036854775807 by omega)]
  ·obtain rfl:=eP h hk
   rw [List.drop_length,hlj,List.drop_length,decide_eq_true rfl] at hF
   simp only [go_sem,← hF]
end Dv
namespace Dv
open Go Go.Proofs
variable {G:Nat→Option (List DV)}
section
variable {s:aa} {o:cA}
end
end Dv
