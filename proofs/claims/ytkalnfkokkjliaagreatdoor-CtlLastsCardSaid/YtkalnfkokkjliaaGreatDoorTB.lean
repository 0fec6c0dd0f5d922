/- part -/
import Derived.Test.YtkalnfkokkjliaaGreatDoorDD
import Derived.Test.YtkalnfkokkjliaaGreatDoorPA
import Derived.Test.YtkalnfkokkjliaaGreatDoorDE
import Derived.Test.YtkalnfkokkjliaaGreatDoorQA
import Derived.Test.YtkalnfkokkjliaaGreatDoorTC
import Derived.Test.YtkalnfkokkjliaaGreatDoorQC
set_option linter.all false
set_option maxHeartbeats 4000000
set_option maxRecDepth 100000
namespace Dv
open Go Go.Proofs
variable {G:Nat→Option (List DV)}
def Dd (s:aa):aG:=.box 30 [bS s.nodes,cZ s.jobs,.int s.goal,.int s.prior,.int s.mode,.int s.term]
def Df (c:aF):aG:=.box 23 [.int c.nodes,.int c.bL,.int c.cE,.int c.gT,.int c.cc,.int c.eG,.int c.deadline,.int c.room,.int c.ga]
end Dv
namespace Dv
open Go Go.Proofs
variable {G:Nat→Option (List DV)}
def L7:aG:=.box 37 [.int 0,.int 0,.int 0,.int 0,.int 0,.int 0,.int 0]
end Dv
namespace Dv
open Go Go.Proofs
variable {G:Nat→Option (List DV)}
def Xd:=qx Tryz.f285
theorem Tp:aj Tryz.prog Tryz.f285=some Xd:=by kernel_rfl
def Xz:=qx Tryz.f245
theorem TK:aj Tryz.prog Tryz.f245=some Xz:=by kernel_rfl
def Xx:=qx Tryz.f247
theorem TI:aj Tryz.prog Tryz.f247=some Xx:=by kernel_rfl
def XW:=qx Tryz.f200
theorem Uc:aj Tryz.prog Tryz.f200=some XW:=by kernel_rfl
def ltS (s:aa) (now:Int) (k:Nat):St:=⟨[(1,.int now),(2,.ptr 0 0),(5,.sl 1 (me s now k).length 1 0 (me s now k).length),(9,cZ s.jobs),(10,.int s.jobs.length),(11,.int k)],[some (fG s),some (.dat 3 1 (kY (me s now k)))]⟩
theorem PA (s:aa) (now:Int) (hn:s.jobs.length≤1000):bu Tryz.prog G 285 [aX s,.int now] [] (.d (.dO 1 (kY (Kr s now)))) []:=by
 refine cI Tryz.func285 (by decide) Tp rfl ?_
 simp only [Xd,go_sem]
 refine aW [1,2,5,9,10,11] [.t 5 3 1] (fun k:Nat=>k≤s.jobs.length) (fun k=>s.jobs.length-k) (ltS s now) 0 ?_ (Nat.zero_le _) (fun k hk=>?_)
 ·simp only [ltS,fG,go_sem,me,List.range_zero,List.filter_nil,kY,Int.natCast_zero]
 simp only [ltS,fG,go_sem]
 by_cases hlt:k<s.jobs.length
 ·have hg:=aM (f:=dJ) az hlt
  have hk2:=F0 s now k
  have hlen:=Is s now k
  have hbd:((me s now k).length+1)*8≤70368744177664:=by omega
  have hq:F1 s now k=(decide ((s.jobs.getD k az).phase=3)&&decide ((s.jobs.getD k az).til≤now)):=rfl
  generalize s.jobs.getD k az=j at *
  simp only [dJ] at hg
  simp only [decide_eq_true (show ((k:Nat):Int)<((s.jobs.length:Nat):Int) by omega),hg,go_sem]
  by_cases hb:j.phase=3
  case neg=>
   rw [hq,decide_eq_false hb,Bool.false_and,if_neg (by decide),List.append_nil] at hk2
   simp only [show (j.phase==3)=false from beq_eq_false_iff_ne.2 hb,go_sem]
   refine bh (k+1) ?_ ?_ (by omega) (by omega)
   ·simp only [go_sem]
   ·simp only [ltS,fG,hk2,kY,List.map_append,List.length_append,go_sem,aH (show k<9223372036854775807 by omega)]
  simp only [show (j.phase==3)=true from beq_iff_eq.2 hb,go_sem]
  by_cases hu:j.til≤now
  ·rw [hq,decide_eq_true hb,decide_eq_true hu,Bool.true_and,if_pos rfl] at hk2
   simp only [decide_eq_true hu,kY,List.length_append,hbd,aH (show k<9223372036854775807 by omega),go_sem]
   refine bh (k+1) ?_ ?_ (by omega) (by omega)
   ·simp only [go_sem]
   ·simp only [ltS,fG,hk2,kY,List.map_append,List.length_append,go_sem,aH (show k<9223372036854775807 by omega)]
  ·rw [hq,decide_eq_false hu,Bool.and_false,if_neg (by decide),List.append_nil] at hk2
   simp only [decide_eq_false hu,go_sem]
   refine bh (k+1) ?_ ?_ (by omega) (by omega)
   ·simp only [go_sem]
   ·simp only [ltS,fG,hk2,kY,List.map_append,List.length_append,go_sem,aH (show k<9223372036854775807 by omega)]
 ·obtain rfl:k=s.jobs.length:=by omega
  simp only [decide_eq_false (show ¬ ((s.jobs.length:Nat):Int)<((s.jobs.length:Nat):Int) by omega),show me s now s.jobs.length=Kr s now from rfl,go_sem]
  exact dQ [1] rfl (by simp [St.obj,aC]) (by simp [St.obj,aC,aV,St.get,aY,ah,bK,kY,List.take_of_length_le])
theorem HW (c:aF) (s:aa) (now:Int) (hn:s.jobs.length≤1000):bu Tryz.prog G 245 [fN c,aX s,.int now] [] (jv (AU s now)) []:=by
 refine bz Tryz.func245 (by decide) TK rfl rfl ?_
 simp only [Xz,go_sem]
 unfold AU
 refine av (PA s now hn) rfl rfl rfl rfl ?_; simp only [go_sem]
 cases Kr s now with
 | nil=>simp only [kY,Int.natCast_zero,jv,Option.getD_none,Option.isSome_none,go_sem]
 | cons k l=>
   simp only [kY,show ((((l.length+1:Nat):Int))==0)=false from beq_eq_false_iff_ne.2 (by omega),jv,Option.getD_some,Option.isSome_some,go_sem]
theorem LZ (c:aF) (s:aa) (h:uc s) (now:Int) (h0:vL now):bu Tryz.prog G 247 [fN c,aX s,.int now] [] (jv (AF s now)) []:=by
 refine bz Tryz.func247 (by decide) TI rfl rfl ?_
 simp only [Xx,go_sem]
 unfold AF
 refine av (Nx s h now h0) rfl rfl rfl rfl ?_; simp only [go_sem]
 generalize rG s now=r
 obtain ⟨aQ,n,ok⟩:=r
 cases ok with
 | true=>simp only [jv,Option.getD_some,Option.isSome_some,go_sem]
 | false=>simp only [Bool.false_eq_true,jv,Option.getD_none,Option.isSome_none,go_sem]
def Cm:List LV:=[.d (.fn (.func 245) [] []),.d (.fn (.func 246) [] []),.d (.fn (.func 247) [] [])]
def Fy (c:aF) (s:aa) (now:Int):Nat→Option cB
 | 0=>pQ c s now
 | 1=>match Aj c s now with
   | some o=>some o
   | none=>AF s now
 | 2=>AF s now
 | _=>none
def LY (c:aF) (s:aa) (now:Int) (i:Nat):St:=⟨[(2,.int now),(3,.ptr 0 0),(4,.ptr 1 0),(6,.ptr 2 0),(7,.bool false),(15,.agg Cm),(16,.int i)],[some (Df c),some (Dd s),some L7]⟩
theorem Lt {c:aF} (hm:gH c=true) {now:Int} (h0:vL now):-1000000000≤now+c.deadline∧now+c.deadline≤1000000000:=by
 unfold gH at hm
 simp only [Bool.and_eq_true] at hm
 have:=bp hm.1.1.2
 have h1:=h0.1
 have h2:=h0.2
 omega
theorem bU.nj {c:aF} {s:aa} (h:bU c s):NJ s:=⟨by have:=h.len; omega,by have:=h.jobs; omega,h.aQ⟩
theorem OI (c:aF) (s:aa) (h:bU c s) (now:Int) (h0:vL now):bu Tryz.prog G 200 [fN c,aX s,.int now] [] (jv (pQ c s now)) []:=by
 refine bz Tryz.func200 (by decide) Uc rfl rfl ?_
 simp only [XW,go_sem]
 generalize hr:pQ c s now=r
 have hd:=Lt h.vE h0
 refine aW [2,3,4,6,7,15,16] [] (fun i:Nat=>i≤3∧Fy c s now i=r) (fun i=>3-i) (LY c s now) 0 ?_ ⟨by omega,hr⟩ ?_
 ·simp only [LY,Cm,Df,Dd,L7,Int.natCast_zero,go_sem]
 clear hr
 rintro i ⟨hi,hr⟩
 simp only [LY,Cm,Df,Dd,L7,go_sem]
 match i,hi with
 | 0,_=>
   simp only [Fy,pQ] at hr
   simp only [show (decide (((0:Nat):Int)<3))=true from rfl,go_sem]
   refine av (HW c s now (by have:=h.jobs; omega)) rfl rfl rfl rfl ?_; simp only [go_sem]
   generalize AU s now=o at hr ⊢
   cases o with
   | some o=>
     try dsimp only at hr
     subst hr
     obtain ⟨o1,o2,o3,o4,o5,o6,o7⟩:=o
     simp only [jv,Option.getD_some,Option.isSome_some,go_sem]
   | none=>
     try dsimp only at hr
     simp only [jv,Option.getD_none,Option.isSome_none,go_sem]
     refine bh 1 ?_ ?_ ⟨by omega,by first | exact hr | (subst hr; rfl)⟩ (by omega)
     ·simp only [go_sem]
     ·simp only [LY,Cm,Df,Dd,L7,go_sem]
      rfl
 | 1,_=>
   simp only [Fy] at hr
   simp only [show (decide (((1:Nat):Int)<3))=true from rfl,go_sem]
   refine av (Ph c s now h.nj hd) rfl rfl rfl rfl ?_; simp only [go_sem]
   generalize Aj c s now=o at hr ⊢
   cases o with
   | some o=>
     try dsimp only at hr
     subst hr
     obtain ⟨o1,o2,o3,o4,o5,o6,o7⟩:=o
     simp only [jv,Option.getD_some,Option.isSome_some,go_sem]
   | none=>
     try dsimp only at hr
     simp only [jv,Option.getD_none,Option.isSome_none,go_sem]
     refine bh 2 ?_ ?_ ⟨by omega,by first | exact hr | (subst hr; rfl)⟩ (by omega)
     ·simp only [go_sem]
     ·simp only [LY,Cm,Df,Dd,L7,go_sem]
      rfl
 | 2,_=>
   simp only [Fy] at hr
   simp only [show (decide (((2:Nat):Int)<3))=true from rfl,go_sem]
   refine av (LZ c s h.fits now h0) rfl rfl rfl rfl ?_; simp only [go_sem]
   generalize AF s now=o at hr ⊢
   cases o with
   | some o=>
     try dsimp only at hr
     subst hr
     obtain ⟨o1,o2,o3,o4,o5,o6,o7⟩:=o
     simp only [jv,Option.getD_some,Option.isSome_some,go_sem]
   | none=>
     try dsimp only at hr
     simp only [jv,Option.getD_none,Option.isSome_none,go_sem]
     refine bh 3 ?_ ?_ ⟨by omega,by first | exact hr | (subst hr; rfl)⟩ (by omega)
     ·simp only [go_sem]
     ·simp only [LY,Cm,Df,Dd,L7,go_sem]
      rfl
 | 3,_=>
   simp only [Fy] at hr
   subst hr
   simp only [show (decide (((3:Nat):Int)<3))=false from rfl,jv,Option.getD_none,Option.isSome_none,go_sem]
end Dv
