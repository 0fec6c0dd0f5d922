/- part -/
import Derived.Test.YtkalnfkokkjliaaGreatDoorDD
import Derived.Test.YtkalnfkokkjliaaGreatDoorPA
import Derived.Test.YtkalnfkokkjliaaGreatDoorDE
import Derived.Test.YtkalnfkokkjliaaGreatDoorQA
import Derived.Test.YtkalnfkokkjliaaGreatDoorTC
import Derived.Test.YtkalnfkokkjliaaGreatDoorQC
set_option linter.all false
set_option maxHeartbeats 4000000
set_option maxRecDepth 100000
namespace Dv
open Go Go.Proofs
variable {G:Nat→Option (List DV)}
def CO (s:aa):aH:=.box 30 [bO s.nodes,cO s.jobs,.int s.goal,.int s.prior,.int s.mode,.int s.term]
def CQ (c:aC):aH:=.box 23 [.int c.nodes,.int c.bH,.int c.cB,.int c.gF,.int c.bZ,.int c.eC,.int c.deadline,.int c.room,.int c.fP]
end Dv
namespace Dv
open Go Go.Proofs
variable {G:Nat→Option (List DV)}
def LL:aH:=.box 37 [.int 0,.int 0,.int 0,.int 0,.int 0,.int 0,.int 0]
end Dv
namespace Dv
open Go Go.Proofs
variable {G:Nat→Option (List DV)}
def WL:=qx Tryz.f285
theorem Tb:aj Tryz.prog Tryz.f285=some WL:=by kernel_rfl
def Xa:=qx Tryz.f245
theorem Tw:aj Tryz.prog Tryz.f245=some Xa:=by kernel_rfl
def W9:=qx Tryz.f247
theorem Tu:aj Tryz.prog Tryz.f247=some W9:=by kernel_rfl
def Xy:=qx Tryz.f200
theorem TT:aj Tryz.prog Tryz.f200=some Xy:=by kernel_rfl
def ltS (s:aa) (now:Int) (k:Nat):St:=⟨[(1,.int now),(2,.ptr 0 0),(5,.sl 1 (lY s now k).length 1 0 (lY s now k).length),(9,cO s.jobs),(10,.int s.jobs.length),(11,.int k)],[some (fE s),some (.dat 3 1 (kU (lY s now k)))]⟩
theorem Pg (s:aa) (now:Int) (hn:s.jobs.length≤1000):bw Tryz.prog G 285 [aY s,.int now] [] (.d (.dH 1 (kU (J_ s now)))) []:=by
 refine cD Tryz.func285 (by decide) Tb rfl ?_
 simp only [WL,go_sem]
 refine aW [1,2,5,9,10,11] [.t 5 3 1] (fun k:Nat=>k≤s.jobs.length) (fun k=>s.jobs.length-k) (ltS s now) 0 ?_ (Nat.zero_le _) (fun k hk=>?_)
 ·simp only [ltS,fE,go_sem,lY,List.range_zero,List.filter_nil,kU,Int.natCast_zero]
 simp only [ltS,fE,go_sem]
 by_cases hlt:k<s.jobs.length
 ·have hg:=aJ (f:=dD) az hlt
  have hk2:=FK s now k
  have hlen:=H7 s now k
  have hbd:((lY s now k).length+1)*8≤70368744177664:=by omega
  have hq:FL s now k=(decide ((s.jobs.getD k az).phase=3)&&decide ((s.jobs.getD k az).til≤now)):=rfl
  generalize s.jobs.getD k az=j at *
  simp only [dD] at hg
  simp only [decide_eq_true (show ((k:Nat):Int)<((s.jobs.length:Nat):Int) by omega),hg,go_sem]
  by_cases hb:j.phase=3
  case neg=>
   rw [hq,decide_eq_false hb,Bool.false_and,if_neg (by decide),List.append_nil] at hk2
   simp only [show (j.phase==3)=false from beq_eq_false_iff_ne.2 hb,go_sem]
   refine a_ (k+1) ?_ ?_ (by omega) (by omega)
   ·simp only [go_sem]
   ·simp only [ltS,fE,hk2,kU,List.map_append,List.length_append,go_sem,aG (show k<9223372036854775807 by omega)]
  simp only [show (j.phase==3)=true from beq_iff_eq.2 hb,go_sem]
  by_cases hu:j.til≤now
  ·rw [hq,decide_eq_true hb,decide_eq_true hu,Bool.true_and,if_pos rfl] at hk2
   simp only [decide_eq_true hu,kU,List.length_append,hbd,aG (show k<9223372036854775807 by omega),go_sem]
   refine a_ (k+1) ?_ ?_ (by omega) (by omega)
   ·simp only [go_sem]
   ·simp only [ltS,fE,hk2,kU,List.map_append,List.length_append,go_sem,aG (show k<9223372036854775807 by omega)]
  ·rw [hq,decide_eq_false hu,Bool.and_false,if_neg (by decide),List.append_nil] at hk2
   simp only [decide_eq_false hu,go_sem]
   refine a_ (k+1) ?_ ?_ (by omega) (by omega)
   ·simp only [go_sem]
   ·simp only [ltS,fE,hk2,kU,List.map_append,List.length_append,go_sem,aG (show k<9223372036854775807 by omega)]
 ·obtain rfl:k=s.jobs.length:=by omega
  simp only [decide_eq_false (show ¬ ((s.jobs.length:Nat):Int)<((s.jobs.length:Nat):Int) by omega),show lY s now s.jobs.length=J_ s now from rfl,go_sem]
  exact dP [1] rfl (by simp [St.obj,aD]) (by simp [St.obj,aD,aU,St.get,aZ,ah,bG,kU,List.take_of_length_le])
theorem HF (c:aC) (s:aa) (now:Int) (hn:s.jobs.length≤1000):bw Tryz.prog G 245 [fV c,aY s,.int now] [] (jh (Av s now)) []:=by
 refine br Tryz.func245 (by decide) Tw rfl rfl ?_
 simp only [Xa,go_sem]
 unfold Av
 refine ay (Pg s now hn) rfl rfl rfl rfl ?_; simp only [go_sem]
 cases J_ s now with
 | nil=>simp only [kU,Int.natCast_zero,jh,Option.getD_none,Option.isSome_none,go_sem]
 | cons k l=>
   simp only [kU,show ((((l.length+1:Nat):Int))==0)=false from beq_eq_false_iff_ne.2 (by omega),jh,Option.getD_some,Option.isSome_some,go_sem]
theorem LH (c:aC) (s:aa) (h:tL s) (now:Int) (h0:vo now):bw Tryz.prog G 247 [fV c,aY s,.int now] [] (jh (Af s now)) []:=by
 refine br Tryz.func247 (by decide) Tu rfl rfl ?_
 simp only [W9,go_sem]
 unfold Af
 refine ay (Ng s h now h0) rfl rfl rfl rfl ?_; simp only [go_sem]
 generalize ru s now=r
 obtain ⟨aQ,n,ok⟩:=r
 cases ok with
 | true=>simp only [jh,Option.getD_some,Option.isSome_some,go_sem]
 | false=>simp only [Bool.false_eq_true,jh,Option.getD_none,Option.isSome_none,go_sem]
def B0:List LV:=[.d (.fn (.func 245) [] []),.d (.fn (.func 246) [] []),.d (.fn (.func 247) [] [])]
def Fg (c:aC) (s:aa) (now:Int):Nat→Option cA
 | 0=>pJ c s now
 | 1=>match zM c s now with
   | some o=>some o
   | none=>Af s now
 | 2=>Af s now
 | _=>none
def LG (c:aC) (s:aa) (now:Int) (i:Nat):St:=⟨[(2,.int now),(3,.ptr 0 0),(4,.ptr 1 0),(6,.ptr 2 0),(7,.bool false),(15,.agg B0),(16,.int i)],[some (CQ c),some (CO s),some LL]⟩
theorem Lc {c:aC} (hm:gJ c=true) {now:Int} (h0:vo now):-1000000000≤now+c.deadline∧now+c.deadline≤1000000000:=by
 unfold gJ at hm
 simp only [Bool.and_eq_true] at hm
 have:=bh hm.1.1.2
 have h1:=h0.1
 have h2:=h0.2
 omega
theorem bR.nj {c:aC} {s:aa} (h:bR c s):NJ s:=⟨by have:=h.len; omega,by have:=h.jobs; omega,h.aQ⟩
theorem Oo (c:aC) (s:aa) (h:bR c s) (now:Int) (h0:vo now):bw Tryz.prog G 200 [fV c,aY s,.int now] [] (jh (pJ c s now)) []:=by
 refine br Tryz.func200 (by decide) TT rfl rfl ?_
 simp only [Xy,go_sem]
 generalize hr:pJ c s now=r
 have hd:=Lc h.vf h0
 refine aW [2,3,4,6,7,15,16] [] (fun i:Nat=>i≤3∧Fg c s now i=r) (fun i=>3-i) (LG c s now) 0 ?_ ⟨by omega,hr⟩ ?_
 ·simp only [LG,B0,CQ,CO,LL,Int.natCast_zero,go_sem]
 clear hr
 rintro i ⟨hi,hr⟩
 simp only [LG,B0,CQ,CO,LL,go_sem]
 match i,hi with
 | 0,_=>
   simp only [Fg,pJ] at hr
   simp only [show (decide (((0:Nat):Int)<3))=true from rfl,go_sem]
   refine ay (HF c s now (by have:=h.jobs; omega)) rfl rfl rfl rfl ?_; simp only [go_sem]
   generalize Av s now=o at hr ⊢
   cases o with
   | some o=>
     try dsimp only at hr
     subst hr
     obtain ⟨o1,o2,o3,o4,o5,o6,o7⟩:=o
     simp only [jh,Option.getD_some,Option.isSome_some,go_sem]
   | none=>
     try dsimp only at hr
     simp only [jh,Option.getD_none,Option.isSome_none,go_sem]
     refine a_ 1 ?_ ?_ ⟨by omega,by first | exact hr | (subst hr; rfl)⟩ (by omega)
     ·simp only [go_sem]
     ·simp only [LG,B0,CQ,CO,LL,go_sem]
      rfl
 | 1,_=>
   simp only [Fg] at hr
   simp only [show (decide (((1:Nat):Int)<3))=true from rfl,go_sem]
   refine ay (OY c s now h.nj hd) rfl rfl rfl rfl ?_; simp only [go_sem]
   generalize zM c s now=o at hr ⊢
   cases o with
   | some o=>
     try dsimp only at hr
     subst hr
     obtain ⟨o1,o2,o3,o4,o5,o6,o7⟩:=o
     simp only [jh,Option.getD_some,Option.isSome_some,go_sem]
   | none=>
     try dsimp only at hr
     simp only [jh,Option.getD_none,Option.isSome_none,go_sem]
     refine a_ 2 ?_ ?_ ⟨by omega,by first | exact hr | (subst hr; rfl)⟩ (by omega)
     ·simp only [go_sem]
     ·simp only [LG,B0,CQ,CO,LL,go_sem]
      rfl
 | 2,_=>
   simp only [Fg] at hr
   simp only [show (decide (((2:Nat):Int)<3))=true from rfl,go_sem]
   refine ay (LH c s h.fits now h0) rfl rfl rfl rfl ?_; simp only [go_sem]
   generalize Af s now=o at hr ⊢
   cases o with
   | some o=>
     try dsimp only at hr
     subst hr
     obtain ⟨o1,o2,o3,o4,o5,o6,o7⟩:=o
     simp only [jh,Option.getD_some,Option.isSome_some,go_sem]
   | none=>
     try dsimp only at hr
     simp only [jh,Option.getD_none,Option.isSome_none,go_sem]
     refine a_ 3 ?_ ?_ ⟨by omega,by first | exact hr | (subst hr; rfl)⟩ (by omega)
     ·simp only [go_sem]
     ·simp only [LG,B0,CQ,CO,LL,go_sem]
      rfl
 | 3,_=>
   simp only [Fg] at hr
   subst hr
   simp only [show (decide (((3:Nat):Int)<3))=false from rfl,jh,Option.getD_none,Option.isSome_none,go_sem]
end Dv
