/- part -/
import Derived.Test.YtkalnfkokkjliaaGreatDoorDD
import Derived.Test.YtkalnfkokkjliaaGreatDoorPA
import Derived.Test.YtkalnfkokkjliaaGreatDoorDE
import Derived.Test.YtkalnfkokkjliaaGreatDoorQA
import Derived.Test.YtkalnfkokkjliaaGreatDoorTC
import Derived.Test.YtkalnfkokkjliaaGreatDoorQC
set_option linter.all false
set_option maxHeartbeats 4000000
set_option maxRecDepth 100000
namespace Dv
open Go Go.Proofs
variable {G:Nat→Option (List DV)}
def Ck (s:aa):aC:=.box 30 [bS s.nodes,de s.jobs,.int s.goal,.int s.prior,.int s.mode,.int s.term]
def Cm (c:aB):aC:=.box 23 [.int c.nodes,.int c.bI,.int c.cH,.int c.iN,.int c.cr,.int c.eZ,.int c.deadline,.int c.room,.int c.gX]
end Dv
namespace Dv
open Go Go.Proofs
variable {G:Nat→Option (List DV)}
def Lf:aC:=.box 37 [.int 0,.int 0,.int 0,.int 0,.int 0,.int 0,.int 0]
end Dv
namespace Dv
open Go Go.Proofs
variable {G:Nat→Option (List DV)}
def VX:=qx Tryz.f285
theorem Ss:aj Tryz.prog Tryz.f285=some VX:=by kernel_rfl
def Wr:=qx Tryz.f245
theorem SP:aj Tryz.prog Tryz.f245=some Wr:=by kernel_rfl
def Wp:=qx Tryz.f247
theorem SN:aj Tryz.prog Tryz.f247=some Wp:=by kernel_rfl
def WV:=qx Tryz.f200
theorem Tj:aj Tryz.prog Tryz.f200=some WV:=by kernel_rfl
def ltS (s:aa) (now:Int) (k:Nat):St:=⟨[(1,.int now),(2,.ptr 0 0),(5,.sl 1 (lF s now k).length 1 0 (lF s now k).length),(9,de s.jobs),(10,.int s.jobs.length),(11,.int k)],[some (fk s),some (.dat 3 1 (kH (lF s now k)))]⟩
theorem OI (s:aa) (now:Int) (hn:s.jobs.length≤1000):bh Tryz.prog G 285 [aY s,.int now] [] (.d (.dK 1 (kH (Jy s now)))) []:=by
 refine cA Tryz.func285 (by decide) Ss rfl ?_
 simp only [VX,go_sem]
 refine aR [1,2,5,9,10,11] [.t 5 3 1] (fun k:Nat=>k≤s.jobs.length) (fun k=>s.jobs.length-k) (ltS s now) 0 ?_ (Nat.zero_le _) (fun k hk=>?_)
 ·simp only [ltS,fk,go_sem,lF,List.range_zero,List.filter_nil,kH,Int.natCast_zero]
 simp only [ltS,fk,go_sem]
 by_cases hlt:k<s.jobs.length
 ·have hg:=aK (f:=dF) aD hlt
  have hk2:=E9 s now k
  have hlen:=Hp s now k
  have hbd:((lF s now k).length+1)*8≤70368744177664:=by omega
  have hq:E_ s now k=(decide ((s.jobs.getD k aD).phase=3)&&decide ((s.jobs.getD k aD).til≤now)):=rfl
  generalize s.jobs.getD k aD=j at *
  simp only [dF] at hg
  simp only [decide_eq_true (show ((k:Nat):Int)<((s.jobs.length:Nat):Int) by omega),hg,go_sem]
  by_cases hb:j.phase=3
  case neg=>
   rw [hq,decide_eq_false hb,Bool.false_and,if_neg (by decide),List.append_nil] at hk2
   simp only [show (j.phase==3)=false from beq_eq_false_iff_ne.2 hb,go_sem]
   refine bg (k+1) ?_ ?_ (by omega) (by omega)
   ·simp only [go_sem]
   ·simp only [ltS,fk,hk2,kH,List.map_append,List.length_append,go_sem,aG (show k<9223372036854775807 by omega)]
  simp only [show (j.phase==3)=true from beq_iff_eq.2 hb,go_sem]
  by_cases hu:j.til≤now
  ·rw [hq,decide_eq_true hb,decide_eq_true hu,Bool.true_and,if_pos rfl] at hk2
   simp only [decide_eq_true hu,kH,List.length_append,hbd,aG (show k<9223372036854775807 by omega),go_sem]
   refine bg (k+1) ?_ ?_ (by omega) (by omega)
   ·simp only [go_sem]
   ·simp only [ltS,fk,hk2,kH,List.map_append,List.length_append,go_sem,aG (show k<9223372036854775807 by omega)]
  ·rw [hq,decide_eq_false hu,Bool.and_false,if_neg (by decide),List.append_nil] at hk2
   simp only [decide_eq_false hu,go_sem]
   refine bg (k+1) ?_ ?_ (by omega) (by omega)
   ·simp only [go_sem]
   ·simp only [ltS,fk,hk2,kH,List.map_append,List.length_append,go_sem,aG (show k<9223372036854775807 by omega)]
 ·obtain rfl:k=s.jobs.length:=by omega
  simp only [decide_eq_false (show ¬ ((s.jobs.length:Nat):Int)<((s.jobs.length:Nat):Int) by omega),show lF s now s.jobs.length=Jy s now from rfl,go_sem]
  exact dZ [1] rfl (by simp [St.obj,au]) (by simp [St.obj,au,aP,St.get,aW,ah,bB,kH,List.take_of_length_le])
theorem GU (c:aB) (s:aa) (now:Int) (hn:s.jobs.length≤1000):bh Tryz.prog G 245 [fN c,aY s,.int now] [] (iW (Aj s now)) []:=by
 refine bn Tryz.func245 (by decide) SP rfl rfl ?_
 simp only [Wr,go_sem]
 unfold Aj
 refine ax (OI s now hn) rfl rfl rfl rfl ?_; simp only [go_sem]
 cases Jy s now with
 | nil=>simp only [kH,Int.natCast_zero,iW,Option.getD_none,Option.isSome_none,go_sem]
 | cons k l=>
   simp only [kH,show ((((l.length+1:Nat):Int))==0)=false from beq_eq_false_iff_ne.2 (by omega),iW,Option.getD_some,Option.isSome_some,go_sem]
theorem La (c:aB) (s:aa) (h:tu s) (now:Int) (h0:u9 now):bh Tryz.prog G 247 [fN c,aY s,.int now] [] (iW (zQ s now)) []:=by
 refine bn Tryz.func247 (by decide) SN rfl rfl ?_
 simp only [Wp,go_sem]
 unfold zQ
 refine ax (MI s h now h0) rfl rfl rfl rfl ?_; simp only [go_sem]
 generalize qK s now=r
 obtain ⟨aM,n,ok⟩:=r
 cases ok with
 | true=>simp only [iW,Option.getD_some,Option.isSome_some,go_sem]
 | false=>simp only [Bool.false_eq_true,iW,Option.getD_none,Option.isSome_none,go_sem]
def BE:List LV:=[.d (.fn (.func 245) [] []),.d (.fn (.func 246) [] []),.d (.fn (.func 247) [] [])]
def Ez (c:aB) (s:aa) (now:Int):Nat→Option bT
 | 0=>qa c s now
 | 1=>match zw c s now with
   | some o=>some o
   | none=>zQ s now
 | 2=>zQ s now
 | _=>none
def K_ (c:aB) (s:aa) (now:Int) (i:Nat):St:=⟨[(2,.int now),(3,.ptr 0 0),(4,.ptr 1 0),(6,.ptr 2 0),(7,.bool false),(15,.agg BE),(16,.int i)],[some (Cm c),some (Ck s),some Lf]⟩
theorem KB {c:aB} (hm:iq c=true) {now:Int} (h0:u9 now):-1000000000≤now+c.deadline∧now+c.deadline≤1000000000:=by
 unfold iq at hm
 simp only [Bool.and_eq_true] at hm
 have:=aX hm.1.1.2
 have h1:=h0.1
 have h2:=h0.2
 omega
theorem bK.nj {c:aB} {s:aa} (h:bK c s):NJ s:=⟨by have:=h.len; omega,by have:=h.jobs; omega,h.aM⟩
theorem NH (c:aB) (s:aa) (h:bK c s) (now:Int) (h0:u9 now):bh Tryz.prog G 200 [fN c,aY s,.int now] [] (iW (qa c s now)) []:=by
 refine bn Tryz.func200 (by decide) Tj rfl rfl ?_
 simp only [WV,go_sem]
 generalize hr:qa c s now=r
 have hd:=KB h.uW h0
 refine aR [2,3,4,6,7,15,16] [] (fun i:Nat=>i≤3∧Ez c s now i=r) (fun i=>3-i) (K_ c s now) 0 ?_ ⟨by omega,hr⟩ ?_
 ·simp only [K_,BE,Cm,Ck,Lf,Int.natCast_zero,go_sem]
 clear hr
 rintro i ⟨hi,hr⟩
 simp only [K_,BE,Cm,Ck,Lf,go_sem]
 match i,hi with
 | 0,_=>
   simp only [Ez,qa] at hr
   simp only [show (decide (((0:Nat):Int)<3))=true from rfl,go_sem]
   refine ax (GU c s now (by have:=h.jobs; omega)) rfl rfl rfl rfl ?_; simp only [go_sem]
   generalize Aj s now=o at hr ⊢
   cases o with
   | some o=>
     try dsimp only at hr
     subst hr
     obtain ⟨o1,o2,o3,o4,o5,o6,o7⟩:=o
     simp only [iW,Option.getD_some,Option.isSome_some,go_sem]
   | none=>
     try dsimp only at hr
     simp only [iW,Option.getD_none,Option.isSome_none,go_sem]
     refine bg 1 ?_ ?_ ⟨by omega,by first | exact hr | (subst hr; rfl)⟩ (by omega)
     ·simp only [go_sem]
     ·simp only [K_,BE,Cm,Ck,Lf,go_sem]
      rfl
 | 1,_=>
   simp only [Ez] at hr
   simp only [show (decide (((1:Nat):Int)<3))=true from rfl,go_sem]
   refine ax (Oq c s now h.nj hd) rfl rfl rfl rfl ?_; simp only [go_sem]
   generalize zw c s now=o at hr ⊢
   cases o with
   | some o=>
     try dsimp only at hr
     subst hr
     obtain ⟨o1,o2,o3,o4,o5,o6,o7⟩:=o
     simp only [iW,Option.getD_some,Option.isSome_some,go_sem]
   | none=>
     try dsimp only at hr
     simp only [iW,Option.getD_none,Option.isSome_none,go_sem]
     refine bg 2 ?_ ?_ ⟨by omega,by first | exact hr | (subst hr; rfl)⟩ (by omega)
     ·simp only [go_sem]
     ·simp only [K_,BE,Cm,Ck,Lf,go_sem]
      rfl
 | 2,_=>
   simp only [Ez] at hr
   simp only [show (decide (((2:Nat):Int)<3))=true from rfl,go_sem]
   refine ax (La c s h.fits now h0) rfl rfl rfl rfl ?_; simp only [go_sem]
   generalize zQ s now=o at hr ⊢
   cases o with
   | some o=>
     try dsimp only at hr
     subst hr
     obtain ⟨o1,o2,o3,o4,o5,o6,o7⟩:=o
     simp only [iW,Option.getD_some,Option.isSome_some,go_sem]
   | none=>
     try dsimp only at hr
     simp only [iW,Option.getD_none,Option.isSome_none,go_sem]
     refine bg 3 ?_ ?_ ⟨by omega,by first | exact hr | (subst hr; rfl)⟩ (by omega)
     ·simp only [go_sem]
     ·simp only [K_,BE,Cm,Ck,Lf,go_sem]
      rfl
 | 3,_=>
   simp only [Ez] at hr
   subst hr
   simp only [show (decide (((3:Nat):Int)<3))=false from rfl,iW,Option.getD_none,Option.isSome_none,go_sem]
end Dv
