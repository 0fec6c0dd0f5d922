/- The plan's next op; the document's. -/
import Derived.Test.YtkalnfkokkjliaaGreatDoorTC
import Derived.Test.YtkalnfkokkjliaaGreatDoorTB
import Derived.Test.YtkalnfkokkjliaaGreatDoorQ6
set_option linter.unusedVariables false
set_option linter.unusedSimpArgs false
namespace Dv
open Go Go.Proofs
variable {G:Nat→Option (List DV)}
def Qn:Nat×C×List RV:=(32,
(.seq (.af [qo 2 (.box 30 (.t 0)),
 qo 4 (.mv (.c (.val (.slice none 0 0))))])
 (.seq (.af [qo 5 (.mv (.c (.val (.slice none 0 0))))])
 (.seq (.seq (.af [qo 8 (.aj 1 (.t 2)),
 qo 9 (.ld1 (.t 8)),
 qo 10 (.len (.t 9)),
 qo 11 (.mv (qk 0))])
 (.block 0 (.loop (.seq (.af [qo 12 (.bin .lss (.t 11) (.t 10))])
 (.seq (.cond (.t 12) .skip
 (.exit 0))
 (.seq (.block 1 (.seq (.af [qm 13 11,
 qo 14 (.eG 12 (.t 9) (.t 11)),
 qo 15 (.bP 12 (.t 14)),
 qo 7 (.new 119 [q0,q0,q0,q0,q0,q0,q0,q0,q0,q0,q0,q0]),
 qm 6 13,
 qn (.st 12 (.t 7) (.t 15))])
 (.seq (.af [qo 16 (.aj 6 (.t 7)),
 qo 17 (.ld1 (.t 16)),
 qo 18 (.bin .eql (.t 17) (qk 3)),
 qm 19 18,
 qg 20 (.aj 10 (.t 7)) 19 true,
 qg 21 (.ld1 (.t 20)) 19 true,
 qg 22 (.mv (.t 1)) 19 true,
 qg 23 (.bin .leq (.t 21) (.t 22)) 19 true,
 qo 24 (.pick (.t 19) (.t 23) qf)])
 (.cond (.t 24) (.af [qm 25 5,
 qm 26 6,
 qo 27 (.bin .add (.t 26) (qk 1)),
 qo 28 (.nh 3 1 [(.t 27)]),
 qo 29 (.app 3 1 8 (.t 25) (.t 28)),
 qm 5 29])
 .skip))))
 (.af [qo 30 (.bin .add (.t 11) (qk 1)),
 qm 11 30])))))))
 (.seq (.af [qm 31 5,
 qm 4 31])
 .ret)))),
[(.t 4)])
theorem MU:aq Tryz.prog Tryz.f285=some Qn:=by kernel_rfl
def QI:Nat×C×List RV:=(20,
(.seq (.af [qo 3 (.box 23 (.t 0)),
 qo 4 (.box 30 (.t 1)),
 qo 6 (.new 37 [q0,q0,q0,q0,q0,q0,q0]),
 qo 7 (.mv qf)])
 (.seq (.af [qo 9 (.bP 6 (.t 4)),
 qm 10 2,
 qo 11 (.call (.f 285) [(.t 9),(.t 10)]),
 qm 8 11])
 (.seq (.seq (.af [qm 12 8,
 qo 13 (.len (.t 12)),
 qo 14 (.bin .eql (.t 13) (qk 0))])
 (.cond (.t 14) (.seq (.af [qo 15 (.build [q0,q0,q0,q0,q0,q0,q0] []),
 qn (.st 7 (.t 6) (.t 15)),
 qo 7 (.mv qf)])
 .ret)
 .skip))
 (.seq (.af [qm 16 8,
 qo 17 (.eG 1 (.t 16) (qk 0)),
 qo 18 (.ld1 (.t 17)),
 qo 19 (.build [q0,q0,q0,q0,q0,q0,q0] [(0,1,(qk 14)),(1,1,(.t 18))]),
 qn (.st 7 (.t 6) (.t 19)),
 qo 7 (.mv qt)])
 .ret)))),
[(.cn 6 7),(.t 7)])
theorem Nf:aq Tryz.prog Tryz.f245=some QI:=by kernel_rfl
def QG:Nat×C×List RV:=(24,
(.seq (.af [qo 3 (.box 23 (.t 0)),
 qo 4 (.box 30 (.t 1)),
 qo 6 (.new 37 [q0,q0,q0,q0,q0,q0,q0]),
 qo 7 (.mv qf)])
 (.seq (.af [qo 12 (.bP 6 (.t 4)),
 qm 13 2,
 qo 14 (.call (.f 289) [(.t 12),(.t 13)]),
 qm 11 14,
 qo 15 (.ext (.t 11) 0),
 qo 16 (.ext (.t 11) 1),
 qo 17 (.ext (.t 11) 2),
 qm 8 15,
 qm 9 16,
 qm 10 17])
 (.seq (.seq (.af [qm 18 10,
 qo 19 (.not (.t 18))])
 (.cond (.t 19) (.seq (.af [qo 20 (.build [q0,q0,q0,q0,q0,q0,q0] []),
 qn (.st 7 (.t 6) (.t 20)),
 qo 7 (.mv qf)])
 .ret)
 .skip))
 (.seq (.af [qm 21 8,
 qm 22 9,
 qo 23 (.build [q0,q0,q0,q0,q0,q0,q0] [(0,1,(qk 9)),(1,1,(.t 21)),(2,1,(.t 22))]),
 qn (.st 7 (.t 6) (.t 23)),
 qo 7 (.mv qt)])
 .ret)))),
[(.cn 6 7),(.t 7)])
theorem Nc:aq Tryz.prog Tryz.f247=some QG:=by kernel_rfl
def Q9:Nat×C×List RV:=(32,
(.seq (.af [qo 3 (.box 23 (.t 0)),
 qo 4 (.box 30 (.t 1)),
 qo 6 (.new 37 [q0,q0,q0,q0,q0,q0,q0]),
 qo 7 (.mv qf)])
 (.seq (.seq (.af [qo 12 (.build [(.val .nilFunc)] [(0,1,(.f 245))]),
 qo 13 (.build [(.val .nilFunc)] [(0,1,(.f 246))]),
 qo 14 (.build [(.val .nilFunc)] [(0,1,(.f 247))]),
 qo 15 (.build [(.val .nilFunc),(.val .nilFunc),(.val .nilFunc)] [(0,1,(.t 12)),(1,1,(.t 13)),(2,1,(.t 14))]),
 qo 16 (.mv (qk 0))])
 (.block 0 (.loop (.seq (.af [qo 17 (.bin .lss (.t 16) (qk 3))])
 (.seq (.cond (.t 17) .skip
 (.exit 0))
 (.seq (.block 1 (.seq (.af [qo 18 (.PS 3 1 (.t 15) (.t 16)),
 qo 9 (.new 296 [(.val .nilFunc)]),
 qn (.st 1 (.t 9) (.t 18))])
 (.seq (.af [qo 20 (.aj 0 (.t 9)),
 qo 21 (.ld1 (.t 20)),
 qo 22 (.bP 9 (.t 3)),
 qo 23 (.bP 6 (.t 4)),
 qm 24 2,
 qo 25 (.call (.t 21) [(.t 22),(.t 23),(.t 24)]),
 qm 19 25,
 qo 26 (.ext (.t 19) 0),
 qo 27 (.ext (.t 19) 1),
 qo 10 (.new 37 [q0,q0,q0,q0,q0,q0,q0]),
 qn (.st 7 (.t 10) (.t 26)),
 qm 11 27])
 (.seq (.af [qm 28 11])
 (.cond (.t 28) (.seq (.af [qo 29 (.bP 7 (.t 10)),
 qn (.st 7 (.t 6) (.t 29)),
 qo 7 (.mv qt)])
 .ret)
 .skip)))))
 (.af [qo 30 (.bin .add (.t 16) (qk 1)),
 qm 16 30])))))))
 (.seq (.af [qo 31 (.build [q0,q0,q0,q0,q0,q0,q0] []),
 qn (.st 7 (.t 6) (.t 31)),
 qo 7 (.mv qf)])
 .ret))),
[(.cn 6 7),(.t 7)])
theorem Nz:aq Tryz.prog Tryz.f200=some Q9:=by kernel_rfl
def Uz (s:aa) (now:Int) (k:Nat):St:=⟨[(1,.int now),(2,.ptr 0 0),(5,.sl 1 (jT s now k).length 1 0 (jT s now k).length),(9,dg s.jobs),(10,.int s.jobs.length),(11,.int k)],[some (eM s),some (.dat 3 1 (jr (jT s now k)))]⟩
set_option maxHeartbeats 4000000 in
theorem JU (s:aa) (now:Int) (hn:s.jobs.length≤1000):bw Tryz.prog G 285 [bp s,.int now] [] (.d (.dY 1 (jr (Fg s now)))) []:=by
 refine cG Tryz.func285 (by decide) MU rfl ?_
 simp only [Qn,go_sem,simprocAttr]
 refine aY [1,2,5,9,10,11] [.t 5 3 1] (fun k:Nat=>k≤s.jobs.length) (fun k=>s.jobs.length-k) (Uz s now) 0 ?_ (Nat.zero_le _) (fun k hk=>?_)
 ·simp only [Uz,eM,go_sem,simprocAttr,jT,List.range_zero,List.filter_nil,jr,Int.natCast_zero]
 simp only [Uz,eM,go_sem,simprocAttr]
 by_cases hlt:k<s.jobs.length
 ·have hg:=aL (f:=dh) ax hlt
  have hk2:=BG s now k
  have hlen:=DD s now k
  have hbd:((jT s now k).length+1)*8≤70368744177664:=by omega
  have hq:BH s now k=(decide ((s.jobs.getD k ax).phase=3)&&decide ((s.jobs.getD k ax).til≤now)):=rfl
  generalize s.jobs.getD k ax=j at *
  simp only [dh] at hg
  simp only [decide_eq_true (show ((k:Nat):Int)<((s.jobs.length:Nat):Int) by omega),hg,go_sem,simprocAttr]
  by_cases hb:j.phase=3
  case neg=>
   rw [hq,decide_eq_false hb,Bool.false_and,if_neg (by decide),List.append_nil] at hk2
   simp only [show (j.phase==3)=false from beq_eq_false_iff_ne.2 hb,go_sem,simprocAttr]
   refine bz (k+1) ?_ ?_ (by omega) (by omega)
   ·simp only [go_sem,simprocAttr]
   ·simp only [Uz,eM,hk2,jr,go_sem,simprocAttr,aG (show k<9223372036854775807 by omega)]
  simp only [show (j.phase==3)=true from beq_iff_eq.2 hb,go_sem,simprocAttr]
  by_cases hu:j.til≤now
  ·rw [hq,decide_eq_true hb,decide_eq_true hu,Bool.true_and,if_pos rfl] at hk2
   simp only [decide_eq_true hu,jr,List.length_append,hbd,aG (show k<9223372036854775807 by omega),go_sem,simprocAttr]
   refine bz (k+1) ?_ ?_ (by omega) (by omega)
   ·simp only [go_sem,simprocAttr]
   ·simp only [Uz,eM,hk2,jr,List.map_append,List.length_append,go_sem,simprocAttr]
  ·rw [hq,decide_eq_false hu,Bool.and_false,if_neg (by decide),List.append_nil] at hk2
   simp only [decide_eq_false hu,go_sem,simprocAttr]
   refine bz (k+1) ?_ ?_ (by omega) (by omega)
   ·simp only [go_sem,simprocAttr]
   ·simp only [Uz,eM,hk2,jr,go_sem,simprocAttr,aG (show k<9223372036854775807 by omega)]
 ·obtain rfl:k=s.jobs.length:=by omega
  simp only [decide_eq_false (show ¬ ((s.jobs.length:Nat):Int)<((s.jobs.length:Nat):Int) by omega),show jT s now s.jobs.length=Fg s now from rfl,go_sem,simprocAttr]
  exact dL [1] rfl (by simp [St.obj,aB]) (by simp [St.obj,aB,aW,St.get,bx,ai,bE,jr,List.take_of_length_le])
theorem Dj (c:aH) (s:aa) (now:Int) (hn:s.jobs.length≤1000):bw Tryz.prog G 245 [gK c,bp s,.int now] [] (gV (Aq s now)) []:=by
 refine bn Tryz.func245 (by decide) Nf rfl rfl ?_
 simp only [QI,go_sem,simprocAttr]
 unfold Aq
 refine aC (JU s now hn) rfl rfl rfl rfl ?_; simp only [go_sem,simprocAttr]
 cases Fg s now with
 | nil=>simp only [jr,Int.natCast_zero,gV,Option.getD_none,Option.isSome_none,go_sem,simprocAttr]
 | cons k l=>
   simp only [jr,show ((((l.length+1:Nat):Int))==0)=false from beq_eq_false_iff_ne.2 (by omega),gV,Option.getD_some,Option.isSome_some,go_sem,simprocAttr]
theorem Gv (c:aH) (s:aa) (h:qD s) (now:Int) (h0:r_ now):bw Tryz.prog G 247 [gK c,bp s,.int now] [] (gV (yS s now)) []:=by
 refine bn Tryz.func247 (by decide) Nc rfl rfl ?_
 simp only [QG,go_sem,simprocAttr]
 unfold yS
 refine aC (HX s h now h0) rfl rfl rfl rfl ?_; simp only [go_sem,simprocAttr]
 generalize oh s now=r
 obtain ⟨aN,n,ok⟩:=r
 cases ok with
 | true=>simp only [gV,Option.getD_some,Option.isSome_some,go_sem,simprocAttr]
 | false=>simp only [Bool.false_eq_true,gV,Option.getD_none,Option.isSome_none,go_sem,simprocAttr]
def yw:List LV:=[.d (.fn (.func 245) [] []),.d (.fn (.func 246) [] []),.d (.fn (.func 247) [] [])]
def Be (c:aH) (s:aa) (now:Int):Nat→Option cH
 | 0=>tQ c s now
 | 1=>match Br c s now with
   | some o=>some o
   | none=>yS s now
 | 2=>yS s now
 | _=>none
def Gu (c:aH) (s:aa) (now:Int) (i:Nat):St:=⟨[(2,.int now),(3,.ptr 0 0),(4,.ptr 1 0),(6,.ptr 2 0),(7,.bool false),(15,.agg yw),(16,.int i)],[some (y8 c),some (y5 s),some Gz]⟩
theorem F4 {c:aH} (hm:gL c=true) {now:Int} (h0:r_ now):-1000000000≤now+c.deadline∧now+c.deadline≤1000000000:=by
 unfold gL at hm
 simp only [Bool.and_eq_true] at hm
 have:=aS hm.1.1.2
 have h1:=h0.1
 have h2:=h0.2
 omega
theorem bT.nj {c:aH} {s:aa} (h:bT c s):NJ s:=⟨by have:=h.len; omega,by have:=h.jobs; omega,h.aN⟩
set_option maxHeartbeats 4000000 in
theorem Jb (c:aH) (s:aa) (h:bT c s) (now:Int) (h0:r_ now):bw Tryz.prog G 200 [gK c,bp s,.int now] [] (gV (tQ c s now)) []:=by
 refine bn Tryz.func200 (by decide) Nz rfl rfl ?_
 simp only [Q9,go_sem,simprocAttr]
 generalize hr:tQ c s now=r
 have hd:=F4 h.tn h0
 refine aY [2,3,4,6,7,15,16] [] (fun i:Nat=>i≤3∧Be c s now i=r) (fun i=>3-i) (Gu c s now) 0 ?_ ⟨by omega,hr⟩ ?_
 ·simp only [Gu,yw,y8,y5,Gz,Int.natCast_zero,go_sem,simprocAttr]
 clear hr
 rintro i ⟨hi,hr⟩
 simp only [Gu,yw,y8,y5,Gz,go_sem,simprocAttr]
 match i,hi with
 | 0,_=>
   simp only [Be,tQ] at hr
   simp only [go_sem,simprocAttr]
   refine aC (Dj c s now (by have:=h.jobs; omega)) rfl rfl rfl rfl ?_; simp only [go_sem,simprocAttr]
   generalize Aq s now=o at hr ⊢
   cases o with
   | some o=>
     try dsimp only at hr
     subst hr
     obtain ⟨o1,o2,o3,o4,o5,o6,o7⟩:=o
     simp only [gV,Option.getD_some,Option.isSome_some,go_sem,simprocAttr]
   | none=>
     try dsimp only at hr
     simp only [gV,Option.getD_none,Option.isSome_none,go_sem,simprocAttr]
     refine bz 1 ?_ ?_ ⟨by omega,by first | exact hr | (subst hr; rfl)⟩ (by omega)
     ·simp only [go_sem,simprocAttr]
     ·simp only [Gu,yw,y8,y5,Gz,go_sem,simprocAttr]
      rfl
 | 1,_=>
   simp only [Be] at hr
   simp only [go_sem,simprocAttr]
   refine aC (JB c s now h.nj hd) rfl rfl rfl rfl ?_; simp only [go_sem,simprocAttr]
   generalize Br c s now=o at hr ⊢
   cases o with
   | some o=>
     try dsimp only at hr
     subst hr
     obtain ⟨o1,o2,o3,o4,o5,o6,o7⟩:=o
     simp only [gV,Option.getD_some,Option.isSome_some,go_sem,simprocAttr]
   | none=>
     try dsimp only at hr
     simp only [gV,Option.getD_none,Option.isSome_none,go_sem,simprocAttr]
     refine bz 2 ?_ ?_ ⟨by omega,by first | exact hr | (subst hr; rfl)⟩ (by omega)
     ·simp only [go_sem,simprocAttr]
     ·simp only [Gu,yw,y8,y5,Gz,go_sem,simprocAttr]
      rfl
 | 2,_=>
   simp only [Be] at hr
   simp only [go_sem,simprocAttr]
   refine aC (Gv c s h.fits now h0) rfl rfl rfl rfl ?_; simp only [go_sem,simprocAttr]
   generalize yS s now=o at hr ⊢
   cases o with
   | some o=>
     try dsimp only at hr
     subst hr
     obtain ⟨o1,o2,o3,o4,o5,o6,o7⟩:=o
     simp only [gV,Option.getD_some,Option.isSome_some,go_sem,simprocAttr]
   | none=>
     try dsimp only at hr
     simp only [gV,Option.getD_none,Option.isSome_none,go_sem,simprocAttr]
     refine bz 3 ?_ ?_ ⟨by omega,by first | exact hr | (subst hr; rfl)⟩ (by omega)
     ·simp only [go_sem,simprocAttr]
     ·simp only [Gu,yw,y8,y5,Gz,go_sem,simprocAttr]
      rfl
 | 3,_=>
   simp only [Be] at hr
   subst hr
   simp only [gV,Option.getD_none,Option.isSome_none,go_sem,simprocAttr]
end Dv
