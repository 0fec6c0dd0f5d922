/- part -/
import Derived.Test.YtkalnfkokkjliaaGreatDoorCA
import Derived.Test.YtkalnfkokkjliaaGreatDoorAC
import Derived.Test.YtkalnfkokkjliaaGreatDoorNA
import Derived.Test.YtkalnfkokkjliaaGreatDoorI0
import Derived.Test.YtkalnfkokkjliaaGreatDoorGA
set_option linter.all false
set_option maxHeartbeats 4000000
set_option maxRecDepth 100000
namespace Dv
open Go Go.Proofs
variable {G:Nat→Option (List DV)}
def wS:=qx Tryz.f201
theorem ox:aj Tryz.prog Tryz.f201=some wS:=by kernel_rfl
def WU:=qx Tryz.f202
theorem Ti:aj Tryz.prog Tryz.f202=some WU:=by kernel_rfl
def Wn:=qx Tryz.f249
theorem SL:aj Tryz.prog Tryz.f249=some Wn:=by kernel_rfl
def Wm:=qx Tryz.f250
theorem SK:aj Tryz.prog Tryz.f250=some Wm:=by kernel_rfl
def gq (m:eH):eH:={ m with term:=0,gen:=0,til:=0 }
theorem F4 (m:eH):bh Tryz.prog G 250 [EY m] [] (EY (gq m)) []:=by
 refine bn Tryz.func250 (by decide) SK rfl rfl ?_
 simp only [Wm,go_sem]
 simp only [gq,go_sem]
def DM (a b:eH):Bool:=((gq a).node==(gq b).node&&((gq a).kind==(gq b).kind&&((gq a).term==(gq b).term&&((gq a).gen==(gq b).gen&&((gq a).aM==(gq b).aM&&((gq a).inc==(gq b).inc&&((gq a).version==(gq b).version&&((gq a).epoch==(gq b).epoch&&((gq a).til==(gq b).til&&((gq a).mode==(gq b).mode&&(gq a).work==(gq b).work))))))))))
theorem ML (a b:eH):bh Tryz.prog G 202 [EY a,EY b] [] (.bool (DM a b)) []:=by
 have ha:=F4 (G:=G) a
 have hb:=F4 (G:=G) b
 unfold DM
 refine bn Tryz.func202 (by decide) Ti rfl rfl ?_
 simp only [WU,go_sem]
 refine aU (ha) rfl rfl rfl rfl ?_; simp only [go_sem]
 refine aU (hb) rfl rfl rfl rfl ?_; simp only [go_sem]
def tzD (m:Int):Int:=if hasB m 0=true then 0 else if hasB m 1=true then 1 else if hasB m 2=true then 2 else if hasB m 3=true then 3 else if hasB m 4=true then 4 else if hasB m 5=true then 5 else 64
noncomputable def aaq (m:Nat):Bool:=match yQ g_ (AT (wR Tryz.prog) []) 200 20 false 292 [.d (.val (.int .u64 m))] [] with
 | some (r,o)=>nY [r] [.int (tzD m)]&&tP o []
 | none=>false
theorem Yv:(List.range 64).all aaq=true:=by kernel_rfl
theorem Yu (m:Nat) (hm:m<64):bh Tryz.prog g_ 292 [.d (.val (.int .u64 m))] [] (.int (tzD m)) []:=by
 have h:=List.all_eq_true.1 Yv m (List.mem_range.2 hm)
 unfold aaq at h
 split at h
 ·rename_i r o hr
  rw [Bool.and_eq_true] at h
  obtain ⟨h1,h2⟩:=h
  have h3:=ni _ _ h1
  have h4:=sE h2
  cases h3
  cases h4
  exact xP (l:=[]) (fun _ h=>by cases h) hr
 ·cases h
theorem Gr (j:bP) (i:Nat) (hj:0≤j.nodes∧j.nodes<64):bh Tryz.prog g_ 249 [Dg j,.int i] [] (.int (if tzD j.nodes=i then 1 else 0)) []:=by
 obtain ⟨m,hm⟩:∃ m:Nat,j.nodes=m:=⟨j.nodes.toNat,by omega⟩
 have hT:=Yu m (by omega)
 have hw:IntKind.u64.wrap (m:Int)=m:=by
  show (m:Int) % 18446744073709551616=m
  omega
 rw [hm]
 refine bn Tryz.func249 (by decide) SL rfl rfl ?_
 simp only [Wn,go_sem]
 simp only [hm,hw,go_sem]
 refine ax (hT) rfl rfl rfl rfl ?_; simp only [go_sem]
 by_cases h:tzD (m:Int)=(i:Int)
 ·simp only [h,go_sem]
 ·simp only [beq_eq_false_iff_ne.2 h,h,go_sem]
def lq (s:aa) (had:Int→Int) (i:Nat):Option eH:=
 if (dW s i).up=false then none else
 if (dW s i).aM=0 then some ⟨i,if (dW s i).bw=true then 5 else 1,0,0,0,0,if (dW s i).bw=true then fM s else 0,0,0,0,0⟩ else
 if (dI s ((dW s i).aM-1).toNat).phase=2 then some ⟨i,3,0,0,(dW s i).aM,(dI s ((dW s i).aM-1).toNat).inc,if (dW s i).bw=true then fM s else 0,(dI s ((dW s i).aM-1).toNat).epoch,0,0,had (dW s i).aM⟩ else
 if (dI s ((dW s i).aM-1).toNat).phase=3 then some ⟨i,4,0,0,(dW s i).aM,(dI s ((dW s i).aM-1).toNat).inc,if (dW s i).bw=true then fM s else 0,0,0,if tzD (dI s ((dW s i).aM-1).toNat).nodes=i then 1 else 0,0⟩ else
 if (dI s ((dW s i).aM-1).toNat).phase=1 then some ⟨i,2,0,0,(dW s i).aM,(dI s ((dW s i).aM-1).toNat).inc,(dW s i).version,0,0,0,0⟩ else
 some ⟨i,2,0,0,(dW s i).aM,(dI s ((dW s i).aM-1).toNat).inc,if (dW s i).bw=true then fM s else 0,0,0,0,0⟩
def gV (q:Option eH):LV:=.dH [EY (q.getD jQ),.bool q.isSome]
theorem Ld (c:aB) (s:aa) (h:bK c s) (had:Int→Int) (i:Nat) (hi:i<s.nodes.length) (room term:Int) (sh:List pE) (wr:Int) (hh:∀ j:Int,1≤j∧j≤s.jobs.length→bh Tryz.prog g_ 248 [aY s,.int j,.ptr 0 0] (kP room term sh wr) (.int (had j)) (kP room term sh wr)) :
  bh Tryz.prog g_ 201 [aY s,.int i,.ptr 0 0] (kP room term sh wr) (gV (lq s had i)) (kP room term sh wr):=by
 have hg:=aK (f:=bX) ai hi
 have hM:=jH (G:=g_) s
 have Pp:=h.aM i hi
 have hmv:=h.bw i hi
 have hlj:=h.jobs
 unfold lq gV
 have hN:dW s i=s.nodes.getD i ai:=rfl
 rw [hN] at Pp hmv ⊢
 generalize s.nodes.getD i ai=n at *
 obtain ⟨up,co,mo,ve,jo⟩:=n
 dsimp only at Pp hmv ⊢
 simp only [bX] at hg
 have c1:i<s.nodes.length:=hi
 cases up with
 | false=>
   simp only [if_true]
   refine aQ Tryz.func201 (by decide) ox rfl rfl (gi _ _ _ _ _) rfl ?_
   simp only [kP,wS,go_sem]
   simp only [decide_eq_false (show ¬ ((i:Nat):Int)<0 by omega),decide_eq_false (show ¬ ((i:Nat):Int)≥(s.nodes.length:Nat) by omega),hg,hi,Option.getD_none,Option.isSome_none,Option.getD_some,Option.isSome_some,go_sem]
 | true=>
 simp only [Bool.true_eq_false,if_false]
 by_cases hj0:jo=0
 ·subst hj0
  simp only [if_true]
  cases mo with
  | true=>
    refine aQ Tryz.func201 (by decide) ox rfl rfl (gi _ _ _ _ _) rfl ?_
    simp only [kP,wS,go_sem]
    simp only [decide_eq_false (show ¬ ((i:Nat):Int)<0 by omega),decide_eq_false (show ¬ ((i:Nat):Int)≥(s.nodes.length:Nat) by omega),hg,hi,Option.getD_none,Option.isSome_none,Option.getD_some,Option.isSome_some,go_sem]
    refine ax (hM) rfl rfl rfl rfl ?_; simp only [go_sem]
  | false=>
    refine aQ Tryz.func201 (by decide) ox rfl rfl (gi _ _ _ _ _) rfl ?_
    simp only [kP,wS,go_sem]
    simp only [decide_eq_false (show ¬ ((i:Nat):Int)<0 by omega),decide_eq_false (show ¬ ((i:Nat):Int)≥(s.nodes.length:Nat) by omega),hg,hi,Option.getD_none,Option.isSome_none,Option.getD_some,Option.isSome_some,go_sem]
 have hmo:mo=false:=by
  cases mo with
  | false=>rfl
  | true=>exact absurd (hmv rfl).2.2 hj0
 subst hmo
 obtain ⟨k,hk⟩:∃ k:Nat,jo=k+1:=⟨(jo-1).toNat,by omega⟩
 have hkl:k<s.jobs.length:=by omega
 have MX:=aK (f:=dF) aD hkl
 have hJ:dI s (jo-1).toNat=s.jobs.getD k aD:=by unfold dI; rw [show (jo-1).toNat=k by omega]
 have JV:=Kf h hkl
 have abH:=hh jo (by omega)
 rw [hJ]
 unfold dI at JV
 generalize s.jobs.getD k aD=j at *
 simp only [dF] at MX
 have hw:IntKind.i64.wrap (jo-1)=k:=by rw [aL (by omega) (by omega)]; omega
 have hwr:=Gr j i JV
 simp only [hj0,if_false]
 have hjb:(jo==0)=false:=beq_eq_false_iff_ne.2 hj0
 simp only [kP,List.cons_append,List.nil_append] at abH
 by_cases p2:j.phase=2
 ·have b2:(j.phase==2)=true:=beq_iff_eq.2 p2
  rw [if_pos p2]
  refine aQ Tryz.func201 (by decide) ox rfl rfl (gi _ _ _ _ _) rfl ?_
  simp only [kP,wS,go_sem]
  simp only [decide_eq_false (show ¬ ((i:Nat):Int)<0 by omega),decide_eq_false (show ¬ ((i:Nat):Int)≥(s.nodes.length:Nat) by omega),hg,hi,Option.getD_none,Option.isSome_none,Option.getD_some,Option.isSome_some,go_sem]
  simp only [hjb,hw,hkl,MX,Option.getD_none,Option.isSome_none,Option.getD_some,Option.isSome_some,go_sem]
  refine an rfl ?_
  simp only [b2,Option.getD_none,Option.isSome_none,Option.getD_some,Option.isSome_some,go_sem]
  refine f_ [0] (abH) rfl ?_ (by decide) ?_ ?_ ?_ <;> simp only [ag,ah,go_sem,bL,cu,aZ,bF]
  refine an rfl ?_
  simp only [Option.getD_none,Option.isSome_none,Option.getD_some,Option.isSome_some,go_sem]
 have b2:(j.phase==2)=false:=beq_eq_false_iff_ne.2 p2
 rw [if_neg p2]
 by_cases p3:j.phase=3
 ·have b3:(j.phase==3)=true:=beq_iff_eq.2 p3
  rw [if_pos p3]
  refine aQ Tryz.func201 (by decide) ox rfl rfl (gi _ _ _ _ _) rfl ?_
  simp only [kP,wS,go_sem]
  simp only [decide_eq_false (show ¬ ((i:Nat):Int)<0 by omega),decide_eq_false (show ¬ ((i:Nat):Int)≥(s.nodes.length:Nat) by omega),hg,hi,Option.getD_none,Option.isSome_none,Option.getD_some,Option.isSome_some,go_sem]
  simp only [hjb,hw,hkl,MX,Option.getD_none,Option.isSome_none,Option.getD_some,Option.isSome_some,go_sem]
  refine an rfl ?_
  simp only [b2,b3,Option.getD_none,Option.isSome_none,Option.getD_some,Option.isSome_some,go_sem]
  refine ax (hwr) rfl rfl rfl rfl ?_; simp only [go_sem]
 have b3:(j.phase==3)=false:=beq_eq_false_iff_ne.2 p3
 rw [if_neg p3]
 by_cases p1:j.phase=1
 ·have b1:(j.phase==1)=true:=beq_iff_eq.2 p1
  rw [if_pos p1]
  refine aQ Tryz.func201 (by decide) ox rfl rfl (gi _ _ _ _ _) rfl ?_
  simp only [kP,wS,go_sem]
  simp only [decide_eq_false (show ¬ ((i:Nat):Int)<0 by omega),decide_eq_false (show ¬ ((i:Nat):Int)≥(s.nodes.length:Nat) by omega),hg,hi,Option.getD_none,Option.isSome_none,Option.getD_some,Option.isSome_some,go_sem]
  simp only [hjb,hw,hkl,MX,Option.getD_none,Option.isSome_none,Option.getD_some,Option.isSome_some,go_sem]
  refine an rfl ?_
  simp only [b1,b2,b3,Option.getD_none,Option.isSome_none,Option.getD_some,Option.isSome_some,go_sem]
 have b1:(j.phase==1)=false:=beq_eq_false_iff_ne.2 p1
 rw [if_neg p1]
 refine aQ Tryz.func201 (by decide) ox rfl rfl (gi _ _ _ _ _) rfl ?_
 simp only [kP,wS,go_sem]
 simp only [decide_eq_false (show ¬ ((i:Nat):Int)<0 by omega),decide_eq_false (show ¬ ((i:Nat):Int)≥(s.nodes.length:Nat) by omega),hg,hi,Option.getD_none,Option.isSome_none,Option.getD_some,Option.isSome_some,go_sem]
 simp only [hjb,hw,hkl,MX,Option.getD_none,Option.isSome_none,Option.getD_some,Option.isSome_some,go_sem]
 refine an rfl ?_
 simp only [b1,b2,b3,Option.getD_none,Option.isSome_none,Option.getD_some,Option.isSome_some,go_sem]
end Dv
namespace Dv
open Go Go.Proofs
variable {G:Nat→Option (List DV)}
def VS:=qx Tryz.f290
theorem Sl:aj Tryz.prog Tryz.f290=some VS:=by kernel_rfl
def VR:=qx Tryz.f291
theorem Sk:aj Tryz.prog Tryz.f291=some VR:=by kernel_rfl
def Wo:=qx Tryz.f248
theorem SM:aj Tryz.prog Tryz.f248=some Wo:=by kernel_rfl
def Fx (L:List LV) (ep:Int) (i:Nat):St:=⟨[(2,.int ep),(6,.d (.val (.slice none 0 0))),(7,.bool false),(28,.agg [.int 0,.d (.val (.slice none 0 0)),.int 0,.d (.val (.slice none 0 0))]),(29,.int i)],[some (.box 190 L)]⟩
theorem PL (room term:Int) (sh:List pE) (wr:Int) (k:Nat) (hk:1≤k∧k≤24) (hs:sh.length=25) (hz:sh.getD k iP=iP) (ep:Int) (he:1≤ep):bh Tryz.prog G 290 [.ptr 0 0,.int k,.int ep] (kP room term sh wr) (.dH [.d (.val (.slice none 0 0)),.bool false]) (kP room term sh wr):=by
 have hj:=nV (G:=G) room term sh wr k hk
 obtain ⟨A,B,hA,hB,hC⟩:=Bl room term sh wr k (by omega)
 have hC:=hC _ hz
 have Uz:=gi 1 room term sh wr
 simp only [kP,List.cons_append,List.nil_append] at hj
 refine aQ Tryz.func290 (by decide) Sl rfl rfl Uz rfl ?_
 simp only [kP,VS,go_sem]
 refine gL [0] (hj) rfl ?_ (by decide) ?_ ?_ ?_ <;> simp only [ag,ah,go_sem,bL,cu,aZ,bF]
 have hI2:eu 1 (LV.int room::LV.int term::(sh.flatMap sD++[LV.int wr]))=true:=by simp [aZ,bF,eu,eB,LV.int]
 simp only [LV.int,iP,kr] at hC hI2
 rw [hC] at hI2 ⊢
 generalize hm:2+4*k=m at *
 have g0:=aax A B (LV.d (.val (.int .i64 0))) (LV.d (.val (.slice none 0 0))) (LV.d (.val (.int .i64 0))) (LV.d (.val (.slice none 0 0))) m hA
 have g2:((A++LV.d (.val (.int .i64 0))::LV.d (.val (.slice none 0 0))::LV.d (.val (.int .i64 0))::LV.d (.val (.slice none 0 0))::B).drop m).take 2=[LV.d (.val (.int .i64 0)),LV.d (.val (.slice none 0 0))]:=by subst hA; simp
 have gl:∀ a b c d:LV,(A++a::b::c::d::B).length=m+4+B.length:=by intros; rw [List.length_append,hA]; simp; omega
 have c1:m+2≤m+4+B.length:=by omega
 have c2:m+4≤m+4+B.length:=by omega
 clear hB hC Uz
 have hl:=gl (LV.d (.val (.int .i64 0))) (LV.d (.val (.slice none 0 0))) (LV.d (.val (.int .i64 0))) (LV.d (.val (.slice none 0 0)))
 generalize A++LV.d (.val (.int .i64 0))::LV.d (.val (.slice none 0 0))::LV.d (.val (.int .i64 0))::LV.d (.val (.slice none 0 0))::B=L at *
 simp only [decide_eq_false (show ¬ ep<1 by omega),g0,g2,hl,c1,c2,go_sem]
 have he0:((0:Int)==ep)=false:=beq_eq_false_iff_ne.2 (by omega)
 refine aR [2,6,7,28,29] [] (fun i:Nat=>i≤2) (fun i=>2-i) (Fx L ep) 0 ?_ (Nat.zero_le _) (fun i hi=>?_)
 ·simp only [Fx,Int.natCast_zero,go_sem]
 simp only [Fx,go_sem]
 rcases (show i=0∨i=1∨i=2 by omega) with rfl | rfl | rfl
 ·simp only [Int.natCast_zero,he0,go_sem]
  refine bg 1 ?_ ?_ (by decide) (by decide)
  ·simp only [hI2,go_sem]
  ·simp only [Fx,show IntKind.i64.wrap 1=1 from by decide,Int.natCast_one,go_sem]
 ·simp only [Int.natCast_one,he0,go_sem]
  refine bg 2 ?_ ?_ (by decide) (by decide)
  ·simp only [hI2,go_sem]
  ·simp only [Fx,show IntKind.i64.wrap (1+1)=2 from by decide,show IntKind.i64.wrap 2=2 from by decide,show ((2:Nat):Int)=2 from rfl,go_sem]
 ·simp only [show ((2:Nat):Int)=2 from rfl,go_sem]
theorem Dx:bh Tryz.prog G 291 [.d (.val (.slice none 0 0)),.int 0] [] (.dH [.d (.val (.string ⟨#[]⟩)),.int 0,.bool false]) []:=by
 have hn:=jJ (G:=G) [] (fun _ h=>by cases h) (by simp) 0 (by omega) _ rfl
 simp only [ak,az,List.map_nil,fP,fZ,jZ,List.drop_nil,Option.map_none] at hn
 simp only [show yX none=0 from rfl,show yY none=0 from rfl,Option.isSome_none,Int.natCast_zero] at hn
 refine bn Tryz.func291 (by decide) Sk rfl rfl ?_
 simp only [VR,go_sem]
 refine ye [] (hn) rfl (by simp [ag,ah,bB,au,go_sem]) (by simp [au]) rfl rfl ?_; simp only [go_sem]
theorem PG (s:aa) (hl:s.jobs.length≤24) (room term:Int) (sh:List pE) (wr:Int) (hs:sh.length=25) (hz:∀ k,k<25→sh.getD k iP=iP) (he:∀ k,k<s.jobs.length→0≤(dI s k).epoch) (j:Int) (hj:1≤j∧j≤s.jobs.length):bh Tryz.prog G 248 [aY s,.int j,.ptr 0 0] (kP room term sh wr) (.int 0) (kP room term sh wr):=by
 obtain ⟨k,hk⟩:∃ k:Nat,j=k+1:=⟨(j-1).toNat,by omega⟩
 have hkl:k<s.jobs.length:=by omega
 have MX:=aK (f:=dF) aD hkl
 have hep:=he k hkl
 unfold dI at hep
 generalize s.jobs.getD k aD=jb at *
 simp only [dF] at MX
 have hw:IntKind.i64.wrap (j-1)=k:=by rw [aL (by omega) (by omega)]; omega
 have hgt:=Dx (G:=G)
 refine aQ Tryz.func248 (by decide) SM rfl rfl (gi _ _ _ _ _) rfl ?_
 simp only [kP,Wo,go_sem]
 simp only [decide_eq_false (show ¬ j<1 by omega),decide_eq_false (show ¬ j>(s.jobs.length:Nat) by omega),hw,hkl,MX,go_sem]
 by_cases h0:jb.epoch=0
 ·simp only [show (jb.epoch==0)=true from beq_iff_eq.2 h0,go_sem]
 simp only [show (jb.epoch==0)=false from beq_eq_false_iff_ne.2 h0,hw,hkl,MX,go_sem]
 have lI:=PL (G:=G) room term sh wr (k+1) (by omega) hs (hz (k+1) (by omega)) jb.epoch (by omega)
 rw [show ((k+1:Nat):Int)=j by omega] at lI
 simp only [kP,List.cons_append,List.nil_append] at lI
 refine gL [0] (lI) rfl ?_ (by decide) ?_ ?_ ?_ <;> simp only [ag,ah,go_sem,bL,cu,aZ,bF]
 refine ax (hgt) rfl rfl rfl rfl ?_; simp only [go_sem]
end Dv
namespace Dv
open Go Go.Proofs
variable {G:Nat→Option (List DV)}
def XL:=qx Tryz.f117
theorem Ua:aj Tryz.prog Tryz.f117=some XL:=by kernel_rfl
def aO.IX (x:aO) (k:Nat):List Bool:=(List.range k).map fun i=>(dW x.s i).up
def aO.zP (x:aO) (k:Nat):List Int:=(x.lines.take k).map fun l=>l.heard
def aO.pY (x:aO) (k:Nat):List eH:=(x.lines.take k).map fun l=>l.report
def aO.Re (x:aO) (now:Int):Int:=mq x.c.cr now (x.IX x.lines.length) (x.zP x.lines.length) 0
def aO.jq (x:aO) (now:Int) (q p:Option bT):Option bT:=if 0≤x.Re now then some ⟨7,x.Re now,0,0,0,0,0⟩ else match q with
 | some o=>some o
 | none=>p
def F2 (l:List Bool):List (List DV):=l.map fun b=>[bl b]
def Ff (l:List Int):List (List DV):=l.map fun h=>[i64 h]
def RK (x:aO) (now:Int) (k:Nat):St:=⟨[(0,.ptr 0 0),(1,.int now),(4,.ptr 8 0),(5,.bool false),(6,.sl 9 k 1 0 k),(7,.sl 10 k 1 0 k),(8,.sl 11 k 11 0 k),(17,.sl 7 x.lines.length 26 0 x.lines.length),(18,.int x.lines.length),(19,.int k)],(bZ x).map some++[some (.box 37 [.int 0,.int 0,.int 0,.int 0,.int 0,.int 0,.int 0]),some (.dat 4 1 (F2 (x.IX k))),some (.dat 3 1 (Ff (x.zP k))),some (.dat 87 11 ((x.pY k).map rK))]⟩
theorem M5 (x:aO) (k:Nat):x.IX (k+1)=x.IX k++[(dW x.s k).up]:=by unfold aO.IX; rw [List.range_succ,List.map_append]; rfl
theorem pN {α:Type} {l:List α} {i:Nat} (z:α) (h:i<l.length):l.take (i+1)=l.take i++[l.getD i z]:=by
 rw [List.take_add_one]; simp [List.getD,h]
theorem Pa (x:aO) {k:Nat} (h:k<x.lines.length):x.zP (k+1)=x.zP k++[(x.lines.getD k fV).heard]:=by unfold aO.zP; rw [pN fV h,List.map_append]; rfl
theorem KX (x:aO) {k:Nat} (h:k<x.lines.length):x.pY (k+1)=x.pY k++[(x.lines.getD k fV).report]:=by unfold aO.pY; rw [pN fV h,List.map_append]; rfl
theorem IW (x:aO) (k:Nat):(x.IX k).length=k:=by simp [aO.IX]
theorem JR (x:aO) {k:Nat} (h:k≤x.lines.length):(x.zP k).length=k:=by simp [aO.zP]; omega
theorem EB (x:aO) {k:Nat} (h:k≤x.lines.length):(x.pY k).length=k:=by simp [aO.pY]; omega
theorem Db (x:aO) (h:Gm x) (now:Int) (Ph:0≤now∧now≤1000000) (hT:∀ l∈x.lines,0≤l.heard∧l.heard≤1000000) (q p:Option bT) (hfn:bh Tryz.prog G 199 [aY x.s,jr (x.pY x.lines.length),.int now] [] (nA q) []) (hp:bh Tryz.prog G 200 [fN x.c,aY x.s,.int now] [] (nA p) []) :
  bh Tryz.prog G 117 [.ptr 0 0,.int now] (bZ x) (nA (x.jq now q p)) (bZ x):=by
 have sV:=h.lines
 have DR:=h.right.len
 refine aQ Tryz.func117 (by decide) Ua rfl rfl (cZ _ (Nat.le_refl 8) _) rfl ?_
 simp only [bZ,eU,bC,XL,go_sem]
 refine aR [0,1,4,5,6,7,8,17,18,19] [.t 6 4 1,.t 7 3 1,.t 8 87 11] (fun k:Nat=>k≤x.lines.length) (fun k=>x.lines.length-k) (RK x now) 0 ?_ (Nat.zero_le _) (fun k hk=>?_)
 ·simp only [RK,bZ,eU,bC,aO.IX,aO.zP,aO.pY,F2,Ff,List.range_zero,Int.natCast_zero,go_sem]
 simp only [RK,bZ,eU,bC,go_sem]
 by_cases hlt:k<x.lines.length
 ·have hg:=aK (f:=vO) fV hlt
  have LQ:=aK (f:=bX) ai (show k<x.s.nodes.length by omega)
  simp only [decide_eq_true (show ((k:Nat):Int)<((x.lines.length:Nat):Int) by omega),go_sem]
  have hu:=M5 x k
  have hh:=Pa x hlt
  have hr:=KX x hlt
  have lu:=IW x k
  have lh:=JR x hk
  have lr:=EB x hk
  have hN:dW x.s k=x.s.nodes.getD k ai:=rfl
  rw [hN] at hu
  have hkn:k<x.s.nodes.length:=by omega
  generalize x.s.nodes.getD k ai=n at *
  generalize x.lines.getD k fV=l at *
  obtain ⟨up,co,mo,ve,jo⟩:=n
  obtain ⟨lg,lhs,⟨q0,q1,q2,q3,q4,q5,q6,q7,q8,q9,q10⟩,ls,le,⟨r0,r1,r2,r3,r4,r5,r6,r7,r8,r9,r10⟩⟩:=l
  simp only [vO,rK,List.cons_append,List.nil_append] at hg
  simp only [bX] at LQ
  dsimp only at hu hh hr
  generalize Zo:x.IX k=ub at *
  generalize hhb:x.zP k=hb at *
  generalize hrb:x.pY k=rb at *
  have c1:(k+1)*88≤70368744177664:=by omega
  have c2:(k+1)*8≤70368744177664:=by omega
  have c3:(k+1)*1≤70368744177664:=by omega
  simp only [hlt,hg,F2,Ff,List.length_append,lu,lh,lr,c1,c2,c3,hkn,LQ,go_sem]
  refine an rfl ?_
  simp only [go_sem]
  refine bg (k+1) ?_ ?_ (show k+1≤x.lines.length by omega) (show x.lines.length-(k+1)<x.lines.length-k by omega)
  ·simp only [aZ,bF,go_sem]
  ·simp only [aG (show k<9223372036854775807 by omega),RK,bZ,eU,bC,hu,hh,hr,F2,Ff,List.map_append,go_sem]
 obtain rfl:k=x.lines.length:=by omega
 simp only [decide_eq_false (show ¬ ((x.lines.length:Nat):Int)<((x.lines.length:Nat):Int) by omega),go_sem]
 have hup:(x.IX x.lines.length).length=x.lines.length:=IW x _
 have hhp:=JR x (Nat.le_refl x.lines.length)
 have hrp:=EB x (Nat.le_refl x.lines.length)
 have ZE:0≤x.c.cr∧x.c.cr≤1000000:=by
  have hm:=h.right.uW
  unfold iq at hm
  simp only [Bool.and_eq_true] at hm
  have:=aX hm.1.1.1.1.2
  omega
 have abf:=GH (G:=G) (x.IX x.lines.length) (x.zP x.lines.length) x.c.cr now (by omega) (by omega) ZE (fun v hv=>by
  unfold aO.zP at hv
  rw [List.mem_map] at hv
  obtain ⟨l,hl,rfl⟩:=hv
  exact hT l (List.mem_of_mem_take hl))
 unfold aO.jq
 have hsi:x.Re now=mq x.c.cr now (x.IX x.lines.length) (x.zP x.lines.length) 0:=rfl
 rw [← hsi] at abf
 generalize x.Re now=si at *
 have htu:List.take x.lines.length (List.map (fun b=>[DV.val (Value.bool b)]) (x.IX x.lines.length))=List.map (fun b=>[DV.val (Value.bool b)]) (x.IX x.lines.length):=List.take_of_length_le (by rw [List.length_map]; omega)
 have MW:List.take x.lines.length (List.map (fun h=>[DV.val (Value.int IntKind.i64 h)]) (x.zP x.lines.length))=List.map (fun h=>[DV.val (Value.int IntKind.i64 h)]) (x.zP x.lines.length):=List.take_of_length_le (by rw [List.length_map]; omega)
 have htr:List.take x.lines.length (List.map rK (x.pY x.lines.length))=List.map rK (x.pY x.lines.length):=List.take_of_length_le (by rw [List.length_map]; omega)
 refine ye [9,10] (abf) rfl (by simp [ag,ah,bB,au,F2,Ff,htu,MW,hup,hhp,Nat.le_refl,and_self,go_sem]) (by simp [au]) rfl rfl ?_; simp only [go_sem]
 by_cases hs0:0≤si
 ·simp only [decide_eq_true (show si≥0 from hs0),hs0,nA,Option.getD_some,Option.isSome_some,go_sem]
 simp only [decide_eq_false (show ¬ si≥0 from hs0),hs0,go_sem]
 simp only [jr] at hfn
 refine ye [11] (hfn) rfl (by simp [ag,ah,bB,au,jr,htr,hrp,Nat.le_refl,and_self,go_sem]) (by simp [au]) rfl rfl ?_; simp only [go_sem]
 cases q with
 | some o=>simp only [nA,Option.getD_some,Option.isSome_some,go_sem]
 | none=>
   simp only [nA,Option.getD_none,Option.isSome_none,go_sem]
   refine aU (hp) rfl rfl rfl rfl ?_; simp only [go_sem]
   cases p with
   | none=>
     simp only [nA,Option.getD_none,Option.isSome_none,go_sem]
     refine an rfl ?_
     simp only [go_sem]
   | some o=>
     simp only [nA,Option.getD_some,Option.isSome_some,go_sem]
     refine an rfl ?_
     simp only [go_sem]
end Dv
namespace Dv
open Go Go.Proofs
def BZ:Nat×C×List RV:=(112,
(.seq (.qV [qo 6 (.new 87 [q0,q0,q0,q0,q0,q0,q0,q0,q0,q0,q0]),
 qo 7 (.mv qf)])
 (.seq (.qV [qm 11 0,
 qo 12 (.nD (.t 11)),
 qo 13 (.iB 18 (.t 12)),
 qo 14 (.ld1 (.t 13)),
 qm 15 1,
 qo 16 (.QJ 26 (.t 14) (.t 15)),
 qm 8 16])
 (.seq (.nq [qm 18 0,
 qd 19 (.nD (.t 18)) [0],
 qd 20 (.iB 12 (.t 19)) [1,0],
 qd 21 (.Jw 6 (.t 20)) [2,1,0],
 qm 22 1,
 qm 23 0,
 qd 24 (.nD (.t 23)) [5],
 qd 25 (.iB 11 (.t 24)) [6,5],
 qd 26 (.ld1 (.t 25)) [7,6,5],
 qd 27 (.call (.f 201) [(.t 21),(.t 22),(.t 26)]) [3,2,1,0,4,8,7,6,5],
 qd 17 (.mv (.t 27)) [9,3,2,1,0,4,8,7,6,5],
 qd 28 (.ext (.t 17) 0) [10,9,3,2,1,0,4,8,7,6,5],
 qd 29 (.ext (.t 17) 1) [10,9,3,2,1,0,4,8,7,6,5],
 qo 9 (.new 87 [q0,q0,q0,q0,q0,q0,q0,q0,q0,q0,q0]),
 ql (.st 11 (.t 9) (.t 28)) [13,11,10,9,3,2,1,0,4,8,7,6,5],
 qd 10 (.mv (.t 29)) [12,10,9,3,2,1,0,4,8,7,6,5,14,13,11]])
 (.seq (.block 0 (.seq (.qV [qm 31 10,
 qo 32 (.not (.t 31)),
 qm 30 32])
 (.cond (.t 30) (.seq (.qV [qm 33 8,
 qo 34 (.nD (.t 33)),
 qo 35 (.iB 1 (.t 34)),
 qn (.st 1 (.t 35) qf)])
 (.seq (.qV [qo 36 (.build [q0,q0,q0,q0,q0,q0,q0,q0,q0,q0,q0] []),
 qn (.st 11 (.t 6) (.t 36)),
 qo 7 (.mv qf)])
 .ret))
 (.seq (.nq [qm 38 8,
 qd 39 (.nD (.t 38)) [0],
 qd 40 (.iB 1 (.t 39)) [1,0],
 qd 41 (.ld1 (.t 40)) [2,1,0],
 qd 42 (.not (.t 41)) [3,2,1,0],
 qd 43 (.mv (.t 42)) [4,3,2,1,0],
 qe 44 (.Jw 11 (.t 9)) 43 false [5,4,3,2,1,0],
 qe 45 (.mv (.t 8)) 43 false [5,4,3,2,1,0],
 qe 46 (.nD (.t 45)) 43 false [7,5,4,3,2,1,0],
 qe 47 (.iB 2 (.t 46)) 43 false [8,7,5,4,3,2,1,0],
 qe 48 (.Jw 11 (.t 47)) 43 false [9,8,7,5,4,3,2,1,0],
 qe 49 (.call (.f 202) [(.t 44),(.t 48)]) 43 false [6,5,4,3,2,1,0,10,9,8,7],
 qe 50 (.not (.t 49)) 43 false [11,6,5,4,3,2,1,0,10,9,8,7],
 qd 51 (.pick (.t 43) qt (.t 50)) [5,4,3,2,1,0,12,11,6,10,9,8,7],
 qd 37 (.mv (.t 51)) [13,5,4,3,2,1,0,12,11,6,10,9,8,7]])
 (.cond (.t 37) (.seq (.nq [qm 52 8,
 qm 53 8,
 qm 54 8,
 qo 55 (.Jw 11 (.t 9)),
 qo 56 (.build [q0,q0,q0,q0,q0,q0,q0,q0,q0,q0,q0] []),
 qd 57 (.nD (.t 52)) [0],
 qd 58 (.iB 1 (.t 57)) [5,0],
 ql (.st 1 (.t 58) qt) [6,5,0],
 qd 59 (.nD (.t 53)) [1,0,3,5,6,7],
 qd 60 (.iB 2 (.t 59)) [8,1,0,3,5,6,7],
 ql (.st 11 (.t 60) (.t 55)) [9,8,1,0,3,5,6,7],
 qd 61 (.nD (.t 54)) [2,0,1,3,4,5,6,7,8,9,10],
 qd 62 (.iB 15 (.t 61)) [11,2,0,1,3,4,5,6,7,8,9,10],
 ql (.st 11 (.t 62) (.t 56)) [12,11,2,0,1,3,4,5,6,7,8,9,10]])
 (.qV [qm 63 8,
 qo 64 (.nD (.t 63)),
 qo 65 (.iB 0 (.t 64)),
 qo 66 (.ld1 (.t 65)),
 qo 67 (.bin .add (.t 66) (qk 1)),
 qo 68 (.nD (.t 63)),
 qo 69 (.iB 0 (.t 68)),
 qn (.st 1 (.t 69) (.t 67))]))
 (.seq (.nq [qm 71 2,
 qm 72 8,
 qd 73 (.nD (.t 72)) [1],
 qd 74 (.iB 13 (.t 73)) [2,1],
 qd 75 (.ld1 (.t 74)) [3,2,1],
 qm 76 0,
 qd 77 (.nD (.t 76)) [5],
 qd 78 (.iB 0 (.t 77)) [6,5],
 qd 79 (.iB 5 (.t 78)) [7,6,5],
 qd 80 (.ld1 (.t 79)) [8,7,6,5],
 qd 81 (.bin .add (.t 75) (.t 80)) [4,3,2,1,9,8,7,6,5],
 qd 82 (.bin .lss (.t 71) (.t 81)) [0,10,4,3,2,1,9,8,7,6,5],
 qd 70 (.mv (.t 82)) [11,0,10,4,3,2,1,9,8,7,6,5]])
 (.cond (.t 70) (.seq (.qV [qo 83 (.build [q0,q0,q0,q0,q0,q0,q0,q0,q0,q0,q0] []),
 qn (.st 11 (.t 6) (.t 83)),
 qo 7 (.mv qf)])
 .ret)
 .skip)))))))
 (.seq (.qV [qm 84 8,
 qm 85 2,
 qo 86 (.nD (.t 84)),
 qo 87 (.iB 13 (.t 86)),
 qn (.st 1 (.t 87) (.t 85))])
 (.seq (.nq [qm 88 0,
 qd 89 (.nD (.t 88)) [0],
 qd 90 (.iB 12 (.t 89)) [1,0],
 qd 91 (.iB 5 (.t 90)) [2,1,0],
 qd 92 (.ld1 (.t 91)) [3,2,1,0],
 qm 93 8,
 qd 94 (.nD (.t 93)) [5],
 qd 95 (.iB 0 (.t 94)) [6,5],
 qd 96 (.ld1 (.t 95)) [7,6,5],
 qm 97 8,
 qd 98 (.nD (.t 97)) [9],
 qd 99 (.iB 14 (.t 98)) [10,9],
 qd 100 (.ld1 (.t 99)) [11,10,9],
 qm 101 0,
 qd 102 (.nD (.t 101)) [13],
 qd 103 (.iB 0 (.t 102)) [14,13],
 qd 104 (.iB 4 (.t 103)) [15,14,13],
 qd 105 (.ld1 (.t 104)) [16,15,14,13],
 qd 106 (.bin .add (.t 100) (.t 105)) [12,11,10,9,17,16,15,14,13],
 qd 107 (.min (qk 1000000) (.t 106)) [18,12,11,10,9,17,16,15,14,13],
 qd 108 (.iB 2 (.t 9)) [0,1,2,3,4],
 ql (.st 1 (.t 108) (.t 92)) [20,0,1,2,3,4],
 qd 109 (.iB 3 (.t 9)) [0,1,2,3,4,5,6,7,8,20,21],
 ql (.st 1 (.t 109) (.t 96)) [22,0,1,2,3,4,5,6,7,8,20,21],
 qd 110 (.iB 8 (.t 9)) [0,1,2,3,4,5,6,7,8,9,10,11,12,13,14,15,16,17,18,19,20,21,22,23],
 ql (.st 1 (.t 110) (.t 107)) [24,0,1,2,3,4,5,6,7,8,9,10,11,12,13,14,15,16,17,18,19,20,21,22,23]])
 (.seq (.qV [qo 111 (.Jw 11 (.t 9)),
 qn (.st 11 (.t 6) (.t 111)),
 qo 7 (.mv qt)])
 .ret))))))),
[(.cn 6 11),(.t 7)])
theorem uz:aj Tryz.prog Tryz.f118=some BZ:=by kernel_rfl
def ng (x:aO) (q:Option eH) (now:Int) (l:nQ):nQ×Option eH:=match q with
 | none=>({ l with has:=false },none)
 | some m=>
   if l.has=false∨DM m l.order=false then ({ l with has:=true,order:=m,report:=ot,gen:=IntKind.i64.wrap (l.gen+1),sent:=now },some { m with term:=x.s.term,gen:=IntKind.i64.wrap (l.gen+1),til:=if IntKind.i64.wrap (l.heard+x.c.cr)<1000000 then IntKind.i64.wrap (l.heard+x.c.cr) else 1000000 })
   else if now<IntKind.i64.wrap (l.sent+x.c.eZ) then (l,none)
   else ({ l with sent:=now },some { m with term:=x.s.term,gen:=l.gen,til:=if IntKind.i64.wrap (l.heard+x.c.cr)<1000000 then IntKind.i64.wrap (l.heard+x.c.cr) else 1000000 })
theorem Nn {α:Type} {l:List α} {i:Nat} {v:α} (h:l[i]? = some v):l.set i v=l:=by
 obtain ⟨h1,h2⟩:=List.getElem?_eq_some_iff.1 h
 subst h2
 exact List.set_getElem_self h1
theorem CA (x:aO) (now:Int) (i:Nat) (hi:i<x.lines.length) (q:Option eH) (vR:bh Tryz.prog g_ 201 [aY x.s,.int i,.ptr 0 0] (kP x.room x.term x.sh x.wr) (gV q) (kP x.room x.term x.sh x.wr)) :
  bh Tryz.prog g_ 118 [.ptr 0 0,.int i,.int now] (bZ x) (gV (ng x q now (x.lines.getD i fV)).2) (bZ { x with lines:=x.lines.set i (ng x q now (x.lines.getD i fV)).1 }):=by
 have hg:=aK (f:=vO) fV hi
 have HS:∀ v,((x.lines.map vO).set i v)[i]? = some v:=fun v=>List.getElem?_set_self (by simpa using hi)
 simp only [kP,List.cons_append,List.nil_append] at vR
 generalize x.lines.getD i fV=l at *
 obtain ⟨lg,lhs,⟨q0,q1,q2,q3,q4,q5,q6,q7,q8,q9,q10⟩,ls,le,⟨r0,r1,r2,r3,r4,r5,r6,r7,r8,r9,r10⟩⟩:=l
 simp only [vO,rK,List.cons_append,List.nil_append] at hg
 cases q with
 | none=>
   simp only [ng]
   refine aQ Tryz.func118 (by decide) uz rfl rfl (cZ _ (Nat.le_refl 8) _) rfl ?_
   simp only [gV,Option.getD_none,Option.isSome_none] at vR ⊢
   simp only [bZ,eU,bC,List.length_set,BZ,go_sem]
   simp only [hi,go_sem]
   refine f_ [6] (vR) rfl ?_ (by decide) ?_ ?_ ?_ <;> simp only [ag,ah,go_sem,bL,cu,aZ,bF]
   refine an rfl ?_
   simp only [hi,hg,HS,vO,List.map_set,List.length_set,List.set_set,go_sem]
 | some m=>
   obtain ⟨m0,m1,m2,m3,m4,m5,m6,m7,m8,m9,m10⟩:=m
   have hal:=ML (G:=g_) ⟨m0,m1,m2,m3,m4,m5,m6,m7,m8,m9,m10⟩ ⟨q0,q1,q2,q3,q4,q5,q6,q7,q8,q9,q10⟩
   simp only [ng]
   generalize DM ⟨m0,m1,m2,m3,m4,m5,m6,m7,m8,m9,m10⟩ ⟨q0,q1,q2,q3,q4,q5,q6,q7,q8,q9,q10⟩=al at *
   cases lhs with
   | false=>
     simp only [true_or,if_true]
     refine aQ Tryz.func118 (by decide) uz rfl rfl (cZ _ (Nat.le_refl 8) _) rfl ?_
     simp only [gV,Option.getD_some,Option.isSome_some] at vR
     simp only [gV,Option.getD_some,Option.isSome_some,Option.getD_none,Option.isSome_none]
     simp only [bZ,eU,bC,List.length_set,BZ,go_sem]
     simp only [hi,go_sem]
     refine f_ [6] (vR) rfl ?_ (by decide) ?_ ?_ ?_ <;> simp only [ag,ah,go_sem,bL,cu,aZ,bF]
     refine an rfl ?_
     simp only [hi,hg,HS,ot,vO,List.map_set,List.length_set,List.set_set,go_sem]
     (repeat (refine an rfl ?_; (try simp only [hi,hg,HS,ot,vO,List.map_set,List.length_set,List.set_set,go_sem])))
   | true=>
   cases al with
   | false=>
     simp only [Bool.true_eq_false,or_true,if_true]
     refine aQ Tryz.func118 (by decide) uz rfl rfl (cZ _ (Nat.le_refl 8) _) rfl ?_
     simp only [gV,Option.getD_some,Option.isSome_some] at vR
     simp only [gV,Option.getD_some,Option.isSome_some,Option.getD_none,Option.isSome_none]
     simp only [bZ,eU,bC,List.length_set,BZ,go_sem]
     simp only [hi,go_sem]
     refine f_ [6] (vR) rfl ?_ (by decide) ?_ ?_ ?_ <;> simp only [ag,ah,go_sem,bL,cu,aZ,bF]
     refine an rfl ?_
     simp only [hi,hg,HS,ot,vO,List.map_set,List.length_set,List.set_set,go_sem]
     refine aU (hal) rfl rfl rfl rfl ?_; simp only [go_sem]
     simp only [hi,hg,HS,ot,vO,List.map_set,List.length_set,List.set_set,go_sem]
     (repeat (refine an rfl ?_; (try simp only [hi,hg,HS,ot,vO,List.map_set,List.length_set,List.set_set,go_sem])))
   | true=>
     simp only [Bool.true_eq_false,or_false,if_false]
     by_cases hl:now<IntKind.i64.wrap (ls+x.c.eZ)
     ·simp only [hl,if_true]
      refine aQ Tryz.func118 (by decide) uz rfl rfl (cZ _ (Nat.le_refl 8) _) rfl ?_
      simp only [gV,Option.getD_some,Option.isSome_some] at vR
      simp only [gV,Option.getD_some,Option.isSome_some,Option.getD_none,Option.isSome_none]
      simp only [bZ,eU,bC,List.length_set,BZ,go_sem]
      simp only [hi,go_sem]
      refine f_ [6] (vR) rfl ?_ (by decide) ?_ ?_ ?_ <;> simp only [ag,ah,go_sem,bL,cu,aZ,bF]
      refine an rfl ?_
      simp only [hi,hg,HS,ot,vO,List.map_set,List.length_set,List.set_set,go_sem]
      refine aU (hal) rfl rfl rfl rfl ?_; simp only [go_sem]
      simp only [decide_eq_true hl,hi,hg,HS,ot,vO,List.map_set,List.length_set,List.set_set,go_sem]
      (repeat (refine an rfl ?_; (try simp only [decide_eq_true hl,hi,hg,HS,ot,vO,List.map_set,List.length_set,List.set_set,go_sem])))
      rw [Nn hg]
     ·simp only [hl,if_false]
      refine aQ Tryz.func118 (by decide) uz rfl rfl (cZ _ (Nat.le_refl 8) _) rfl ?_
      simp only [gV,Option.getD_some,Option.isSome_some] at vR
      simp only [gV,Option.getD_some,Option.isSome_some,Option.getD_none,Option.isSome_none]
      simp only [bZ,eU,bC,List.length_set,BZ,go_sem]
      simp only [hi,go_sem]
      refine f_ [6] (vR) rfl ?_ (by decide) ?_ ?_ ?_ <;> simp only [ag,ah,go_sem,bL,cu,aZ,bF]
      refine an rfl ?_
      simp only [hi,hg,HS,ot,vO,List.map_set,List.length_set,List.set_set,go_sem]
      refine aU (hal) rfl rfl rfl rfl ?_; simp only [go_sem]
      simp only [decide_eq_false hl,hi,hg,HS,ot,vO,List.map_set,List.length_set,List.set_set,go_sem]
      (repeat (refine an rfl ?_; (try simp only [decide_eq_false hl,hi,hg,HS,ot,vO,List.map_set,List.length_set,List.set_set,go_sem])))
end Dv
namespace Dv
open Go Go.Proofs
def aaZ:=qx Tryz.f44
theorem Y4:aj Tryz.prog Tryz.f44=some aaZ:=by kernel_rfl
def cV (y:aO) (had:Int→Int) (now:Int):Nat→aO×List eH
 | 0=>(y,[])
 | k+1=>({ (cV y had now k).1 with lines:=(cV y had now k).1.lines.set k (ng (cV y had now k).1 (lq y.s had k) now ((cV y had now k).1.lines.getD k fV)).1 },(cV y had now k).2++(ng (cV y had now k).1 (lq y.s had k) now ((cV y had now k).1.lines.getD k fV)).2.toList)
structure Vh (y z:aO):Prop where
 c:z.c=y.c
 s:z.s=y.s
 j:z.j=y.j
 room:z.room=y.room
 term:z.term=y.term
 sh:z.sh=y.sh
 wr:z.wr=y.wr
 len:z.lines.length=y.lines.length
 down:z.down=y.down
 dA:z.dA=y.dA
theorem pM (y:aO) (had:Int→Int) (now:Int):∀ k,Vh y (cV y had now k).1
 | 0=>⟨rfl,rfl,rfl,rfl,rfl,rfl,rfl,rfl,rfl,rfl⟩
 | k+1=>by
   have h:=pM y had now k
   exact ⟨h.c,h.s,h.j,h.room,h.term,h.sh,h.wr,by show (List.set _ _ _).length=_; rw [List.length_set,h.len],h.down,h.dA⟩
theorem Bh (y:aO) (had:Int→Int) (now:Int):∀ k,(cV y had now k).2.length≤k
 | 0=>Nat.le_refl _
 | k+1=>by
   have h:=Bh y had now k
   show ((cV y had now k).2++(ng (cV y had now k).1 (lq y.s had k) now ((cV y had now k).1.lines.getD k fV)).2.toList).length≤k+1
   rw [List.length_append]
   have:∀ q:Option eH,q.toList.length≤1:=fun q=>by cases q <;> simp
   have:=this (ng (cV y had now k).1 (lq y.s had k) now ((cV y had now k).1.lines.getD k fV)).2
   omega
def aO.lW (x:aO) (now:Int) (q p:Option bT):aO:=match x.jq now q p with
 | some o=>x.dD o now
 | none=>x
def aO.aab (x:aO) (now:Int) (q p:Option bT):bT:=match x.jq now q p with
 | some o=>if x.fQ o=0 then o else cU
 | none=>cU
def AE (o:bT):aC:=.box 37 [.int o.kind,.int o.a,.int o.b,.int o.c,.int o.d,.int o.e,.int o.f]
def MO (z:aO) (now:Int) (o:bT) (ms:List eH) (k:Nat):St:=⟨[(0,.ptr 0 0),(1,.int now),(4,.ptr 8 0),(5,.d (.val (.slice none 0 0))),(6,.ptr 9 0),(8,.sl 10 ms.length 11 0 ms.length),(41,.int z.lines.length),(42,.int k)],(bZ z).map some++[some (AE cU),some (AE o),some (.dat 87 11 (ms.map rK))]⟩
theorem Vb (x:aO) (h:Gm x) (hd:x.down=false) (now:Int) (Ph:0≤now∧now≤1000000) (hT:∀ l∈x.lines,0≤l.heard∧l.heard≤1000000) (u p:Option bT) (hf:bh Tryz.prog g_ 199 [aY x.s,jr (x.pY x.lines.length),.int now] [] (nA u) []) (hp:bh Tryz.prog g_ 200 [fN x.c,aY x.s,.int now] [] (nA p) []) (had:Int→Int)
  (vR:∀ i,i<(x.lW now u p).lines.length→bh Tryz.prog g_ 201 [aY (x.lW now u p).s,.int i,.ptr 0 0] (kP (x.lW now u p).room (x.lW now u p).term (x.lW now u p).sh (x.lW now u p).wr) (gV (lq (x.lW now u p).s had i)) (kP (x.lW now u p).room (x.lW now u p).term (x.lW now u p).sh (x.lW now u p).wr)) :
  bh Tryz.prog g_ 44 [.ptr 0 0,.int now] (bZ x) (.dH [tA (x.aab now u p),jr (cV (x.lW now u p) had now x.lines.length).2]) (bZ (cV (x.lW now u p) had now x.lines.length).1):=by
 have ha:=tf (G:=g_) x
 have X0:=Ea (G:=g_) now
 have hnx:=Db x h now Ph hT u p hf hp
 rw [hd] at ha
 rw [decide_eq_true Ph] at X0
 have hnt:=fun o=>bh.up (zm x h o now) qO
 have DR:x.lines.length≤6:=by have:=h.lines; have:=h.right.len; omega
 have abc:(x.lW now u p).lines.length=x.lines.length:=by
  unfold aO.lW
  split
  ·rename_i o _
   have h1:=(h.note o now).lines
   have h2:=h.lines
   have h3:=(h.note o now).right.nodes
   have h4:=h.right.nodes
   rw [Jo] at h3
   omega
  ·rfl
 have hyc:Gm (x.lW now u p):=by
  unfold aO.lW
  split
  ·exact h.note _ now
  ·exact h
 have hY:x.lW now u p=match x.jq now u p with | some o=>x.dD o now | none=>x:=rfl
 have hQ:x.aab now u p=match x.jq now u p with | some o=>if x.fQ o=0 then o else cU | none=>cU:=rfl
 generalize x.lW now u p=y at *
 generalize x.aab now u p=q at *
 have sV:x.lines.length=y.lines.length:=abc.symm
 rw [sV] at DR ⊢
 obtain ⟨F,hF⟩:∃ F,F=cV y had now y.lines.length:=⟨_,rfl⟩
 rw [← hF]
 simp only [bZ,eU,bC,List.cons_append,List.nil_append] at ha hnx
 refine cA Tryz.func44 (by decide) Y4 rfl ?_
 simp only [bZ,eU,bC,aaZ,go_sem]
 refine gL [0,1,2,3,4,5,6,7] (ha) rfl ?_ (by decide) ?_ ?_ ?_ <;> simp only [ag,ah,go_sem,bL,cu,aZ,bF]
 refine ax (X0) rfl rfl rfl rfl ?_; simp only [go_sem]
 refine gL [0,1,2,3,4,5,6,7] (hnx) rfl ?_ (by decide) ?_ ?_ ?_ <;> simp only [ag,ah,go_sem,bL,cu,aZ,bF]
 have tB:=pM y had now
 have hl2:=Bh y had now
 cases hno:x.jq now u p
 case' none=>
  rw [hno] at hY hQ
  have hY2:y=x:=hY
  have hq:q=cU:=hQ
  subst hY2
  simp only [nA,Option.getD_none,Option.isSome_none,go_sem]
 case' some o=>
  rw [hno] at hY hQ
  have hY2:x.dD o now=y:=hY.symm
  have hnt:=hnt o
  rw [hY2] at hnt
  simp only [bZ,eU,bC,List.cons_append,List.nil_append] at hnt
  simp only [nA,Option.getD_some,Option.isSome_some,go_sem]
  refine av [0,1,2,3,4,5,6,7] (hnt) rfl ?_ (by decide) ?_ ?_ (by simp) ?_ <;> simp only [ag,ah,go_sem,bL,cu,aZ,bF]
  by_cases he:x.fQ o=0
  case' pos=>
   have hq:q=o:=by rw [hQ]; exact if_pos he
   simp only [he,bne_self_eq_false,go_sem]
  case' neg=>
   have hq:q=cU:=by rw [hQ]; exact if_neg he
   simp only [show (x.fQ o !=0)=true from bne_iff_ne.2 he,go_sem]
 all_goals
  refine aR [0,1,4,5,6,8,41,42] [.t 8 87 11] (fun k:Nat=>k≤y.lines.length) (fun k=>y.lines.length-k) (fun k=>MO (cV y had now k).1 now q (cV y had now k).2 k) 0 ?_ (Nat.zero_le _) (fun k hk=>?_)
  ·simp only [MO,cV,hq,AE,bZ,eU,bC,Int.natCast_zero,go_sem]
  have hz:=tB k
  have hzl:=hl2 k
  have B6:cV y had now (k+1)=({ (cV y had now k).1 with lines:=(cV y had now k).1.lines.set k (ng (cV y had now k).1 (lq y.s had k) now ((cV y had now k).1.lines.getD k fV)).1 },(cV y had now k).2++(ng (cV y had now k).1 (lq y.s had k) now ((cV y had now k).1.lines.getD k fV)).2.toList):=rfl
  by_cases hlt:k<y.lines.length
  ·have hT:=CA (cV y had now k).1 now k (by rw [hz.len]; exact hlt) (lq y.s had k) (by rw [hz.s,hz.room,hz.term,hz.sh,hz.wr]; exact vR k hlt)
   generalize (cV y had now k).1=z at *
   generalize (cV y had now k).2=ms at *
   generalize ng z (lq y.s had k) now (z.lines.getD k fV)=tl at *
   have JP:=hz.len
   simp only [bZ,eU,bC,List.length_set,List.cons_append,List.nil_append] at hT
   simp only [MO,AE,bZ,eU,bC,JP,go_sem]
   simp only [decide_eq_true (show ((k:Nat):Int)<((y.lines.length:Nat):Int) by omega),go_sem]
   rw [JP] at hT
   refine av [0,1,2,3,4,5,6,7] (hT) rfl ?_ (by decide) ?_ ?_ (by simp) ?_ <;> simp only [ag,ah,go_sem,bL,cu,aZ,bF]
   obtain ⟨l2,r2⟩:=tl
   have c1:(ms.length+1)*88≤70368744177664:=by omega
   cases r2 with
   | none=>
     simp only [gV,Option.getD_none,Option.isSome_none,go_sem]
     refine bg (k+1) ?_ ?_ (show k+1≤y.lines.length by omega) (show y.lines.length-(k+1)<y.lines.length-k by omega)
     ·simp only [aZ,bF,go_sem]
     ·simp only [aG (show k<9223372036854775807 by omega),B6,Option.toList,JP,List.length_set,MO,AE,bZ,eU,bC,go_sem]
   | some m=>
     simp only [gV,Option.getD_some,Option.isSome_some,List.length_append,c1,go_sem]
     refine bg (k+1) ?_ ?_ (show k+1≤y.lines.length by omega) (show y.lines.length-(k+1)<y.lines.length-k by omega)
     ·simp only [aZ,bF,go_sem]
     ·simp only [aG (show k<9223372036854775807 by omega),B6,Option.toList,JP,List.length_set,List.map_append,List.length_append,MO,AE,bZ,eU,bC,go_sem]
  ·obtain rfl:k=y.lines.length:=by omega
   rw [← hF] at *
   simp only [MO,AE,bZ,eU,bC,go_sem]
   simp only [hz.len,decide_eq_false (show ¬ ((y.lines.length:Nat):Int)<((y.lines.length:Nat):Int) by omega),go_sem]
   have hid:=cZ 8 (Nat.le_refl 8) F.1
   simp only [bZ,eU,bC,hz.len,bS,de,LV.int,LV.bool,List.cons_append,List.nil_append] at hid
   have htk:List.take F.2.length (List.map rK F.2)=List.map rK F.2:=List.take_of_length_le (by rw [List.length_map]; exact Nat.le_refl _)
   refine dm [] [0,1,2,3,4,5,6,7] [10] (vs:=[.agg [.int q.kind,.int q.a,.int q.b,.int q.c,.int q.d,.int q.e,.int q.f],.sl 10 F.2.length 11 0 F.2.length]) rfl rfl (by decide) (by decide) (by simp [St.obj,au,c_]) ?_ hid ?_
   ·simp only [List.map_cons,List.map_nil,ff,mw,bL,cu]
    rfl
   simp [aP,ah,ag,bB,LV.int,LV.bool,htk,St.obj,au,c_]
end Dv
