/- part -/
import Derived.Test.YtkalnfkokkjliaaGreatDoorCA
import Derived.Test.YtkalnfkokkjliaaGreatDoorAC
import Derived.Test.YtkalnfkokkjliaaGreatDoorNA
import Derived.Test.YtkalnfkokkjliaaGreatDoorI0
import Derived.Test.YtkalnfkokkjliaaGreatDoorGA
set_option linter.all false
set_option maxHeartbeats 4000000
set_option maxRecDepth 100000
namespace Dv
open Go Go.Proofs
variable {G:Nat→Option (List DV)}
def xR:=qx Tryz.f201
theorem pg:aj Tryz.prog Tryz.f201=some xR:=by kernel_rfl
def XV:=qx Tryz.f202
theorem Ub:aj Tryz.prog Tryz.f202=some XV:=by kernel_rfl
def Xv:=qx Tryz.f249
theorem TG:aj Tryz.prog Tryz.f249=some Xv:=by kernel_rfl
def Xu:=qx Tryz.f250
theorem TF:aj Tryz.prog Tryz.f250=some Xu:=by kernel_rfl
def gE (m:dL):dL:={ m with term:=0,gen:=0,til:=0 }
theorem GV (m:dL):bu Tryz.prog G 250 [yt m] [] (yt (gE m)) []:=by
 refine bz Tryz.func250 (by decide) TF rfl rfl ?_
 simp only [Xu,go_sem]
 simp only [gE,go_sem]
def EL (a b:dL):Bool:=((gE a).node==(gE b).node&&((gE a).kind==(gE b).kind&&((gE a).term==(gE b).term&&((gE a).gen==(gE b).gen&&((gE a).aQ==(gE b).aQ&&((gE a).inc==(gE b).inc&&((gE a).version==(gE b).version&&((gE a).epoch==(gE b).epoch&&((gE a).til==(gE b).til&&((gE a).mode==(gE b).mode&&(gE a).work==(gE b).work))))))))))
theorem NA (a b:dL):bu Tryz.prog G 202 [yt a,yt b] [] (.bool (EL a b)) []:=by
 have ha:=GV (G:=G) a
 have hb:=GV (G:=G) b
 unfold EL
 refine bz Tryz.func202 (by decide) Ub rfl rfl ?_
 simp only [XV,go_sem]
 refine bf (ha) rfl rfl rfl rfl ?_; simp only [go_sem]
 refine bf (hb) rfl rfl rfl rfl ?_; simp only [go_sem]
def tzD (m:Int):Int:=if hasB m 0=true then 0 else if hasB m 1=true then 1 else if hasB m 2=true then 2 else if hasB m 3=true then 3 else if hasB m 4=true then 4 else if hasB m 5=true then 5 else 64
noncomputable def aa6 (m:Nat):Bool:=match sA eB (tf (oc Tryz.prog) []) 200 20 false 292 [.d (.val (.int .u64 m))] [] with
 | some (r,o)=>oK [r] [.int (tzD m)]&&uw o []
 | none=>false
theorem Zr:(List.range 64).all aa6=true:=by kernel_rfl
theorem Zq (m:Nat) (hm:m<64):bu Tryz.prog eB 292 [.d (.val (.int .u64 m))] [] (.int (tzD m)) []:=by
 have h:=List.all_eq_true.1 Zr m (List.mem_range.2 hm)
 unfold aa6 at h
 split at h
 ·rename_i r o hr
  rw [Bool.and_eq_true] at h
  obtain ⟨h1,h2⟩:=h
  have h3:=nX _ _ h1
  have h4:=tg h2
  cases h3
  cases h4
  exact kV (l:=[]) (fun _ h=>by cases h) hr
 ·cases h
theorem Ht (j:bQ) (i:Nat) (hj:0≤j.nodes∧j.nodes<64):bu Tryz.prog eB 249 [Ed j,.int i] [] (.int (if tzD j.nodes=i then 1 else 0)) []:=by
 obtain ⟨m,hm⟩:∃ m:Nat,j.nodes=m:=⟨j.nodes.toNat,by omega⟩
 have hT:=Zq m (by omega)
 have hw:IntKind.u64.wrap (m:Int)=m:=by
  show (m:Int) % 18446744073709551616=m
  omega
 rw [hm]
 refine bz Tryz.func249 (by decide) TG rfl rfl ?_
 simp only [Xv,go_sem]
 simp only [hm,hw,go_sem]
 refine av (hT) rfl rfl rfl rfl ?_; simp only [go_sem]
 by_cases h:tzD (m:Int)=(i:Int)
 ·simp only [h,go_sem]
 ·simp only [beq_eq_false_iff_ne.2 h,h,go_sem]
def lY (s:aa) (had:Int→Int) (i:Nat):Option dL:=
 if (ec s i).up=false then none else
 if (ec s i).aQ=0 then some ⟨i,if (ec s i).bG=true then 5 else 1,0,0,0,0,if (ec s i).bG=true then gh s else 0,0,0,0,0⟩ else
 if (dR s ((ec s i).aQ-1).toNat).phase=2 then some ⟨i,3,0,0,(ec s i).aQ,(dR s ((ec s i).aQ-1).toNat).inc,if (ec s i).bG=true then gh s else 0,(dR s ((ec s i).aQ-1).toNat).epoch,0,0,had (ec s i).aQ⟩ else
 if (dR s ((ec s i).aQ-1).toNat).phase=3 then some ⟨i,4,0,0,(ec s i).aQ,(dR s ((ec s i).aQ-1).toNat).inc,if (ec s i).bG=true then gh s else 0,0,0,if tzD (dR s ((ec s i).aQ-1).toNat).nodes=i then 1 else 0,0⟩ else
 if (dR s ((ec s i).aQ-1).toNat).phase=1 then some ⟨i,2,0,0,(ec s i).aQ,(dR s ((ec s i).aQ-1).toNat).inc,(ec s i).version,0,0,0,0⟩ else
 some ⟨i,2,0,0,(ec s i).aQ,(dR s ((ec s i).aQ-1).toNat).inc,if (ec s i).bG=true then gh s else 0,0,0,0,0⟩
def iD (q:Option dL):LV:=.dM [yt (q.getD jg),.bool q.isSome]
theorem L5 (c:aF) (s:aa) (h:bU c s) (had:Int→Int) (i:Nat) (hi:i<s.nodes.length) (room term:Int) (sh:List lz) (wr:Int) (hh:∀ j:Int,1≤j∧j≤s.jobs.length→bu Tryz.prog eB 248 [aX s,.int j,.ptr 0 0] (iu room term sh wr) (.int (had j)) (iu room term sh wr)) :
  bu Tryz.prog eB 201 [aX s,.int i,.ptr 0 0] (iu room term sh wr) (iD (lY s had i)) (iu room term sh wr):=by
 have hg:=aM (f:=bZ) ai hi
 have hM:=jU (G:=eB) s
 have Qw:=h.aQ i hi
 have hmv:=h.bG i hi
 have hlj:=h.jobs
 unfold lY iD
 have hN:ec s i=s.nodes.getD i ai:=rfl
 rw [hN] at Qw hmv ⊢
 generalize s.nodes.getD i ai=n at *
 obtain ⟨up,co,mo,ve,jo⟩:=n
 dsimp only at Qw hmv ⊢
 simp only [bZ] at hg
 have c1:i<s.nodes.length:=hi
 cases up with
 | false=>
   simp only [if_true]
   refine aT Tryz.func201 (by decide) pg rfl rfl (gy _ _ _ _ _) rfl ?_
   simp only [iu,xR,go_sem]
   simp only [decide_eq_false (show ¬ ((i:Nat):Int)<0 by omega),decide_eq_false (show ¬ ((i:Nat):Int)≥(s.nodes.length:Nat) by omega),hg,hi,Option.getD_none,Option.isSome_none,Option.getD_some,Option.isSome_some,go_sem]
 | true=>
 simp only [Bool.true_eq_false,if_false]
 by_cases hj0:jo=0
 ·subst hj0
  simp only [if_true]
  cases mo with
  | true=>
    refine aT Tryz.func201 (by decide) pg rfl rfl (gy _ _ _ _ _) rfl ?_
    simp only [iu,xR,go_sem]
    simp only [decide_eq_false (show ¬ ((i:Nat):Int)<0 by omega),decide_eq_false (show ¬ ((i:Nat):Int)≥(s.nodes.length:Nat) by omega),hg,hi,Option.getD_none,Option.isSome_none,Option.getD_some,Option.isSome_some,go_sem]
    refine av (hM) rfl rfl rfl rfl ?_; simp only [go_sem]
  | false=>
    refine aT Tryz.func201 (by decide) pg rfl rfl (gy _ _ _ _ _) rfl ?_
    simp only [iu,xR,go_sem]
    simp only [decide_eq_false (show ¬ ((i:Nat):Int)<0 by omega),decide_eq_false (show ¬ ((i:Nat):Int)≥(s.nodes.length:Nat) by omega),hg,hi,Option.getD_none,Option.isSome_none,Option.getD_some,Option.isSome_some,go_sem]
 have hmo:mo=false:=by
  cases mo with
  | false=>rfl
  | true=>exact absurd (hmv rfl).2.2 hj0
 subst hmo
 obtain ⟨k,hk⟩:∃ k:Nat,jo=k+1:=⟨(jo-1).toNat,by omega⟩
 have hkl:k<s.jobs.length:=by omega
 have NR:=aM (f:=dJ) az hkl
 have hJ:dR s (jo-1).toNat=s.jobs.getD k az:=by unfold dR; rw [show (jo-1).toNat=k by omega]
 have KO:=K9 h hkl
 have acj:=hh jo (by omega)
 rw [hJ]
 unfold dR at KO
 generalize s.jobs.getD k az=j at *
 simp only [dJ] at NR
 have hw:IntKind.i64.wrap (jo-1)=k:=by rw [aO (by omega) (by omega)]; omega
 have hwr:=Ht j i KO
 simp only [hj0,if_false]
 have hjb:(jo==0)=false:=beq_eq_false_iff_ne.2 hj0
 simp only [iu,List.cons_append,List.nil_append] at acj
 by_cases p2:j.phase=2
 ·have b2:(j.phase==2)=true:=beq_iff_eq.2 p2
  rw [if_pos p2]
  refine aT Tryz.func201 (by decide) pg rfl rfl (gy _ _ _ _ _) rfl ?_
  simp only [iu,xR,go_sem]
  simp only [decide_eq_false (show ¬ ((i:Nat):Int)<0 by omega),decide_eq_false (show ¬ ((i:Nat):Int)≥(s.nodes.length:Nat) by omega),hg,hi,Option.getD_none,Option.isSome_none,Option.getD_some,Option.isSome_some,go_sem]
  simp only [hjb,hw,hkl,NR,Option.getD_none,Option.isSome_none,Option.getD_some,Option.isSome_some,go_sem]
  refine ay rfl ?_
  simp only [b2,Option.getD_none,Option.isSome_none,Option.getD_some,Option.isSome_some,go_sem]
  refine eA [0] (acj) rfl ?_ (by decide) ?_ ?_ ?_ <;> simp only [ag,ah,go_sem,aU,bE,aK,aP]
  refine ay rfl ?_
  simp only [Option.getD_none,Option.isSome_none,Option.getD_some,Option.isSome_some,go_sem]
 have b2:(j.phase==2)=false:=beq_eq_false_iff_ne.2 p2
 rw [if_neg p2]
 by_cases p3:j.phase=3
 ·have b3:(j.phase==3)=true:=beq_iff_eq.2 p3
  rw [if_pos p3]
  refine aT Tryz.func201 (by decide) pg rfl rfl (gy _ _ _ _ _) rfl ?_
  simp only [iu,xR,go_sem]
  simp only [decide_eq_false (show ¬ ((i:Nat):Int)<0 by omega),decide_eq_false (show ¬ ((i:Nat):Int)≥(s.nodes.length:Nat) by omega),hg,hi,Option.getD_none,Option.isSome_none,Option.getD_some,Option.isSome_some,go_sem]
  simp only [hjb,hw,hkl,NR,Option.getD_none,Option.isSome_none,Option.getD_some,Option.isSome_some,go_sem]
  refine ay rfl ?_
  simp only [b2,b3,Option.getD_none,Option.isSome_none,Option.getD_some,Option.isSome_some,go_sem]
  refine av (hwr) rfl rfl rfl rfl ?_; simp only [go_sem]
 have b3:(j.phase==3)=false:=beq_eq_false_iff_ne.2 p3
 rw [if_neg p3]
 by_cases p1:j.phase=1
 ·have b1:(j.phase==1)=true:=beq_iff_eq.2 p1
  rw [if_pos p1]
  refine aT Tryz.func201 (by decide) pg rfl rfl (gy _ _ _ _ _) rfl ?_
  simp only [iu,xR,go_sem]
  simp only [decide_eq_false (show ¬ ((i:Nat):Int)<0 by omega),decide_eq_false (show ¬ ((i:Nat):Int)≥(s.nodes.length:Nat) by omega),hg,hi,Option.getD_none,Option.isSome_none,Option.getD_some,Option.isSome_some,go_sem]
  simp only [hjb,hw,hkl,NR,Option.getD_none,Option.isSome_none,Option.getD_some,Option.isSome_some,go_sem]
  refine ay rfl ?_
  simp only [b1,b2,b3,Option.getD_none,Option.isSome_none,Option.getD_some,Option.isSome_some,go_sem]
 have b1:(j.phase==1)=false:=beq_eq_false_iff_ne.2 p1
 rw [if_neg p1]
 refine aT Tryz.func201 (by decide) pg rfl rfl (gy _ _ _ _ _) rfl ?_
 simp only [iu,xR,go_sem]
 simp only [decide_eq_false (show ¬ ((i:Nat):Int)<0 by omega),decide_eq_false (show ¬ ((i:Nat):Int)≥(s.nodes.length:Nat) by omega),hg,hi,Option.getD_none,Option.isSome_none,Option.getD_some,Option.isSome_some,go_sem]
 simp only [hjb,hw,hkl,NR,Option.getD_none,Option.isSome_none,Option.getD_some,Option.isSome_some,go_sem]
 refine ay rfl ?_
 simp only [b1,b2,b3,Option.getD_none,Option.isSome_none,Option.getD_some,Option.isSome_some,go_sem]
end Dv
namespace Dv
open Go Go.Proofs
variable {G:Nat→Option (List DV)}
def W9:=qx Tryz.f290
theorem Tk:aj Tryz.prog Tryz.f290=some W9:=by kernel_rfl
def W8:=qx Tryz.f291
theorem Tj:aj Tryz.prog Tryz.f291=some W8:=by kernel_rfl
def Xw:=qx Tryz.f248
theorem TH:aj Tryz.prog Tryz.f248=some Xw:=by kernel_rfl
def Gm (L:List LV) (ep:Int) (i:Nat):St:=⟨[(2,.int ep),(6,.d (.val (.slice none 0 0))),(7,.bool false),(28,.agg [.int 0,.d (.val (.slice none 0 0)),.int 0,.d (.val (.slice none 0 0))]),(29,.int i)],[some (.box 190 L)]⟩
theorem QU (room term:Int) (sh:List lz) (wr:Int) (k:Nat) (hk:1≤k∧k≤24) (hs:sh.length=25) (hz:sh.getD k iB=iB) (ep:Int) (he:1≤ep):bu Tryz.prog G 290 [.ptr 0 0,.int k,.int ep] (iu room term sh wr) (.dM [.d (.val (.slice none 0 0)),.bool false]) (iu room term sh wr):=by
 have hj:=oH (G:=G) room term sh wr k hk
 obtain ⟨A,B,hA,hB,hC⟩:=B7 room term sh wr k (by omega)
 have hC:=hC _ hz
 have Vn:=gy 1 room term sh wr
 simp only [iu,List.cons_append,List.nil_append] at hj
 refine aT Tryz.func290 (by decide) Tk rfl rfl Vn rfl ?_
 simp only [iu,W9,go_sem]
 refine fT [0] (hj) rfl ?_ (by decide) ?_ ?_ ?_ <;> simp only [ag,ah,go_sem,aU,bE,aK,aP]
 have hI2:eE 1 (LV.int room::LV.int term::(sh.flatMap sy++[LV.int wr]))=true:=by simp [aK,aP,eE,eN,LV.int]
 simp only [LV.int,iB,kL] at hC hI2
 rw [hC] at hI2 ⊢
 generalize hm:2+4*k=m at *
 have g0:=abb A B (LV.d (.val (.int .i64 0))) (LV.d (.val (.slice none 0 0))) (LV.d (.val (.int .i64 0))) (LV.d (.val (.slice none 0 0))) m hA
 have g2:((A++LV.d (.val (.int .i64 0))::LV.d (.val (.slice none 0 0))::LV.d (.val (.int .i64 0))::LV.d (.val (.slice none 0 0))::B).drop m).take 2=[LV.d (.val (.int .i64 0)),LV.d (.val (.slice none 0 0))]:=by subst hA; simp
 have gl:∀ a b c d:LV,(A++a::b::c::d::B).length=m+4+B.length:=by intros; rw [List.length_append,hA]; simp; omega
 have c1:m+2≤m+4+B.length:=by omega
 have c2:m+4≤m+4+B.length:=by omega
 clear hB hC Vn
 have hl:=gl (LV.d (.val (.int .i64 0))) (LV.d (.val (.slice none 0 0))) (LV.d (.val (.int .i64 0))) (LV.d (.val (.slice none 0 0)))
 generalize A++LV.d (.val (.int .i64 0))::LV.d (.val (.slice none 0 0))::LV.d (.val (.int .i64 0))::LV.d (.val (.slice none 0 0))::B=L at *
 simp only [decide_eq_false (show ¬ ep<1 by omega),g0,g2,hl,c1,c2,go_sem]
 have he0:((0:Int)==ep)=false:=beq_eq_false_iff_ne.2 (by omega)
 refine aW [2,6,7,28,29] [] (fun i:Nat=>i≤2) (fun i=>2-i) (Gm L ep) 0 ?_ (Nat.zero_le _) (fun i hi=>?_)
 ·simp only [Gm,Int.natCast_zero,go_sem]
 simp only [Gm,go_sem]
 rcases (show i=0∨i=1∨i=2 by omega) with rfl | rfl | rfl
 ·simp only [Int.natCast_zero,he0,go_sem]
  refine bh 1 ?_ ?_ (by decide) (by decide)
  ·simp only [hI2,go_sem]
  ·simp only [Gm,show IntKind.i64.wrap 1=1 from by decide,Int.natCast_one,go_sem]
 ·simp only [Int.natCast_one,he0,go_sem]
  refine bh 2 ?_ ?_ (by decide) (by decide)
  ·simp only [hI2,go_sem]
  ·simp only [Gm,show IntKind.i64.wrap (1+1)=2 from by decide,show IntKind.i64.wrap 2=2 from by decide,show ((2:Nat):Int)=2 from rfl,go_sem]
 ·simp only [show ((2:Nat):Int)=2 from rfl,go_sem]
theorem Es:bu Tryz.prog G 291 [.d (.val (.slice none 0 0)),.int 0] [] (.dM [.d (.val (.string ⟨#[]⟩)),.int 0,.bool false]) []:=by
 have hn:=jY (G:=G) [] (fun _ h=>by cases h) (by simp) 0 (by omega) _ rfl
 simp only [aq,aB,List.map_nil,gj,f_,kj,List.drop_nil,Option.map_none] at hn
 simp only [show zM none=0 from rfl,show zN none=0 from rfl,Option.isSome_none,Int.natCast_zero] at hn
 refine bz Tryz.func291 (by decide) Tj rfl rfl ?_
 simp only [W8,go_sem]
 refine y2 [] (hn) rfl (by simp [ag,ah,bK,aC,go_sem]) (by simp [aC]) rfl rfl ?_; simp only [go_sem]
theorem QN (s:aa) (hl:s.jobs.length≤24) (room term:Int) (sh:List lz) (wr:Int) (hs:sh.length=25) (hz:∀ k,k<25→sh.getD k iB=iB) (he:∀ k,k<s.jobs.length→0≤(dR s k).epoch) (j:Int) (hj:1≤j∧j≤s.jobs.length):bu Tryz.prog G 248 [aX s,.int j,.ptr 0 0] (iu room term sh wr) (.int 0) (iu room term sh wr):=by
 obtain ⟨k,hk⟩:∃ k:Nat,j=k+1:=⟨(j-1).toNat,by omega⟩
 have hkl:k<s.jobs.length:=by omega
 have NR:=aM (f:=dJ) az hkl
 have hep:=he k hkl
 unfold dR at hep
 generalize s.jobs.getD k az=jb at *
 simp only [dJ] at NR
 have hw:IntKind.i64.wrap (j-1)=k:=by rw [aO (by omega) (by omega)]; omega
 have hgt:=Es (G:=G)
 refine aT Tryz.func248 (by decide) TH rfl rfl (gy _ _ _ _ _) rfl ?_
 simp only [iu,Xw,go_sem]
 simp only [decide_eq_false (show ¬ j<1 by omega),decide_eq_false (show ¬ j>(s.jobs.length:Nat) by omega),hw,hkl,NR,go_sem]
 by_cases h0:jb.epoch=0
 ·simp only [show (jb.epoch==0)=true from beq_iff_eq.2 h0,go_sem]
 simp only [show (jb.epoch==0)=false from beq_eq_false_iff_ne.2 h0,hw,hkl,NR,go_sem]
 have mh:=QU (G:=G) room term sh wr (k+1) (by omega) hs (hz (k+1) (by omega)) jb.epoch (by omega)
 rw [show ((k+1:Nat):Int)=j by omega] at mh
 simp only [iu,List.cons_append,List.nil_append] at mh
 refine fT [0] (mh) rfl ?_ (by decide) ?_ ?_ ?_ <;> simp only [ag,ah,go_sem,aU,bE,aK,aP]
 refine av (hgt) rfl rfl rfl rfl ?_; simp only [go_sem]
end Dv
namespace Dv
open Go Go.Proofs
variable {G:Nat→Option (List DV)}
def YF:=qx Tryz.f117
theorem UX:aj Tryz.prog Tryz.f117=some YF:=by kernel_rfl
def aN.JU (x:aN) (k:Nat):List Bool:=(List.range k).map fun i=>(ec x.s i).up
def aN.CP (x:aN) (k:Nat):List Int:=(x.lines.take k).map fun l=>l.heard
def aN.pY (x:aN) (k:Nat):List dL:=(x.lines.take k).map fun l=>l.report
def aN.R4 (x:aN) (now:Int):Int:=mQ x.c.cc now (x.JU x.lines.length) (x.CP x.lines.length) 0
def aN.jH (x:aN) (now:Int) (q p:Option cB):Option cB:=if 0≤x.R4 now then some ⟨7,x.R4 now,0,0,0,0,0⟩ else match q with
 | some o=>some o
 | none=>p
def GS (l:List Bool):List (List DV):=l.map fun b=>[bl b]
def F8 (l:List Int):List (List DV):=l.map fun h=>[i64 h]
def SD (x:aN) (now:Int) (k:Nat):St:=⟨[(0,.ptr 0 0),(1,.int now),(4,.ptr 8 0),(5,.bool false),(6,.sl 9 k 1 0 k),(7,.sl 10 k 1 0 k),(8,.sl 11 k 11 0 k),(17,.sl 7 x.lines.length 26 0 x.lines.length),(18,.int x.lines.length),(19,.int k)],(bT x).map some++[some (.box 37 [.int 0,.int 0,.int 0,.int 0,.int 0,.int 0,.int 0]),some (.dat 4 1 (GS (x.JU k))),some (.dat 3 1 (F8 (x.CP k))),some (.dat 87 11 ((x.pY k).map nL))]⟩
theorem NX (x:aN) (k:Nat):x.JU (k+1)=x.JU k++[(ec x.s k).up]:=by unfold aN.JU; rw [List.range_succ,List.map_append]; rfl
theorem qp {α:Type} {l:List α} {i:Nat} (z:α) (h:i<l.length):l.take (i+1)=l.take i++[l.getD i z]:=by
 rw [List.take_add_one]; simp [List.getD,h]
theorem Qi (x:aN) {k:Nat} (h:k<x.lines.length):x.CP (k+1)=x.CP k++[(x.lines.getD k fE).heard]:=by unfold aN.CP; rw [qp fE h,List.map_append]; rfl
theorem LO (x:aN) {k:Nat} (h:k<x.lines.length):x.pY (k+1)=x.pY k++[(x.lines.getD k fE).report]:=by unfold aN.pY; rw [qp fE h,List.map_append]; rfl
theorem JT (x:aN) (k:Nat):(x.JU k).length=k:=by simp [aN.JU]
theorem KL (x:aN) {k:Nat} (h:k≤x.lines.length):(x.CP k).length=k:=by simp [aN.CP]; omega
theorem FA (x:aN) {k:Nat} (h:k≤x.lines.length):(x.pY k).length=k:=by simp [aN.pY]; omega
theorem D7 (x:aN) (h:BW x) (now:Int) (El:0≤now∧now≤1000000) (hT:∀ l∈x.lines,0≤l.heard∧l.heard≤1000000) (q p:Option cB) (hfn:bu Tryz.prog G 199 [aX x.s,jI (x.pY x.lines.length),.int now] [] (nY q) []) (hp:bu Tryz.prog G 200 [fN x.c,aX x.s,.int now] [] (nY p) []) :
  bu Tryz.prog G 117 [.ptr 0 0,.int now] (bT x) (nY (x.jH now q p)) (bT x):=by
 have wI:=h.lines
 have ET:=h.right.len
 refine aT Tryz.func117 (by decide) UX rfl rfl (ck _ (Nat.le_refl 8) _) rfl ?_
 simp only [bT,dS,aR,YF,go_sem]
 refine aW [0,1,4,5,6,7,8,17,18,19] [.t 6 4 1,.t 7 3 1,.t 8 87 11] (fun k:Nat=>k≤x.lines.length) (fun k=>x.lines.length-k) (SD x now) 0 ?_ (Nat.zero_le _) (fun k hk=>?_)
 ·simp only [SD,bT,dS,aR,aN.JU,aN.CP,aN.pY,GS,F8,List.range_zero,Int.natCast_zero,go_sem]
 simp only [SD,bT,dS,aR,go_sem]
 by_cases hlt:k<x.lines.length
 ·have hg:=aM (f:=mU) fE hlt
  have wL:=aM (f:=bZ) ai (show k<x.s.nodes.length by omega)
  simp only [decide_eq_true (show ((k:Nat):Int)<((x.lines.length:Nat):Int) by omega),go_sem]
  have hu:=NX x k
  have hh:=Qi x hlt
  have hr:=LO x hlt
  have lu:=JT x k
  have lh:=KL x hk
  have lr:=FA x hk
  have hN:ec x.s k=x.s.nodes.getD k ai:=rfl
  rw [hN] at hu
  have hkn:k<x.s.nodes.length:=by omega
  generalize x.s.nodes.getD k ai=n at *
  generalize x.lines.getD k fE=l at *
  obtain ⟨up,co,mo,ve,jo⟩:=n
  obtain ⟨lg,lhs,⟨q0,q1,q2,q3,q4,q5,q6,q7,q8,q9,q10⟩,ls,le,⟨r0,r1,r2,r3,r4,r5,r6,r7,r8,r9,r10⟩⟩:=l
  simp only [mU,nL,List.cons_append,List.nil_append] at hg
  simp only [bZ] at wL
  dsimp only at hu hh hr
  generalize hub:x.JU k=ub at *
  generalize hhb:x.CP k=hb at *
  generalize hrb:x.pY k=rb at *
  have c1:(k+1)*88≤70368744177664:=by omega
  have c2:(k+1)*8≤70368744177664:=by omega
  have c3:(k+1)*1≤70368744177664:=by omega
  simp only [hlt,hg,GS,F8,List.length_append,lu,lh,lr,c1,c2,c3,hkn,wL,go_sem]
  refine ay rfl ?_
  simp only [go_sem]
  refine bh (k+1) ?_ ?_ (show k+1≤x.lines.length by omega) (show x.lines.length-(k+1)<x.lines.length-k by omega)
  ·simp only [aK,aP,go_sem]
  ·simp only [aH (show k<9223372036854775807 by omega),SD,bT,dS,aR,hu,hh,hr,GS,F8,List.map_append,go_sem]
 obtain rfl:k=x.lines.length:=by omega
 simp only [decide_eq_false (show ¬ ((x.lines.length:Nat):Int)<((x.lines.length:Nat):Int) by omega),go_sem]
 have hup:(x.JU x.lines.length).length=x.lines.length:=JT x _
 have hhp:=KL x (Nat.le_refl x.lines.length)
 have hrp:=FA x (Nat.le_refl x.lines.length)
 have aat:0≤x.c.cc∧x.c.cc≤1000000:=by
  have hm:=h.right.vE
  unfold gH at hm
  simp only [Bool.and_eq_true] at hm
  have:=bp hm.1.1.1.1.2
  omega
 have abO:=HJ (G:=G) (x.JU x.lines.length) (x.CP x.lines.length) x.c.cc now (by omega) (by omega) aat (fun v hv=>by
  unfold aN.CP at hv
  rw [List.mem_map] at hv
  obtain ⟨l,hl,rfl⟩:=hv
  exact hT l (List.mem_of_mem_take hl))
 unfold aN.jH
 have hsi:x.R4 now=mQ x.c.cc now (x.JU x.lines.length) (x.CP x.lines.length) 0:=rfl
 rw [← hsi] at abO
 generalize x.R4 now=si at *
 have htu:List.take x.lines.length (List.map (fun b=>[DV.val (Value.bool b)]) (x.JU x.lines.length))=List.map (fun b=>[DV.val (Value.bool b)]) (x.JU x.lines.length):=List.take_of_length_le (by rw [List.length_map]; omega)
 have NQ:List.take x.lines.length (List.map (fun h=>[DV.val (Value.int IntKind.i64 h)]) (x.CP x.lines.length))=List.map (fun h=>[DV.val (Value.int IntKind.i64 h)]) (x.CP x.lines.length):=List.take_of_length_le (by rw [List.length_map]; omega)
 have htr:List.take x.lines.length (List.map nL (x.pY x.lines.length))=List.map nL (x.pY x.lines.length):=List.take_of_length_le (by rw [List.length_map]; omega)
 refine y2 [9,10] (abO) rfl (by simp [ag,ah,bK,aC,GS,F8,htu,NQ,hup,hhp,Nat.le_refl,and_self,go_sem]) (by simp [aC]) rfl rfl ?_; simp only [go_sem]
 by_cases hs0:0≤si
 ·simp only [decide_eq_true (show si≥0 from hs0),hs0,nY,Option.getD_some,Option.isSome_some,go_sem]
 simp only [decide_eq_false (show ¬ si≥0 from hs0),hs0,go_sem]
 simp only [jI] at hfn
 refine y2 [11] (hfn) rfl (by simp [ag,ah,bK,aC,jI,htr,hrp,Nat.le_refl,and_self,go_sem]) (by simp [aC]) rfl rfl ?_; simp only [go_sem]
 cases q with
 | some o=>simp only [nY,Option.getD_some,Option.isSome_some,go_sem]
 | none=>
   simp only [nY,Option.getD_none,Option.isSome_none,go_sem]
   refine bf (hp) rfl rfl rfl rfl ?_; simp only [go_sem]
   cases p with
   | none=>
     simp only [nY,Option.getD_none,Option.isSome_none,go_sem]
     refine ay rfl ?_
     simp only [go_sem]
   | some o=>
     simp only [nY,Option.getD_some,Option.isSome_some,go_sem]
     refine ay rfl ?_
     simp only [go_sem]
end Dv
namespace Dv
open Go Go.Proofs
def CI:Nat×C×List RV:=(112,
(.seq (.pZ [qo 6 (.new 87 [q0,q0,q0,q0,q0,q0,q0,q0,q0,q0,q0]),
 qo 7 (.mv qf)])
 (.seq (.pZ [qm 11 0,
 qo 12 (.kX (.t 11)),
 qo 13 (.fS 18 (.t 12)),
 qo 14 (.ld1 (.t 13)),
 qm 15 1,
 qo 16 (.NP 26 (.t 14) (.t 15)),
 qm 8 16])
 (.seq (.lS [qm 18 0,
 qd 19 (.kX (.t 18)) [0],
 qd 20 (.fS 12 (.t 19)) [1,0],
 qd 21 (.Ir 6 (.t 20)) [2,1,0],
 qm 22 1,
 qm 23 0,
 qd 24 (.kX (.t 23)) [5],
 qd 25 (.fS 11 (.t 24)) [6,5],
 qd 26 (.ld1 (.t 25)) [7,6,5],
 qd 27 (.call (.f 201) [(.t 21),(.t 22),(.t 26)]) [3,2,1,0,4,8,7,6,5],
 qd 17 (.mv (.t 27)) [9,3,2,1,0,4,8,7,6,5],
 qd 28 (.ext (.t 17) 0) [10,9,3,2,1,0,4,8,7,6,5],
 qd 29 (.ext (.t 17) 1) [10,9,3,2,1,0,4,8,7,6,5],
 qo 9 (.new 87 [q0,q0,q0,q0,q0,q0,q0,q0,q0,q0,q0]),
 ql (.st 11 (.t 9) (.t 28)) [13,11,10,9,3,2,1,0,4,8,7,6,5],
 qd 10 (.mv (.t 29)) [12,10,9,3,2,1,0,4,8,7,6,5,14,13,11]])
 (.seq (.block 0 (.seq (.pZ [qm 31 10,
 qo 32 (.not (.t 31)),
 qm 30 32])
 (.cond (.t 30) (.seq (.pZ [qm 33 8,
 qo 34 (.kX (.t 33)),
 qo 35 (.fS 1 (.t 34)),
 qn (.st 1 (.t 35) qf)])
 (.seq (.pZ [qo 36 (.build [q0,q0,q0,q0,q0,q0,q0,q0,q0,q0,q0] []),
 qn (.st 11 (.t 6) (.t 36)),
 qo 7 (.mv qf)])
 .ret))
 (.seq (.lS [qm 38 8,
 qd 39 (.kX (.t 38)) [0],
 qd 40 (.fS 1 (.t 39)) [1,0],
 qd 41 (.ld1 (.t 40)) [2,1,0],
 qd 42 (.not (.t 41)) [3,2,1,0],
 qd 43 (.mv (.t 42)) [4,3,2,1,0],
 qe 44 (.Ir 11 (.t 9)) 43 false [5,4,3,2,1,0],
 qe 45 (.mv (.t 8)) 43 false [5,4,3,2,1,0],
 qe 46 (.kX (.t 45)) 43 false [7,5,4,3,2,1,0],
 qe 47 (.fS 2 (.t 46)) 43 false [8,7,5,4,3,2,1,0],
 qe 48 (.Ir 11 (.t 47)) 43 false [9,8,7,5,4,3,2,1,0],
 qe 49 (.call (.f 202) [(.t 44),(.t 48)]) 43 false [6,5,4,3,2,1,0,10,9,8,7],
 qe 50 (.not (.t 49)) 43 false [11,6,5,4,3,2,1,0,10,9,8,7],
 qd 51 (.pick (.t 43) qt (.t 50)) [5,4,3,2,1,0,12,11,6,10,9,8,7],
 qd 37 (.mv (.t 51)) [13,5,4,3,2,1,0,12,11,6,10,9,8,7]])
 (.cond (.t 37) (.seq (.lS [qm 52 8,
 qm 53 8,
 qm 54 8,
 qo 55 (.Ir 11 (.t 9)),
 qo 56 (.build [q0,q0,q0,q0,q0,q0,q0,q0,q0,q0,q0] []),
 qd 57 (.kX (.t 52)) [0],
 qd 58 (.fS 1 (.t 57)) [5,0],
 ql (.st 1 (.t 58) qt) [6,5,0],
 qd 59 (.kX (.t 53)) [1,0,3,5,6,7],
 qd 60 (.fS 2 (.t 59)) [8,1,0,3,5,6,7],
 ql (.st 11 (.t 60) (.t 55)) [9,8,1,0,3,5,6,7],
 qd 61 (.kX (.t 54)) [2,0,1,3,4,5,6,7,8,9,10],
 qd 62 (.fS 15 (.t 61)) [11,2,0,1,3,4,5,6,7,8,9,10],
 ql (.st 11 (.t 62) (.t 56)) [12,11,2,0,1,3,4,5,6,7,8,9,10]])
 (.pZ [qm 63 8,
 qo 64 (.kX (.t 63)),
 qo 65 (.fS 0 (.t 64)),
 qo 66 (.ld1 (.t 65)),
 qo 67 (.bin .add (.t 66) (qk 1)),
 qo 68 (.kX (.t 63)),
 qo 69 (.fS 0 (.t 68)),
 qn (.st 1 (.t 69) (.t 67))]))
 (.seq (.lS [qm 71 2,
 qm 72 8,
 qd 73 (.kX (.t 72)) [1],
 qd 74 (.fS 13 (.t 73)) [2,1],
 qd 75 (.ld1 (.t 74)) [3,2,1],
 qm 76 0,
 qd 77 (.kX (.t 76)) [5],
 qd 78 (.fS 0 (.t 77)) [6,5],
 qd 79 (.fS 5 (.t 78)) [7,6,5],
 qd 80 (.ld1 (.t 79)) [8,7,6,5],
 qd 81 (.bin .add (.t 75) (.t 80)) [4,3,2,1,9,8,7,6,5],
 qd 82 (.bin .lss (.t 71) (.t 81)) [0,10,4,3,2,1,9,8,7,6,5],
 qd 70 (.mv (.t 82)) [11,0,10,4,3,2,1,9,8,7,6,5]])
 (.cond (.t 70) (.seq (.pZ [qo 83 (.build [q0,q0,q0,q0,q0,q0,q0,q0,q0,q0,q0] []),
 qn (.st 11 (.t 6) (.t 83)),
 qo 7 (.mv qf)])
 .ret)
 .skip)))))))
 (.seq (.pZ [qm 84 8,
 qm 85 2,
 qo 86 (.kX (.t 84)),
 qo 87 (.fS 13 (.t 86)),
 qn (.st 1 (.t 87) (.t 85))])
 (.seq (.lS [qm 88 0,
 qd 89 (.kX (.t 88)) [0],
 qd 90 (.fS 12 (.t 89)) [1,0],
 qd 91 (.fS 5 (.t 90)) [2,1,0],
 qd 92 (.ld1 (.t 91)) [3,2,1,0],
 qm 93 8,
 qd 94 (.kX (.t 93)) [5],
 qd 95 (.fS 0 (.t 94)) [6,5],
 qd 96 (.ld1 (.t 95)) [7,6,5],
 qm 97 8,
 qd 98 (.kX (.t 97)) [9],
 qd 99 (.fS 14 (.t 98)) [10,9],
 qd 100 (.ld1 (.t 99)) [11,10,9],
 qm 101 0,
 qd 102 (.kX (.t 101)) [13],
 qd 103 (.fS 0 (.t 102)) [14,13],
 qd 104 (.fS 4 (.t 103)) [15,14,13],
 qd 105 (.ld1 (.t 104)) [16,15,14,13],
 qd 106 (.bin .add (.t 100) (.t 105)) [12,11,10,9,17,16,15,14,13],
 qd 107 (.min (qk 1000000) (.t 106)) [18,12,11,10,9,17,16,15,14,13],
 qd 108 (.fS 2 (.t 9)) [0,1,2,3,4],
 ql (.st 1 (.t 108) (.t 92)) [20,0,1,2,3,4],
 qd 109 (.fS 3 (.t 9)) [0,1,2,3,4,5,6,7,8,20,21],
 ql (.st 1 (.t 109) (.t 96)) [22,0,1,2,3,4,5,6,7,8,20,21],
 qd 110 (.fS 8 (.t 9)) [0,1,2,3,4,5,6,7,8,9,10,11,12,13,14,15,16,17,18,19,20,21,22,23],
 ql (.st 1 (.t 110) (.t 107)) [24,0,1,2,3,4,5,6,7,8,9,10,11,12,13,14,15,16,17,18,19,20,21,22,23]])
 (.seq (.pZ [qo 111 (.Ir 11 (.t 9)),
 qn (.st 11 (.t 6) (.t 111)),
 qo 7 (.mv qt)])
 .ret))))))),
[(.cn 6 11),(.t 7)])
theorem uZ:aj Tryz.prog Tryz.f118=some CI:=by kernel_rfl
def lN (x:aN) (q:Option dL) (now:Int) (l:ny):ny×Option dL:=match q with
 | none=>({ l with has:=false },none)
 | some m=>
   if l.has=false∨EL m l.order=false then ({ l with has:=true,order:=m,report:=oZ,gen:=IntKind.i64.wrap (l.gen+1),sent:=now },some { m with term:=x.s.term,gen:=IntKind.i64.wrap (l.gen+1),til:=if IntKind.i64.wrap (l.heard+x.c.cc)<1000000 then IntKind.i64.wrap (l.heard+x.c.cc) else 1000000 })
   else if now<IntKind.i64.wrap (l.sent+x.c.eG) then (l,none)
   else ({ l with sent:=now },some { m with term:=x.s.term,gen:=l.gen,til:=if IntKind.i64.wrap (l.heard+x.c.cc)<1000000 then IntKind.i64.wrap (l.heard+x.c.cc) else 1000000 })
theorem Om {α:Type} {l:List α} {i:Nat} {v:α} (h:l[i]? = some v):l.set i v=l:=by
 obtain ⟨h1,h2⟩:=List.getElem?_eq_some_iff.1 h
 subst h2
 exact List.set_getElem_self h1
theorem Dx (x:aN) (now:Int) (i:Nat) (hi:i<x.lines.length) (q:Option dL) (wH:bu Tryz.prog eB 201 [aX x.s,.int i,.ptr 0 0] (iu x.room x.term x.sh x.wr) (iD q) (iu x.room x.term x.sh x.wr)) :
  bu Tryz.prog eB 118 [.ptr 0 0,.int i,.int now] (bT x) (iD (lN x q now (x.lines.getD i fE)).2) (bT { x with lines:=x.lines.set i (lN x q now (x.lines.getD i fE)).1 }):=by
 have hg:=aM (f:=mU) fE hi
 have wK:∀ v,((x.lines.map mU).set i v)[i]? = some v:=fun v=>List.getElem?_set_self (by simpa using hi)
 simp only [iu,List.cons_append,List.nil_append] at wH
 generalize x.lines.getD i fE=l at *
 obtain ⟨lg,lhs,⟨q0,q1,q2,q3,q4,q5,q6,q7,q8,q9,q10⟩,ls,le,⟨r0,r1,r2,r3,r4,r5,r6,r7,r8,r9,r10⟩⟩:=l
 simp only [mU,nL,List.cons_append,List.nil_append] at hg
 cases q with
 | none=>
   simp only [lN]
   refine aT Tryz.func118 (by decide) uZ rfl rfl (ck _ (Nat.le_refl 8) _) rfl ?_
   simp only [iD,Option.getD_none,Option.isSome_none] at wH ⊢
   simp only [bT,dS,aR,List.length_set,CI,go_sem]
   simp only [hi,go_sem]
   refine eA [6] (wH) rfl ?_ (by decide) ?_ ?_ ?_ <;> simp only [ag,ah,go_sem,aU,bE,aK,aP]
   refine ay rfl ?_
   simp only [hi,hg,wK,mU,List.map_set,List.length_set,List.set_set,go_sem]
 | some m=>
   obtain ⟨m0,m1,m2,m3,m4,m5,m6,m7,m8,m9,m10⟩:=m
   have hal:=NA (G:=eB) ⟨m0,m1,m2,m3,m4,m5,m6,m7,m8,m9,m10⟩ ⟨q0,q1,q2,q3,q4,q5,q6,q7,q8,q9,q10⟩
   simp only [lN]
   generalize EL ⟨m0,m1,m2,m3,m4,m5,m6,m7,m8,m9,m10⟩ ⟨q0,q1,q2,q3,q4,q5,q6,q7,q8,q9,q10⟩=al at *
   cases lhs with
   | false=>
     simp only [true_or,if_true]
     refine aT Tryz.func118 (by decide) uZ rfl rfl (ck _ (Nat.le_refl 8) _) rfl ?_
     simp only [iD,Option.getD_some,Option.isSome_some] at wH
     simp only [iD,Option.getD_some,Option.isSome_some,Option.getD_none,Option.isSome_none]
     simp only [bT,dS,aR,List.length_set,CI,go_sem]
     simp only [hi,go_sem]
     refine eA [6] (wH) rfl ?_ (by decide) ?_ ?_ ?_ <;> simp only [ag,ah,go_sem,aU,bE,aK,aP]
     refine ay rfl ?_
     simp only [hi,hg,wK,oZ,mU,List.map_set,List.length_set,List.set_set,go_sem]
     (repeat (refine ay rfl ?_; (try simp only [hi,hg,wK,oZ,mU,List.map_set,List.length_set,List.set_set,go_sem])))
   | true=>
   cases al with
   | false=>
     simp only [Bool.true_eq_false,or_true,if_true]
     refine aT Tryz.func118 (by decide) uZ rfl rfl (ck _ (Nat.le_refl 8) _) rfl ?_
     simp only [iD,Option.getD_some,Option.isSome_some] at wH
     simp only [iD,Option.getD_some,Option.isSome_some,Option.getD_none,Option.isSome_none]
     simp only [bT,dS,aR,List.length_set,CI,go_sem]
     simp only [hi,go_sem]
     refine eA [6] (wH) rfl ?_ (by decide) ?_ ?_ ?_ <;> simp only [ag,ah,go_sem,aU,bE,aK,aP]
     refine ay rfl ?_
     simp only [hi,hg,wK,oZ,mU,List.map_set,List.length_set,List.set_set,go_sem]
     refine bf (hal) rfl rfl rfl rfl ?_; simp only [go_sem]
     simp only [hi,hg,wK,oZ,mU,List.map_set,List.length_set,List.set_set,go_sem]
     (repeat (refine ay rfl ?_; (try simp only [hi,hg,wK,oZ,mU,List.map_set,List.length_set,List.set_set,go_sem])))
   | true=>
     simp only [Bool.true_eq_false,or_false,if_false]
     by_cases hl:now<IntKind.i64.wrap (ls+x.c.eG)
     ·simp only [hl,if_true]
      refine aT Tryz.func118 (by decide) uZ rfl rfl (ck _ (Nat.le_refl 8) _) rfl ?_
      simp only [iD,Option.getD_some,Option.isSome_some] at wH
      simp only [iD,Option.getD_some,Option.isSome_some,Option.getD_none,Option.isSome_none]
      simp only [bT,dS,aR,List.length_set,CI,go_sem]
      simp only [hi,go_sem]
      refine eA [6] (wH) rfl ?_ (by decide) ?_ ?_ ?_ <;> simp only [ag,ah,go_sem,aU,bE,aK,aP]
      refine ay rfl ?_
      simp only [hi,hg,wK,oZ,mU,List.map_set,List.length_set,List.set_set,go_sem]
      refine bf (hal) rfl rfl rfl rfl ?_; simp only [go_sem]
      simp only [decide_eq_true hl,hi,hg,wK,oZ,mU,List.map_set,List.length_set,List.set_set,go_sem]
      (repeat (refine ay rfl ?_; (try simp only [decide_eq_true hl,hi,hg,wK,oZ,mU,List.map_set,List.length_set,List.set_set,go_sem])))
      rw [Om hg]
     ·simp only [hl,if_false]
      refine aT Tryz.func118 (by decide) uZ rfl rfl (ck _ (Nat.le_refl 8) _) rfl ?_
      simp only [iD,Option.getD_some,Option.isSome_some] at wH
      simp only [iD,Option.getD_some,Option.isSome_some,Option.getD_none,Option.isSome_none]
      simp only [bT,dS,aR,List.length_set,CI,go_sem]
      simp only [hi,go_sem]
      refine eA [6] (wH) rfl ?_ (by decide) ?_ ?_ ?_ <;> simp only [ag,ah,go_sem,aU,bE,aK,aP]
      refine ay rfl ?_
      simp only [hi,hg,wK,oZ,mU,List.map_set,List.length_set,List.set_set,go_sem]
      refine bf (hal) rfl rfl rfl rfl ?_; simp only [go_sem]
      simp only [decide_eq_false hl,hi,hg,wK,oZ,mU,List.map_set,List.length_set,List.set_set,go_sem]
      (repeat (refine ay rfl ?_; (try simp only [decide_eq_false hl,hi,hg,wK,oZ,mU,List.map_set,List.length_set,List.set_set,go_sem])))
end Dv
namespace Dv
open Go Go.Proofs
def abA:=qx Tryz.f44
theorem ZY:aj Tryz.prog Tryz.f44=some abA:=by kernel_rfl
def c_ (y:aN) (had:Int→Int) (now:Int):Nat→aN×List dL
 | 0=>(y,[])
 | k+1=>({ (c_ y had now k).1 with lines:=(c_ y had now k).1.lines.set k (lN (c_ y had now k).1 (lY y.s had k) now ((c_ y had now k).1.lines.getD k fE)).1 },(c_ y had now k).2++(lN (c_ y had now k).1 (lY y.s had k) now ((c_ y had now k).1.lines.getD k fE)).2.toList)
structure Wn (y z:aN):Prop where
 c:z.c=y.c
 s:z.s=y.s
 j:z.j=y.j
 room:z.room=y.room
 term:z.term=y.term
 sh:z.sh=y.sh
 wr:z.wr=y.wr
 len:z.lines.length=y.lines.length
 down:z.down=y.down
 ew:z.ew=y.ew
theorem nW (y:aN) (had:Int→Int) (now:Int):∀ k,Wn y (c_ y had now k).1
 | 0=>⟨rfl,rfl,rfl,rfl,rfl,rfl,rfl,rfl,rfl,rfl⟩
 | k+1=>by
   have h:=nW y had now k
   exact ⟨h.c,h.s,h.j,h.room,h.term,h.sh,h.wr,by show (List.set _ _ _).length=_; rw [List.length_set,h.len],h.down,h.ew⟩
theorem vX (y:aN) (had:Int→Int) (now:Int):∀ k,(c_ y had now k).2.length≤k
 | 0=>Nat.le_refl _
 | k+1=>by
   have h:=vX y had now k
   show ((c_ y had now k).2++(lN (c_ y had now k).1 (lY y.s had k) now ((c_ y had now k).1.lines.getD k fE)).2.toList).length≤k+1
   rw [List.length_append]
   have:∀ q:Option dL,q.toList.length≤1:=fun q=>by cases q <;> simp
   have:=this (lN (c_ y had now k).1 (lY y.s had k) now ((c_ y had now k).1.lines.getD k fE)).2
   omega
def aN.lq (x:aN) (now:Int) (q p:Option cB):aN:=match x.jH now q p with
 | some o=>x.bR o now
 | none=>x
def aN.aaT (x:aN) (now:Int) (q p:Option cB):cB:=match x.jH now q p with
 | some o=>if x.dK o=0 then o else iA
 | none=>iA
def Bj (o:cB):aG:=.box 37 [.int o.kind,.int o.a,.int o.b,.int o.c,.int o.d,.int o.e,.int o.f]
def NH (z:aN) (now:Int) (o:cB) (ms:List dL) (k:Nat):St:=⟨[(0,.ptr 0 0),(1,.int now),(4,.ptr 8 0),(5,.d (.val (.slice none 0 0))),(6,.ptr 9 0),(8,.sl 10 ms.length 11 0 ms.length),(41,.int z.lines.length),(42,.int k)],(bT z).map some++[some (Bj iA),some (Bj o),some (.dat 87 11 (ms.map nL))]⟩
theorem Wg (x:aN) (h:BW x) (hd:x.down=false) (now:Int) (El:0≤now∧now≤1000000) (hT:∀ l∈x.lines,0≤l.heard∧l.heard≤1000000) (u p:Option cB) (hf:bu Tryz.prog eB 199 [aX x.s,jI (x.pY x.lines.length),.int now] [] (nY u) []) (hp:bu Tryz.prog eB 200 [fN x.c,aX x.s,.int now] [] (nY p) []) (had:Int→Int)
  (wH:∀ i,i<(x.lq now u p).lines.length→bu Tryz.prog eB 201 [aX (x.lq now u p).s,.int i,.ptr 0 0] (iu (x.lq now u p).room (x.lq now u p).term (x.lq now u p).sh (x.lq now u p).wr) (iD (lY (x.lq now u p).s had i)) (iu (x.lq now u p).room (x.lq now u p).term (x.lq now u p).sh (x.lq now u p).wr)) :
  bu Tryz.prog eB 44 [.ptr 0 0,.int now] (bT x) (.dM [tF (x.aaT now u p),jI (c_ (x.lq now u p) had now x.lines.length).2]) (bT (c_ (x.lq now u p) had now x.lines.length).1):=by
 have ha:=mA (G:=eB) x
 have II:=zk (G:=eB) now
 have hnx:=D7 x h now El hT u p hf hp
 rw [hd] at ha
 rw [decide_eq_true El] at II
 have hnt:=fun o=>bu.up (uQ x h o now) gU
 have ET:x.lines.length≤6:=by have:=h.lines; have:=h.right.len; omega
 have abL:(x.lq now u p).lines.length=x.lines.length:=by
  unfold aN.lq
  split
  ·rename_i o _
   have h1:=(h.note o now).lines
   have h2:=h.lines
   have h3:=(h.note o now).right.nodes
   have h4:=h.right.nodes
   rw [Kj] at h3
   omega
  ·rfl
 have hyc:BW (x.lq now u p):=by
  unfold aN.lq
  split
  ·exact h.note _ now
  ·exact h
 have hY:x.lq now u p=match x.jH now u p with | some o=>x.bR o now | none=>x:=rfl
 have hQ:x.aaT now u p=match x.jH now u p with | some o=>if x.dK o=0 then o else iA | none=>iA:=rfl
 generalize x.lq now u p=y at *
 generalize x.aaT now u p=q at *
 have wI:x.lines.length=y.lines.length:=abL.symm
 rw [wI] at ET ⊢
 obtain ⟨F,hF⟩:∃ F,F=c_ y had now y.lines.length:=⟨_,rfl⟩
 rw [← hF]
 simp only [bT,dS,aR,List.cons_append,List.nil_append] at ha hnx
 refine cI Tryz.func44 (by decide) ZY rfl ?_
 simp only [bT,dS,aR,abA,go_sem]
 refine fT [0,1,2,3,4,5,6,7] (ha) rfl ?_ (by decide) ?_ ?_ ?_ <;> simp only [ag,ah,go_sem,aU,bE,aK,aP]
 refine av (II) rfl rfl rfl rfl ?_; simp only [go_sem]
 refine fT [0,1,2,3,4,5,6,7] (hnx) rfl ?_ (by decide) ?_ ?_ ?_ <;> simp only [ag,ah,go_sem,aU,bE,aK,aP]
 have sQ:=nW y had now
 have hl2:=vX y had now
 cases hno:x.jH now u p
 case' none=>
  rw [hno] at hY hQ
  have hY2:y=x:=hY
  have hq:q=iA:=hQ
  subst hY2
  simp only [nY,Option.getD_none,Option.isSome_none,go_sem]
 case' some o=>
  rw [hno] at hY hQ
  have hY2:x.bR o now=y:=hY.symm
  have hnt:=hnt o
  rw [hY2] at hnt
  simp only [bT,dS,aR,List.cons_append,List.nil_append] at hnt
  simp only [nY,Option.getD_some,Option.isSome_some,go_sem]
  refine au [0,1,2,3,4,5,6,7] (hnt) rfl ?_ (by decide) ?_ ?_ (by simp) ?_ <;> simp only [ag,ah,go_sem,aU,bE,aK,aP]
  by_cases he:x.dK o=0
  case' pos=>
   have hq:q=o:=by rw [hQ]; exact if_pos he
   simp only [he,bne_self_eq_false,go_sem]
  case' neg=>
   have hq:q=iA:=by rw [hQ]; exact if_neg he
   simp only [show (x.dK o !=0)=true from bne_iff_ne.2 he,go_sem]
 all_goals
  refine aW [0,1,4,5,6,8,41,42] [.t 8 87 11] (fun k:Nat=>k≤y.lines.length) (fun k=>y.lines.length-k) (fun k=>NH (c_ y had now k).1 now q (c_ y had now k).2 k) 0 ?_ (Nat.zero_le _) (fun k hk=>?_)
  ·simp only [NH,c_,hq,Bj,bT,dS,aR,Int.natCast_zero,go_sem]
  have hz:=sQ k
  have hzl:=hl2 k
  have CO:c_ y had now (k+1)=({ (c_ y had now k).1 with lines:=(c_ y had now k).1.lines.set k (lN (c_ y had now k).1 (lY y.s had k) now ((c_ y had now k).1.lines.getD k fE)).1 },(c_ y had now k).2++(lN (c_ y had now k).1 (lY y.s had k) now ((c_ y had now k).1.lines.getD k fE)).2.toList):=rfl
  by_cases hlt:k<y.lines.length
  ·have hT:=Dx (c_ y had now k).1 now k (by rw [hz.len]; exact hlt) (lY y.s had k) (by rw [hz.s,hz.room,hz.term,hz.sh,hz.wr]; exact wH k hlt)
   generalize (c_ y had now k).1=z at *
   generalize (c_ y had now k).2=ms at *
   generalize lN z (lY y.s had k) now (z.lines.getD k fE)=tl at *
   have KI:=hz.len
   simp only [bT,dS,aR,List.length_set,List.cons_append,List.nil_append] at hT
   simp only [NH,Bj,bT,dS,aR,KI,go_sem]
   simp only [decide_eq_true (show ((k:Nat):Int)<((y.lines.length:Nat):Int) by omega),go_sem]
   rw [KI] at hT
   refine au [0,1,2,3,4,5,6,7] (hT) rfl ?_ (by decide) ?_ ?_ (by simp) ?_ <;> simp only [ag,ah,go_sem,aU,bE,aK,aP]
   obtain ⟨l2,r2⟩:=tl
   have c1:(ms.length+1)*88≤70368744177664:=by omega
   cases r2 with
   | none=>
     simp only [iD,Option.getD_none,Option.isSome_none,go_sem]
     refine bh (k+1) ?_ ?_ (show k+1≤y.lines.length by omega) (show y.lines.length-(k+1)<y.lines.length-k by omega)
     ·simp only [aK,aP,go_sem]
     ·simp only [aH (show k<9223372036854775807 by omega),CO,Option.toList,KI,List.length_set,NH,Bj,bT,dS,aR,go_sem]
   | some m=>
     simp only [iD,Option.getD_some,Option.isSome_some,List.length_append,c1,go_sem]
     refine bh (k+1) ?_ ?_ (show k+1≤y.lines.length by omega) (show y.lines.length-(k+1)<y.lines.length-k by omega)
     ·simp only [aK,aP,go_sem]
     ·simp only [aH (show k<9223372036854775807 by omega),CO,Option.toList,KI,List.length_set,List.map_append,List.length_append,NH,Bj,bT,dS,aR,go_sem]
  ·obtain rfl:k=y.lines.length:=by omega
   rw [← hF] at *
   simp only [NH,Bj,bT,dS,aR,go_sem]
   simp only [hz.len,decide_eq_false (show ¬ ((y.lines.length:Nat):Int)<((y.lines.length:Nat):Int) by omega),go_sem]
   have hid:=ck 8 (Nat.le_refl 8) F.1
   simp only [bT,dS,aR,hz.len,bS,cZ,LV.int,LV.bool,List.cons_append,List.nil_append] at hid
   have htk:List.take F.2.length (List.map nL F.2)=List.map nL F.2:=List.take_of_length_le (by rw [List.length_map]; exact Nat.le_refl _)
   refine dA [] [0,1,2,3,4,5,6,7] [10] (vs:=[.agg [.int q.kind,.int q.a,.int q.b,.int q.c,.int q.d,.int q.e,.int q.f],.sl 10 F.2.length 11 0 F.2.length]) rfl rfl (by decide) (by decide) (by simp [St.obj,aC,b_]) ?_ hid ?_
   ·simp only [List.map_cons,List.map_nil,fq,mT,aU,bE]
    rfl
   simp [aV,ah,ag,bK,LV.int,LV.bool,htk,St.obj,aC,b_]
end Dv
