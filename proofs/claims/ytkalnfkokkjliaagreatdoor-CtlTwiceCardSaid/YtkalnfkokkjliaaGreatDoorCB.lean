/- part -/
import Derived.Test.YtkalnfkokkjliaaGreatDoorCA
import Derived.Test.YtkalnfkokkjliaaGreatDoorAC
import Derived.Test.YtkalnfkokkjliaaGreatDoorNA
import Derived.Test.YtkalnfkokkjliaaGreatDoorI0
import Derived.Test.YtkalnfkokkjliaaGreatDoorGA
set_option linter.all false
set_option maxHeartbeats 4000000
set_option maxRecDepth 100000
namespace Dv
open Go Go.Proofs
variable {G:Nat→Option (List DV)}
def xw:=qx Tryz.f201
theorem oP:aj Tryz.prog Tryz.f201=some xw:=by kernel_rfl
def Xx:=qx Tryz.f202
theorem TS:aj Tryz.prog Tryz.f202=some Xx:=by kernel_rfl
def W7:=qx Tryz.f249
theorem Ts:aj Tryz.prog Tryz.f249=some W7:=by kernel_rfl
def W6:=qx Tryz.f250
theorem Tr:aj Tryz.prog Tryz.f250=some W6:=by kernel_rfl
def gy (m:dA):dA:={ m with term:=0,gen:=0,til:=0 }
theorem GG (m:dA):bw Tryz.prog G 250 [xS m] [] (xS (gy m)) []:=by
 refine br Tryz.func250 (by decide) Tr rfl rfl ?_
 simp only [W6,go_sem]
 simp only [gy,go_sem]
def Ew (a b:dA):Bool:=((gy a).node==(gy b).node&&((gy a).kind==(gy b).kind&&((gy a).term==(gy b).term&&((gy a).gen==(gy b).gen&&((gy a).aQ==(gy b).aQ&&((gy a).inc==(gy b).inc&&((gy a).version==(gy b).version&&((gy a).epoch==(gy b).epoch&&((gy a).til==(gy b).til&&((gy a).mode==(gy b).mode&&(gy a).work==(gy b).work))))))))))
theorem Nj (a b:dA):bw Tryz.prog G 202 [xS a,xS b] [] (.bool (Ew a b)) []:=by
 have ha:=GG (G:=G) a
 have hb:=GG (G:=G) b
 unfold Ew
 refine br Tryz.func202 (by decide) TS rfl rfl ?_
 simp only [Xx,go_sem]
 refine bq (ha) rfl rfl rfl rfl ?_; simp only [go_sem]
 refine bq (hb) rfl rfl rfl rfl ?_; simp only [go_sem]
def tzD (m:Int):Int:=if hasB m 0=true then 0 else if hasB m 1=true then 1 else if hasB m 2=true then 2 else if hasB m 3=true then 3 else if hasB m 4=true then 4 else if hasB m 5=true then 5 else 64
noncomputable def aaN (m:Nat):Bool:=match r_ eE (sV (nV Tryz.prog) []) 200 20 false 292 [.d (.val (.int .u64 m))] [] with
 | some (r,o)=>oB [r] [.int (tzD m)]&&ud o []
 | none=>false
theorem Y6:(List.range 64).all aaN=true:=by kernel_rfl
theorem Y5 (m:Nat) (hm:m<64):bw Tryz.prog eE 292 [.d (.val (.int .u64 m))] [] (.int (tzD m)) []:=by
 have h:=List.all_eq_true.1 Y6 m (List.mem_range.2 hm)
 unfold aaN at h
 split at h
 ·rename_i r o hr
  rw [Bool.and_eq_true] at h
  obtain ⟨h1,h2⟩:=h
  have h3:=nN _ _ h1
  have h4:=sW h2
  cases h3
  cases h4
  exact kR (l:=[]) (fun _ h=>by cases h) hr
 ·cases h
theorem G4 (j:bP) (i:Nat) (hj:0≤j.nodes∧j.nodes<64):bw Tryz.prog eE 249 [DQ j,.int i] [] (.int (if tzD j.nodes=i then 1 else 0)) []:=by
 obtain ⟨m,hm⟩:∃ m:Nat,j.nodes=m:=⟨j.nodes.toNat,by omega⟩
 have hT:=Y5 m (by omega)
 have hw:IntKind.u64.wrap (m:Int)=m:=by
  show (m:Int) % 18446744073709551616=m
  omega
 rw [hm]
 refine br Tryz.func249 (by decide) Ts rfl rfl ?_
 simp only [W7,go_sem]
 simp only [hm,hw,go_sem]
 refine ay (hT) rfl rfl rfl rfl ?_; simp only [go_sem]
 by_cases h:tzD (m:Int)=(i:Int)
 ·simp only [h,go_sem]
 ·simp only [beq_eq_false_iff_ne.2 h,h,go_sem]
def lT (s:aa) (had:Int→Int) (i:Nat):Option dA:=
 if (dR s i).up=false then none else
 if (dR s i).aQ=0 then some ⟨i,if (dR s i).bC=true then 5 else 1,0,0,0,0,if (dR s i).bC=true then fZ s else 0,0,0,0,0⟩ else
 if (dK s ((dR s i).aQ-1).toNat).phase=2 then some ⟨i,3,0,0,(dR s i).aQ,(dK s ((dR s i).aQ-1).toNat).inc,if (dR s i).bC=true then fZ s else 0,(dK s ((dR s i).aQ-1).toNat).epoch,0,0,had (dR s i).aQ⟩ else
 if (dK s ((dR s i).aQ-1).toNat).phase=3 then some ⟨i,4,0,0,(dR s i).aQ,(dK s ((dR s i).aQ-1).toNat).inc,if (dR s i).bC=true then fZ s else 0,0,0,if tzD (dK s ((dR s i).aQ-1).toNat).nodes=i then 1 else 0,0⟩ else
 if (dK s ((dR s i).aQ-1).toNat).phase=1 then some ⟨i,2,0,0,(dR s i).aQ,(dK s ((dR s i).aQ-1).toNat).inc,(dR s i).version,0,0,0,0⟩ else
 some ⟨i,2,0,0,(dR s i).aQ,(dK s ((dR s i).aQ-1).toNat).inc,if (dR s i).bC=true then fZ s else 0,0,0,0,0⟩
def ij (q:Option dA):LV:=.dJ [xS (q.getD iX),.bool q.isSome]
theorem LK (c:aC) (s:aa) (h:bR c s) (had:Int→Int) (i:Nat) (hi:i<s.nodes.length) (room term:Int) (sh:List kO) (wr:Int) (hh:∀ j:Int,1≤j∧j≤s.jobs.length→bw Tryz.prog eE 248 [aY s,.int j,.ptr 0 0] (gu room term sh wr) (.int (had j)) (gu room term sh wr)) :
  bw Tryz.prog eE 201 [aY s,.int i,.ptr 0 0] (gu room term sh wr) (ij (lT s had i)) (gu room term sh wr):=by
 have hg:=aJ (f:=bY) ai hi
 have hM:=jN (G:=eE) s
 have Qa:=h.aQ i hi
 have hmv:=h.bC i hi
 have hlj:=h.jobs
 unfold lT ij
 have hN:dR s i=s.nodes.getD i ai:=rfl
 rw [hN] at Qa hmv ⊢
 generalize s.nodes.getD i ai=n at *
 obtain ⟨up,co,mo,ve,jo⟩:=n
 dsimp only at Qa hmv ⊢
 simp only [bY] at hg
 have c1:i<s.nodes.length:=hi
 cases up with
 | false=>
   simp only [if_true]
   refine aT Tryz.func201 (by decide) oP rfl rfl (f_ _ _ _ _ _) rfl ?_
   simp only [gu,xw,go_sem]
   simp only [decide_eq_false (show ¬ ((i:Nat):Int)<0 by omega),decide_eq_false (show ¬ ((i:Nat):Int)≥(s.nodes.length:Nat) by omega),hg,hi,Option.getD_none,Option.isSome_none,Option.getD_some,Option.isSome_some,go_sem]
 | true=>
 simp only [Bool.true_eq_false,if_false]
 by_cases hj0:jo=0
 ·subst hj0
  simp only [if_true]
  cases mo with
  | true=>
    refine aT Tryz.func201 (by decide) oP rfl rfl (f_ _ _ _ _ _) rfl ?_
    simp only [gu,xw,go_sem]
    simp only [decide_eq_false (show ¬ ((i:Nat):Int)<0 by omega),decide_eq_false (show ¬ ((i:Nat):Int)≥(s.nodes.length:Nat) by omega),hg,hi,Option.getD_none,Option.isSome_none,Option.getD_some,Option.isSome_some,go_sem]
    refine ay (hM) rfl rfl rfl rfl ?_; simp only [go_sem]
  | false=>
    refine aT Tryz.func201 (by decide) oP rfl rfl (f_ _ _ _ _ _) rfl ?_
    simp only [gu,xw,go_sem]
    simp only [decide_eq_false (show ¬ ((i:Nat):Int)<0 by omega),decide_eq_false (show ¬ ((i:Nat):Int)≥(s.nodes.length:Nat) by omega),hg,hi,Option.getD_none,Option.isSome_none,Option.getD_some,Option.isSome_some,go_sem]
 have hmo:mo=false:=by
  cases mo with
  | false=>rfl
  | true=>exact absurd (hmv rfl).2.2 hj0
 subst hmo
 obtain ⟨k,hk⟩:∃ k:Nat,jo=k+1:=⟨(jo-1).toNat,by omega⟩
 have hkl:k<s.jobs.length:=by omega
 have Nx:=aJ (f:=dD) az hkl
 have hJ:dK s (jo-1).toNat=s.jobs.getD k az:=by unfold dK; rw [show (jo-1).toNat=k by omega]
 have Ky:=KN h hkl
 have ab1:=hh jo (by omega)
 rw [hJ]
 unfold dK at Ky
 generalize s.jobs.getD k az=j at *
 simp only [dD] at Nx
 have hw:IntKind.i64.wrap (jo-1)=k:=by rw [aN (by omega) (by omega)]; omega
 have hwr:=G4 j i Ky
 simp only [hj0,if_false]
 have hjb:(jo==0)=false:=beq_eq_false_iff_ne.2 hj0
 simp only [gu,List.cons_append,List.nil_append] at ab1
 by_cases p2:j.phase=2
 ·have b2:(j.phase==2)=true:=beq_iff_eq.2 p2
  rw [if_pos p2]
  refine aT Tryz.func201 (by decide) oP rfl rfl (f_ _ _ _ _ _) rfl ?_
  simp only [gu,xw,go_sem]
  simp only [decide_eq_false (show ¬ ((i:Nat):Int)<0 by omega),decide_eq_false (show ¬ ((i:Nat):Int)≥(s.nodes.length:Nat) by omega),hg,hi,Option.getD_none,Option.isSome_none,Option.getD_some,Option.isSome_some,go_sem]
  simp only [hjb,hw,hkl,Nx,Option.getD_none,Option.isSome_none,Option.getD_some,Option.isSome_some,go_sem]
  refine au rfl ?_
  simp only [b2,Option.getD_none,Option.isSome_none,Option.getD_some,Option.isSome_some,go_sem]
  refine ey [0] (ab1) rfl ?_ (by decide) ?_ ?_ ?_ <;> simp only [ag,ah,go_sem,aV,bD,aL,aR]
  refine au rfl ?_
  simp only [Option.getD_none,Option.isSome_none,Option.getD_some,Option.isSome_some,go_sem]
 have b2:(j.phase==2)=false:=beq_eq_false_iff_ne.2 p2
 rw [if_neg p2]
 by_cases p3:j.phase=3
 ·have b3:(j.phase==3)=true:=beq_iff_eq.2 p3
  rw [if_pos p3]
  refine aT Tryz.func201 (by decide) oP rfl rfl (f_ _ _ _ _ _) rfl ?_
  simp only [gu,xw,go_sem]
  simp only [decide_eq_false (show ¬ ((i:Nat):Int)<0 by omega),decide_eq_false (show ¬ ((i:Nat):Int)≥(s.nodes.length:Nat) by omega),hg,hi,Option.getD_none,Option.isSome_none,Option.getD_some,Option.isSome_some,go_sem]
  simp only [hjb,hw,hkl,Nx,Option.getD_none,Option.isSome_none,Option.getD_some,Option.isSome_some,go_sem]
  refine au rfl ?_
  simp only [b2,b3,Option.getD_none,Option.isSome_none,Option.getD_some,Option.isSome_some,go_sem]
  refine ay (hwr) rfl rfl rfl rfl ?_; simp only [go_sem]
 have b3:(j.phase==3)=false:=beq_eq_false_iff_ne.2 p3
 rw [if_neg p3]
 by_cases p1:j.phase=1
 ·have b1:(j.phase==1)=true:=beq_iff_eq.2 p1
  rw [if_pos p1]
  refine aT Tryz.func201 (by decide) oP rfl rfl (f_ _ _ _ _ _) rfl ?_
  simp only [gu,xw,go_sem]
  simp only [decide_eq_false (show ¬ ((i:Nat):Int)<0 by omega),decide_eq_false (show ¬ ((i:Nat):Int)≥(s.nodes.length:Nat) by omega),hg,hi,Option.getD_none,Option.isSome_none,Option.getD_some,Option.isSome_some,go_sem]
  simp only [hjb,hw,hkl,Nx,Option.getD_none,Option.isSome_none,Option.getD_some,Option.isSome_some,go_sem]
  refine au rfl ?_
  simp only [b1,b2,b3,Option.getD_none,Option.isSome_none,Option.getD_some,Option.isSome_some,go_sem]
 have b1:(j.phase==1)=false:=beq_eq_false_iff_ne.2 p1
 rw [if_neg p1]
 refine aT Tryz.func201 (by decide) oP rfl rfl (f_ _ _ _ _ _) rfl ?_
 simp only [gu,xw,go_sem]
 simp only [decide_eq_false (show ¬ ((i:Nat):Int)<0 by omega),decide_eq_false (show ¬ ((i:Nat):Int)≥(s.nodes.length:Nat) by omega),hg,hi,Option.getD_none,Option.isSome_none,Option.getD_some,Option.isSome_some,go_sem]
 simp only [hjb,hw,hkl,Nx,Option.getD_none,Option.isSome_none,Option.getD_some,Option.isSome_some,go_sem]
 refine au rfl ?_
 simp only [b1,b2,b3,Option.getD_none,Option.isSome_none,Option.getD_some,Option.isSome_some,go_sem]
end Dv
namespace Dv
open Go Go.Proofs
variable {G:Nat→Option (List DV)}
def WD:=qx Tryz.f290
theorem S7:aj Tryz.prog Tryz.f290=some WD:=by kernel_rfl
def WB:=qx Tryz.f291
theorem S6:aj Tryz.prog Tryz.f291=some WB:=by kernel_rfl
def W8:=qx Tryz.f248
theorem Tt:aj Tryz.prog Tryz.f248=some W8:=by kernel_rfl
def F8 (L:List LV) (ep:Int) (i:Nat):St:=⟨[(2,.int ep),(6,.d (.val (.slice none 0 0))),(7,.bool false),(28,.agg [.int 0,.d (.val (.slice none 0 0)),.int 0,.d (.val (.slice none 0 0))]),(29,.int i)],[some (.box 190 L)]⟩
theorem Qw (room term:Int) (sh:List kO) (wr:Int) (k:Nat) (hk:1≤k∧k≤24) (hs:sh.length=25) (hz:sh.getD k ic=ic) (ep:Int) (he:1≤ep):bw Tryz.prog G 290 [.ptr 0 0,.int k,.int ep] (gu room term sh wr) (.dJ [.d (.val (.slice none 0 0)),.bool false]) (gu room term sh wr):=by
 have hj:=ox (G:=G) room term sh wr k hk
 obtain ⟨A,B,hA,hB,hC⟩:=BJ room term sh wr k (by omega)
 have hC:=hC _ hz
 have Vb:=f_ 1 room term sh wr
 simp only [gu,List.cons_append,List.nil_append] at hj
 refine aT Tryz.func290 (by decide) S7 rfl rfl Vb rfl ?_
 simp only [gu,WD,go_sem]
 refine gW [0] (hj) rfl ?_ (by decide) ?_ ?_ ?_ <;> simp only [ag,ah,go_sem,aV,bD,aL,aR]
 have hI2:eD 1 (LV.int room::LV.int term::(sh.flatMap rD++[LV.int wr]))=true:=by simp [aL,aR,eD,eH,LV.int]
 simp only [LV.int,ic,kD] at hC hI2
 rw [hC] at hI2 ⊢
 generalize hm:2+4*k=m at *
 have g0:=aaU A B (LV.d (.val (.int .i64 0))) (LV.d (.val (.slice none 0 0))) (LV.d (.val (.int .i64 0))) (LV.d (.val (.slice none 0 0))) m hA
 have g2:((A++LV.d (.val (.int .i64 0))::LV.d (.val (.slice none 0 0))::LV.d (.val (.int .i64 0))::LV.d (.val (.slice none 0 0))::B).drop m).take 2=[LV.d (.val (.int .i64 0)),LV.d (.val (.slice none 0 0))]:=by subst hA; simp
 have gl:∀ a b c d:LV,(A++a::b::c::d::B).length=m+4+B.length:=by intros; rw [List.length_append,hA]; simp; omega
 have c1:m+2≤m+4+B.length:=by omega
 have c2:m+4≤m+4+B.length:=by omega
 clear hB hC Vb
 have hl:=gl (LV.d (.val (.int .i64 0))) (LV.d (.val (.slice none 0 0))) (LV.d (.val (.int .i64 0))) (LV.d (.val (.slice none 0 0)))
 generalize A++LV.d (.val (.int .i64 0))::LV.d (.val (.slice none 0 0))::LV.d (.val (.int .i64 0))::LV.d (.val (.slice none 0 0))::B=L at *
 simp only [decide_eq_false (show ¬ ep<1 by omega),g0,g2,hl,c1,c2,go_sem]
 have he0:((0:Int)==ep)=false:=beq_eq_false_iff_ne.2 (by omega)
 refine aW [2,6,7,28,29] [] (fun i:Nat=>i≤2) (fun i=>2-i) (F8 L ep) 0 ?_ (Nat.zero_le _) (fun i hi=>?_)
 ·simp only [F8,Int.natCast_zero,go_sem]
 simp only [F8,go_sem]
 rcases (show i=0∨i=1∨i=2 by omega) with rfl | rfl | rfl
 ·simp only [Int.natCast_zero,he0,go_sem]
  refine a_ 1 ?_ ?_ (by decide) (by decide)
  ·simp only [hI2,go_sem]
  ·simp only [F8,show IntKind.i64.wrap 1=1 from by decide,Int.natCast_one,go_sem]
 ·simp only [Int.natCast_one,he0,go_sem]
  refine a_ 2 ?_ ?_ (by decide) (by decide)
  ·simp only [hI2,go_sem]
  ·simp only [F8,show IntKind.i64.wrap (1+1)=2 from by decide,show IntKind.i64.wrap 2=2 from by decide,show ((2:Nat):Int)=2 from rfl,go_sem]
 ·simp only [show ((2:Nat):Int)=2 from rfl,go_sem]
theorem Ec:bw Tryz.prog G 291 [.d (.val (.slice none 0 0)),.int 0] [] (.dJ [.d (.val (.string ⟨#[]⟩)),.int 0,.bool false]) []:=by
 have hn:=jT (G:=G) [] (fun _ h=>by cases h) (by simp) 0 (by omega) _ rfl
 simp only [aq,aB,List.map_nil,gd,gq,j9,List.drop_nil,Option.map_none] at hn
 simp only [show zj none=0 from rfl,show zk none=0 from rfl,Option.isSome_none,Int.natCast_zero] at hn
 refine br Tryz.func291 (by decide) S6 rfl rfl ?_
 simp only [WB,go_sem]
 refine yD [] (hn) rfl (by simp [ag,ah,bG,aD,go_sem]) (by simp [aD]) rfl rfl ?_; simp only [go_sem]
theorem Qs (s:aa) (hl:s.jobs.length≤24) (room term:Int) (sh:List kO) (wr:Int) (hs:sh.length=25) (hz:∀ k,k<25→sh.getD k ic=ic) (he:∀ k,k<s.jobs.length→0≤(dK s k).epoch) (j:Int) (hj:1≤j∧j≤s.jobs.length):bw Tryz.prog G 248 [aY s,.int j,.ptr 0 0] (gu room term sh wr) (.int 0) (gu room term sh wr):=by
 obtain ⟨k,hk⟩:∃ k:Nat,j=k+1:=⟨(j-1).toNat,by omega⟩
 have hkl:k<s.jobs.length:=by omega
 have Nx:=aJ (f:=dD) az hkl
 have hep:=he k hkl
 unfold dK at hep
 generalize s.jobs.getD k az=jb at *
 simp only [dD] at Nx
 have hw:IntKind.i64.wrap (j-1)=k:=by rw [aN (by omega) (by omega)]; omega
 have hgt:=Ec (G:=G)
 refine aT Tryz.func248 (by decide) Tt rfl rfl (f_ _ _ _ _ _) rfl ?_
 simp only [gu,W8,go_sem]
 simp only [decide_eq_false (show ¬ j<1 by omega),decide_eq_false (show ¬ j>(s.jobs.length:Nat) by omega),hw,hkl,Nx,go_sem]
 by_cases h0:jb.epoch=0
 ·simp only [show (jb.epoch==0)=true from beq_iff_eq.2 h0,go_sem]
 simp only [show (jb.epoch==0)=false from beq_eq_false_iff_ne.2 h0,hw,hkl,Nx,go_sem]
 have l_:=Qw (G:=G) room term sh wr (k+1) (by omega) hs (hz (k+1) (by omega)) jb.epoch (by omega)
 rw [show ((k+1:Nat):Int)=j by omega] at l_
 simp only [gu,List.cons_append,List.nil_append] at l_
 refine gW [0] (l_) rfl ?_ (by decide) ?_ ?_ ?_ <;> simp only [ag,ah,go_sem,aV,bD,aL,aR]
 refine ay (hgt) rfl rfl rfl rfl ?_; simp only [go_sem]
end Dv
namespace Dv
open Go Go.Proofs
variable {G:Nat→Option (List DV)}
def Yi:=qx Tryz.f117
theorem UJ:aj Tryz.prog Tryz.f117=some Yi:=by kernel_rfl
def aO.JF (x:aO) (k:Nat):List Bool:=(List.range k).map fun i=>(dR x.s i).up
def aO.Cx (x:aO) (k:Nat):List Int:=(x.lines.take k).map fun l=>l.heard
def aO.pS (x:aO) (k:Nat):List dA:=(x.lines.take k).map fun l=>l.report
def aO.RL (x:aO) (now:Int):Int:=mJ x.c.bZ now (x.JF x.lines.length) (x.Cx x.lines.length) 0
def aO.jE (x:aO) (now:Int) (q p:Option cA):Option cA:=if 0≤x.RL now then some ⟨7,x.RL now,0,0,0,0,0⟩ else match q with
 | some o=>some o
 | none=>p
def GC (l:List Bool):List (List DV):=l.map fun b=>[bl b]
def FT (l:List Int):List (List DV):=l.map fun h=>[i64 h]
def Sm (x:aO) (now:Int) (k:Nat):St:=⟨[(0,.ptr 0 0),(1,.int now),(4,.ptr 8 0),(5,.bool false),(6,.sl 9 k 1 0 k),(7,.sl 10 k 1 0 k),(8,.sl 11 k 11 0 k),(17,.sl 7 x.lines.length 26 0 x.lines.length),(18,.int x.lines.length),(19,.int k)],(bX x).map some++[some (.box 37 [.int 0,.int 0,.int 0,.int 0,.int 0,.int 0,.int 0]),some (.dat 4 1 (GC (x.JF k))),some (.dat 3 1 (FT (x.Cx k))),some (.dat 87 11 ((x.pS k).map lX))]⟩
theorem NF (x:aO) (k:Nat):x.JF (k+1)=x.JF k++[(dR x.s k).up]:=by unfold aO.JF; rw [List.range_succ,List.map_append]; rfl
theorem p_ {α:Type} {l:List α} {i:Nat} (z:α) (h:i<l.length):l.take (i+1)=l.take i++[l.getD i z]:=by
 rw [List.take_add_one]; simp [List.getD,h]
theorem PR (x:aO) {k:Nat} (h:k<x.lines.length):x.Cx (k+1)=x.Cx k++[(x.lines.getD k fC).heard]:=by unfold aO.Cx; rw [p_ fC h,List.map_append]; rfl
theorem Lx (x:aO) {k:Nat} (h:k<x.lines.length):x.pS (k+1)=x.pS k++[(x.lines.getD k fC).report]:=by unfold aO.pS; rw [p_ fC h,List.map_append]; rfl
theorem JE (x:aO) (k:Nat):(x.JF k).length=k:=by simp [aO.JF]
theorem Kv (x:aO) {k:Nat} (h:k≤x.lines.length):(x.Cx k).length=k:=by simp [aO.Cx]; omega
theorem Fi (x:aO) {k:Nat} (h:k≤x.lines.length):(x.pS k).length=k:=by simp [aO.pS]; omega
theorem DK (x:aO) (h:CX x) (now:Int) (DZ:0≤now∧now≤1000000) (hT:∀ l∈x.lines,0≤l.heard∧l.heard≤1000000) (q p:Option cA) (hfn:bw Tryz.prog G 199 [aY x.s,iT (x.pS x.lines.length),.int now] [] (nQ q) []) (hp:bw Tryz.prog G 200 [fV x.c,aY x.s,.int now] [] (nQ p) []) :
  bw Tryz.prog G 117 [.ptr 0 0,.int now] (bX x) (nQ (x.jE now q p)) (bX x):=by
 have we:=h.lines
 have EB:=h.right.len
 refine aT Tryz.func117 (by decide) UJ rfl rfl (cC _ (Nat.le_refl 8) _) rfl ?_
 simp only [bX,d_,aP,Yi,go_sem]
 refine aW [0,1,4,5,6,7,8,17,18,19] [.t 6 4 1,.t 7 3 1,.t 8 87 11] (fun k:Nat=>k≤x.lines.length) (fun k=>x.lines.length-k) (Sm x now) 0 ?_ (Nat.zero_le _) (fun k hk=>?_)
 ·simp only [Sm,bX,d_,aP,aO.JF,aO.Cx,aO.pS,GC,FT,List.range_zero,Int.natCast_zero,go_sem]
 simp only [Sm,bX,d_,aP,go_sem]
 by_cases hlt:k<x.lines.length
 ·have hg:=aJ (f:=mL) fC hlt
  have tQ:=aJ (f:=bY) ai (show k<x.s.nodes.length by omega)
  simp only [decide_eq_true (show ((k:Nat):Int)<((x.lines.length:Nat):Int) by omega),go_sem]
  have hu:=NF x k
  have hh:=PR x hlt
  have hr:=Lx x hlt
  have lu:=JE x k
  have lh:=Kv x hk
  have lr:=Fi x hk
  have hN:dR x.s k=x.s.nodes.getD k ai:=rfl
  rw [hN] at hu
  have hkn:k<x.s.nodes.length:=by omega
  generalize x.s.nodes.getD k ai=n at *
  generalize x.lines.getD k fC=l at *
  obtain ⟨up,co,mo,ve,jo⟩:=n
  obtain ⟨lg,lhs,⟨q0,q1,q2,q3,q4,q5,q6,q7,q8,q9,q10⟩,ls,le,⟨r0,r1,r2,r3,r4,r5,r6,r7,r8,r9,r10⟩⟩:=l
  simp only [mL,lX,List.cons_append,List.nil_append] at hg
  simp only [bY] at tQ
  dsimp only at hu hh hr
  generalize ZY:x.JF k=ub at *
  generalize hhb:x.Cx k=hb at *
  generalize hrb:x.pS k=rb at *
  have c1:(k+1)*88≤70368744177664:=by omega
  have c2:(k+1)*8≤70368744177664:=by omega
  have c3:(k+1)*1≤70368744177664:=by omega
  simp only [hlt,hg,GC,FT,List.length_append,lu,lh,lr,c1,c2,c3,hkn,tQ,go_sem]
  refine au rfl ?_
  simp only [go_sem]
  refine a_ (k+1) ?_ ?_ (show k+1≤x.lines.length by omega) (show x.lines.length-(k+1)<x.lines.length-k by omega)
  ·simp only [aL,aR,go_sem]
  ·simp only [aG (show k<9223372036854775807 by omega),Sm,bX,d_,aP,hu,hh,hr,GC,FT,List.map_append,go_sem]
 obtain rfl:k=x.lines.length:=by omega
 simp only [decide_eq_false (show ¬ ((x.lines.length:Nat):Int)<((x.lines.length:Nat):Int) by omega),go_sem]
 have hup:(x.JF x.lines.length).length=x.lines.length:=JE x _
 have hhp:=Kv x (Nat.le_refl x.lines.length)
 have hrp:=Fi x (Nat.le_refl x.lines.length)
 have aaa:0≤x.c.bZ∧x.c.bZ≤1000000:=by
  have hm:=h.right.vf
  unfold gJ at hm
  simp only [Bool.and_eq_true] at hm
  have:=bh hm.1.1.1.1.2
  omega
 have abz:=Hq (G:=G) (x.JF x.lines.length) (x.Cx x.lines.length) x.c.bZ now (by omega) (by omega) aaa (fun v hv=>by
  unfold aO.Cx at hv
  rw [List.mem_map] at hv
  obtain ⟨l,hl,rfl⟩:=hv
  exact hT l (List.mem_of_mem_take hl))
 unfold aO.jE
 have hsi:x.RL now=mJ x.c.bZ now (x.JF x.lines.length) (x.Cx x.lines.length) 0:=rfl
 rw [← hsi] at abz
 generalize x.RL now=si at *
 have htu:List.take x.lines.length (List.map (fun b=>[DV.val (Value.bool b)]) (x.JF x.lines.length))=List.map (fun b=>[DV.val (Value.bool b)]) (x.JF x.lines.length):=List.take_of_length_le (by rw [List.length_map]; omega)
 have Nw:List.take x.lines.length (List.map (fun h=>[DV.val (Value.int IntKind.i64 h)]) (x.Cx x.lines.length))=List.map (fun h=>[DV.val (Value.int IntKind.i64 h)]) (x.Cx x.lines.length):=List.take_of_length_le (by rw [List.length_map]; omega)
 have htr:List.take x.lines.length (List.map lX (x.pS x.lines.length))=List.map lX (x.pS x.lines.length):=List.take_of_length_le (by rw [List.length_map]; omega)
 refine yD [9,10] (abz) rfl (by simp [ag,ah,bG,aD,GC,FT,htu,Nw,hup,hhp,Nat.le_refl,and_self,go_sem]) (by simp [aD]) rfl rfl ?_; simp only [go_sem]
 by_cases hs0:0≤si
 ·simp only [decide_eq_true (show si≥0 from hs0),hs0,nQ,Option.getD_some,Option.isSome_some,go_sem]
 simp only [decide_eq_false (show ¬ si≥0 from hs0),hs0,go_sem]
 simp only [iT] at hfn
 refine yD [11] (hfn) rfl (by simp [ag,ah,bG,aD,iT,htr,hrp,Nat.le_refl,and_self,go_sem]) (by simp [aD]) rfl rfl ?_; simp only [go_sem]
 cases q with
 | some o=>simp only [nQ,Option.getD_some,Option.isSome_some,go_sem]
 | none=>
   simp only [nQ,Option.getD_none,Option.isSome_none,go_sem]
   refine bq (hp) rfl rfl rfl rfl ?_; simp only [go_sem]
   cases p with
   | none=>
     simp only [nQ,Option.getD_none,Option.isSome_none,go_sem]
     refine au rfl ?_
     simp only [go_sem]
   | some o=>
     simp only [nQ,Option.getD_some,Option.isSome_some,go_sem]
     refine au rfl ?_
     simp only [go_sem]
end Dv
namespace Dv
open Go Go.Proofs
def Cr:Nat×C×List RV:=(112,
(.seq (.iJ [qo 6 (.new 87 [q0,q0,q0,q0,q0,q0,q0,q0,q0,q0,q0]),
 qo 7 (.mv qf)])
 (.seq (.iJ [qm 11 0,
 qo 12 (.kT (.t 11)),
 qo 13 (.eO 18 (.t 12)),
 qo 14 (.ld1 (.t 13)),
 qm 15 1,
 qo 16 (.A3 26 (.t 14) (.t 15)),
 qm 8 16])
 (.seq (.jA [qm 18 0,
 qd 19 (.kT (.t 18)) [0],
 qd 20 (.eO 12 (.t 19)) [1,0],
 qd 21 (.Bi 6 (.t 20)) [2,1,0],
 qm 22 1,
 qm 23 0,
 qd 24 (.kT (.t 23)) [5],
 qd 25 (.eO 11 (.t 24)) [6,5],
 qd 26 (.ld1 (.t 25)) [7,6,5],
 qd 27 (.call (.f 201) [(.t 21),(.t 22),(.t 26)]) [3,2,1,0,4,8,7,6,5],
 qd 17 (.mv (.t 27)) [9,3,2,1,0,4,8,7,6,5],
 qd 28 (.ext (.t 17) 0) [10,9,3,2,1,0,4,8,7,6,5],
 qd 29 (.ext (.t 17) 1) [10,9,3,2,1,0,4,8,7,6,5],
 qo 9 (.new 87 [q0,q0,q0,q0,q0,q0,q0,q0,q0,q0,q0]),
 ql (.st 11 (.t 9) (.t 28)) [13,11,10,9,3,2,1,0,4,8,7,6,5],
 qd 10 (.mv (.t 29)) [12,10,9,3,2,1,0,4,8,7,6,5,14,13,11]])
 (.seq (.block 0 (.seq (.iJ [qm 31 10,
 qo 32 (.not (.t 31)),
 qm 30 32])
 (.cond (.t 30) (.seq (.iJ [qm 33 8,
 qo 34 (.kT (.t 33)),
 qo 35 (.eO 1 (.t 34)),
 qn (.st 1 (.t 35) qf)])
 (.seq (.iJ [qo 36 (.build [q0,q0,q0,q0,q0,q0,q0,q0,q0,q0,q0] []),
 qn (.st 11 (.t 6) (.t 36)),
 qo 7 (.mv qf)])
 .ret))
 (.seq (.jA [qm 38 8,
 qd 39 (.kT (.t 38)) [0],
 qd 40 (.eO 1 (.t 39)) [1,0],
 qd 41 (.ld1 (.t 40)) [2,1,0],
 qd 42 (.not (.t 41)) [3,2,1,0],
 qd 43 (.mv (.t 42)) [4,3,2,1,0],
 qe 44 (.Bi 11 (.t 9)) 43 false [5,4,3,2,1,0],
 qe 45 (.mv (.t 8)) 43 false [5,4,3,2,1,0],
 qe 46 (.kT (.t 45)) 43 false [7,5,4,3,2,1,0],
 qe 47 (.eO 2 (.t 46)) 43 false [8,7,5,4,3,2,1,0],
 qe 48 (.Bi 11 (.t 47)) 43 false [9,8,7,5,4,3,2,1,0],
 qe 49 (.call (.f 202) [(.t 44),(.t 48)]) 43 false [6,5,4,3,2,1,0,10,9,8,7],
 qe 50 (.not (.t 49)) 43 false [11,6,5,4,3,2,1,0,10,9,8,7],
 qd 51 (.pick (.t 43) qt (.t 50)) [5,4,3,2,1,0,12,11,6,10,9,8,7],
 qd 37 (.mv (.t 51)) [13,5,4,3,2,1,0,12,11,6,10,9,8,7]])
 (.cond (.t 37) (.seq (.jA [qm 52 8,
 qm 53 8,
 qm 54 8,
 qo 55 (.Bi 11 (.t 9)),
 qo 56 (.build [q0,q0,q0,q0,q0,q0,q0,q0,q0,q0,q0] []),
 qd 57 (.kT (.t 52)) [0],
 qd 58 (.eO 1 (.t 57)) [5,0],
 ql (.st 1 (.t 58) qt) [6,5,0],
 qd 59 (.kT (.t 53)) [1,0,3,5,6,7],
 qd 60 (.eO 2 (.t 59)) [8,1,0,3,5,6,7],
 ql (.st 11 (.t 60) (.t 55)) [9,8,1,0,3,5,6,7],
 qd 61 (.kT (.t 54)) [2,0,1,3,4,5,6,7,8,9,10],
 qd 62 (.eO 15 (.t 61)) [11,2,0,1,3,4,5,6,7,8,9,10],
 ql (.st 11 (.t 62) (.t 56)) [12,11,2,0,1,3,4,5,6,7,8,9,10]])
 (.iJ [qm 63 8,
 qo 64 (.kT (.t 63)),
 qo 65 (.eO 0 (.t 64)),
 qo 66 (.ld1 (.t 65)),
 qo 67 (.bin .add (.t 66) (qk 1)),
 qo 68 (.kT (.t 63)),
 qo 69 (.eO 0 (.t 68)),
 qn (.st 1 (.t 69) (.t 67))]))
 (.seq (.jA [qm 71 2,
 qm 72 8,
 qd 73 (.kT (.t 72)) [1],
 qd 74 (.eO 13 (.t 73)) [2,1],
 qd 75 (.ld1 (.t 74)) [3,2,1],
 qm 76 0,
 qd 77 (.kT (.t 76)) [5],
 qd 78 (.eO 0 (.t 77)) [6,5],
 qd 79 (.eO 5 (.t 78)) [7,6,5],
 qd 80 (.ld1 (.t 79)) [8,7,6,5],
 qd 81 (.bin .add (.t 75) (.t 80)) [4,3,2,1,9,8,7,6,5],
 qd 82 (.bin .lss (.t 71) (.t 81)) [0,10,4,3,2,1,9,8,7,6,5],
 qd 70 (.mv (.t 82)) [11,0,10,4,3,2,1,9,8,7,6,5]])
 (.cond (.t 70) (.seq (.iJ [qo 83 (.build [q0,q0,q0,q0,q0,q0,q0,q0,q0,q0,q0] []),
 qn (.st 11 (.t 6) (.t 83)),
 qo 7 (.mv qf)])
 .ret)
 .skip)))))))
 (.seq (.iJ [qm 84 8,
 qm 85 2,
 qo 86 (.kT (.t 84)),
 qo 87 (.eO 13 (.t 86)),
 qn (.st 1 (.t 87) (.t 85))])
 (.seq (.jA [qm 88 0,
 qd 89 (.kT (.t 88)) [0],
 qd 90 (.eO 12 (.t 89)) [1,0],
 qd 91 (.eO 5 (.t 90)) [2,1,0],
 qd 92 (.ld1 (.t 91)) [3,2,1,0],
 qm 93 8,
 qd 94 (.kT (.t 93)) [5],
 qd 95 (.eO 0 (.t 94)) [6,5],
 qd 96 (.ld1 (.t 95)) [7,6,5],
 qm 97 8,
 qd 98 (.kT (.t 97)) [9],
 qd 99 (.eO 14 (.t 98)) [10,9],
 qd 100 (.ld1 (.t 99)) [11,10,9],
 qm 101 0,
 qd 102 (.kT (.t 101)) [13],
 qd 103 (.eO 0 (.t 102)) [14,13],
 qd 104 (.eO 4 (.t 103)) [15,14,13],
 qd 105 (.ld1 (.t 104)) [16,15,14,13],
 qd 106 (.bin .add (.t 100) (.t 105)) [12,11,10,9,17,16,15,14,13],
 qd 107 (.min (qk 1000000) (.t 106)) [18,12,11,10,9,17,16,15,14,13],
 qd 108 (.eO 2 (.t 9)) [0,1,2,3,4],
 ql (.st 1 (.t 108) (.t 92)) [20,0,1,2,3,4],
 qd 109 (.eO 3 (.t 9)) [0,1,2,3,4,5,6,7,8,20,21],
 ql (.st 1 (.t 109) (.t 96)) [22,0,1,2,3,4,5,6,7,8,20,21],
 qd 110 (.eO 8 (.t 9)) [0,1,2,3,4,5,6,7,8,9,10,11,12,13,14,15,16,17,18,19,20,21,22,23],
 ql (.st 1 (.t 110) (.t 107)) [24,0,1,2,3,4,5,6,7,8,9,10,11,12,13,14,15,16,17,18,19,20,21,22,23]])
 (.seq (.iJ [qo 111 (.Bi 11 (.t 9)),
 qn (.st 11 (.t 6) (.t 111)),
 qo 7 (.mv qt)])
 .ret))))))),
[(.cn 6 11),(.t 7)])
theorem uK:aj Tryz.prog Tryz.f118=some Cr:=by kernel_rfl
def lK (x:aO) (q:Option dA) (now:Int) (l:mY):mY×Option dA:=match q with
 | none=>({ l with has:=false },none)
 | some m=>
   if l.has=false∨Ew m l.order=false then ({ l with has:=true,order:=m,report:=mF,gen:=IntKind.i64.wrap (l.gen+1),sent:=now },some { m with term:=x.s.term,gen:=IntKind.i64.wrap (l.gen+1),til:=if IntKind.i64.wrap (l.heard+x.c.bZ)<1000000 then IntKind.i64.wrap (l.heard+x.c.bZ) else 1000000 })
   else if now<IntKind.i64.wrap (l.sent+x.c.eC) then (l,none)
   else ({ l with sent:=now },some { m with term:=x.s.term,gen:=l.gen,til:=if IntKind.i64.wrap (l.heard+x.c.bZ)<1000000 then IntKind.i64.wrap (l.heard+x.c.bZ) else 1000000 })
theorem NW {α:Type} {l:List α} {i:Nat} {v:α} (h:l[i]? = some v):l.set i v=l:=by
 obtain ⟨h1,h2⟩:=List.getElem?_eq_some_iff.1 h
 subst h2
 exact List.set_getElem_self h1
theorem Dd (x:aO) (now:Int) (i:Nat) (hi:i<x.lines.length) (q:Option dA) (v_:bw Tryz.prog eE 201 [aY x.s,.int i,.ptr 0 0] (gu x.room x.term x.sh x.wr) (ij q) (gu x.room x.term x.sh x.wr)) :
  bw Tryz.prog eE 118 [.ptr 0 0,.int i,.int now] (bX x) (ij (lK x q now (x.lines.getD i fC)).2) (bX { x with lines:=x.lines.set i (lK x q now (x.lines.getD i fC)).1 }):=by
 have hg:=aJ (f:=mL) fC hi
 have vw:∀ v,((x.lines.map mL).set i v)[i]? = some v:=fun v=>List.getElem?_set_self (by simpa using hi)
 simp only [gu,List.cons_append,List.nil_append] at v_
 generalize x.lines.getD i fC=l at *
 obtain ⟨lg,lhs,⟨q0,q1,q2,q3,q4,q5,q6,q7,q8,q9,q10⟩,ls,le,⟨r0,r1,r2,r3,r4,r5,r6,r7,r8,r9,r10⟩⟩:=l
 simp only [mL,lX,List.cons_append,List.nil_append] at hg
 cases q with
 | none=>
   simp only [lK]
   refine aT Tryz.func118 (by decide) uK rfl rfl (cC _ (Nat.le_refl 8) _) rfl ?_
   simp only [ij,Option.getD_none,Option.isSome_none] at v_ ⊢
   simp only [bX,d_,aP,List.length_set,Cr,go_sem]
   simp only [hi,go_sem]
   refine ey [6] (v_) rfl ?_ (by decide) ?_ ?_ ?_ <;> simp only [ag,ah,go_sem,aV,bD,aL,aR]
   refine au rfl ?_
   simp only [hi,hg,vw,mL,List.map_set,List.length_set,List.set_set,go_sem]
 | some m=>
   obtain ⟨m0,m1,m2,m3,m4,m5,m6,m7,m8,m9,m10⟩:=m
   have hal:=Nj (G:=eE) ⟨m0,m1,m2,m3,m4,m5,m6,m7,m8,m9,m10⟩ ⟨q0,q1,q2,q3,q4,q5,q6,q7,q8,q9,q10⟩
   simp only [lK]
   generalize Ew ⟨m0,m1,m2,m3,m4,m5,m6,m7,m8,m9,m10⟩ ⟨q0,q1,q2,q3,q4,q5,q6,q7,q8,q9,q10⟩=al at *
   cases lhs with
   | false=>
     simp only [true_or,if_true]
     refine aT Tryz.func118 (by decide) uK rfl rfl (cC _ (Nat.le_refl 8) _) rfl ?_
     simp only [ij,Option.getD_some,Option.isSome_some] at v_
     simp only [ij,Option.getD_some,Option.isSome_some,Option.getD_none,Option.isSome_none]
     simp only [bX,d_,aP,List.length_set,Cr,go_sem]
     simp only [hi,go_sem]
     refine ey [6] (v_) rfl ?_ (by decide) ?_ ?_ ?_ <;> simp only [ag,ah,go_sem,aV,bD,aL,aR]
     refine au rfl ?_
     simp only [hi,hg,vw,mF,mL,List.map_set,List.length_set,List.set_set,go_sem]
     (repeat (refine au rfl ?_; (try simp only [hi,hg,vw,mF,mL,List.map_set,List.length_set,List.set_set,go_sem])))
   | true=>
   cases al with
   | false=>
     simp only [Bool.true_eq_false,or_true,if_true]
     refine aT Tryz.func118 (by decide) uK rfl rfl (cC _ (Nat.le_refl 8) _) rfl ?_
     simp only [ij,Option.getD_some,Option.isSome_some] at v_
     simp only [ij,Option.getD_some,Option.isSome_some,Option.getD_none,Option.isSome_none]
     simp only [bX,d_,aP,List.length_set,Cr,go_sem]
     simp only [hi,go_sem]
     refine ey [6] (v_) rfl ?_ (by decide) ?_ ?_ ?_ <;> simp only [ag,ah,go_sem,aV,bD,aL,aR]
     refine au rfl ?_
     simp only [hi,hg,vw,mF,mL,List.map_set,List.length_set,List.set_set,go_sem]
     refine bq (hal) rfl rfl rfl rfl ?_; simp only [go_sem]
     simp only [hi,hg,vw,mF,mL,List.map_set,List.length_set,List.set_set,go_sem]
     (repeat (refine au rfl ?_; (try simp only [hi,hg,vw,mF,mL,List.map_set,List.length_set,List.set_set,go_sem])))
   | true=>
     simp only [Bool.true_eq_false,or_false,if_false]
     by_cases hl:now<IntKind.i64.wrap (ls+x.c.eC)
     ·simp only [hl,if_true]
      refine aT Tryz.func118 (by decide) uK rfl rfl (cC _ (Nat.le_refl 8) _) rfl ?_
      simp only [ij,Option.getD_some,Option.isSome_some] at v_
      simp only [ij,Option.getD_some,Option.isSome_some,Option.getD_none,Option.isSome_none]
      simp only [bX,d_,aP,List.length_set,Cr,go_sem]
      simp only [hi,go_sem]
      refine ey [6] (v_) rfl ?_ (by decide) ?_ ?_ ?_ <;> simp only [ag,ah,go_sem,aV,bD,aL,aR]
      refine au rfl ?_
      simp only [hi,hg,vw,mF,mL,List.map_set,List.length_set,List.set_set,go_sem]
      refine bq (hal) rfl rfl rfl rfl ?_; simp only [go_sem]
      simp only [decide_eq_true hl,hi,hg,vw,mF,mL,List.map_set,List.length_set,List.set_set,go_sem]
      (repeat (refine au rfl ?_; (try simp only [decide_eq_true hl,hi,hg,vw,mF,mL,List.map_set,List.length_set,List.set_set,go_sem])))
      rw [NW hg]
     ·simp only [hl,if_false]
      refine aT Tryz.func118 (by decide) uK rfl rfl (cC _ (Nat.le_refl 8) _) rfl ?_
      simp only [ij,Option.getD_some,Option.isSome_some] at v_
      simp only [ij,Option.getD_some,Option.isSome_some,Option.getD_none,Option.isSome_none]
      simp only [bX,d_,aP,List.length_set,Cr,go_sem]
      simp only [hi,go_sem]
      refine ey [6] (v_) rfl ?_ (by decide) ?_ ?_ ?_ <;> simp only [ag,ah,go_sem,aV,bD,aL,aR]
      refine au rfl ?_
      simp only [hi,hg,vw,mF,mL,List.map_set,List.length_set,List.set_set,go_sem]
      refine bq (hal) rfl rfl rfl rfl ?_; simp only [go_sem]
      simp only [decide_eq_false hl,hi,hg,vw,mF,mL,List.map_set,List.length_set,List.set_set,go_sem]
      (repeat (refine au rfl ?_; (try simp only [decide_eq_false hl,hi,hg,vw,mF,mL,List.map_set,List.length_set,List.set_set,go_sem])))
end Dv
namespace Dv
open Go Go.Proofs
def abi:=qx Tryz.f44
theorem ZC:aj Tryz.prog Tryz.f44=some abi:=by kernel_rfl
def cT (y:aO) (had:Int→Int) (now:Int):Nat→aO×List dA
 | 0=>(y,[])
 | k+1=>({ (cT y had now k).1 with lines:=(cT y had now k).1.lines.set k (lK (cT y had now k).1 (lT y.s had k) now ((cT y had now k).1.lines.getD k fC)).1 },(cT y had now k).2++(lK (cT y had now k).1 (lT y.s had k) now ((cT y had now k).1.lines.getD k fC)).2.toList)
structure VT (y z:aO):Prop where
 c:z.c=y.c
 s:z.s=y.s
 j:z.j=y.j
 room:z.room=y.room
 term:z.term=y.term
 sh:z.sh=y.sh
 wr:z.wr=y.wr
 len:z.lines.length=y.lines.length
 down:z.down=y.down
 er:z.er=y.er
theorem nL (y:aO) (had:Int→Int) (now:Int):∀ k,VT y (cT y had now k).1
 | 0=>⟨rfl,rfl,rfl,rfl,rfl,rfl,rfl,rfl,rfl,rfl⟩
 | k+1=>by
   have h:=nL y had now k
   exact ⟨h.c,h.s,h.j,h.room,h.term,h.sh,h.wr,by show (List.set _ _ _).length=_; rw [List.length_set,h.len],h.down,h.er⟩
theorem vG (y:aO) (had:Int→Int) (now:Int):∀ k,(cT y had now k).2.length≤k
 | 0=>Nat.le_refl _
 | k+1=>by
   have h:=vG y had now k
   show ((cT y had now k).2++(lK (cT y had now k).1 (lT y.s had k) now ((cT y had now k).1.lines.getD k fC)).2.toList).length≤k+1
   rw [List.length_append]
   have:∀ q:Option dA,q.toList.length≤1:=fun q=>by cases q <;> simp
   have:=this (lK (cT y had now k).1 (lT y.s had k) now ((cT y had now k).1.lines.getD k fC)).2
   omega
def aO.kZ (x:aO) (now:Int) (q p:Option cA):aO:=match x.jE now q p with
 | some o=>x.bQ o now
 | none=>x
def aO.aaA (x:aO) (now:Int) (q p:Option cA):cA:=match x.jE now q p with
 | some o=>if x.ek o=0 then o else ia
 | none=>ia
def AS (o:cA):aH:=.box 37 [.int o.kind,.int o.a,.int o.b,.int o.c,.int o.d,.int o.e,.int o.f]
def Np (z:aO) (now:Int) (o:cA) (ms:List dA) (k:Nat):St:=⟨[(0,.ptr 0 0),(1,.int now),(4,.ptr 8 0),(5,.d (.val (.slice none 0 0))),(6,.ptr 9 0),(8,.sl 10 ms.length 11 0 ms.length),(41,.int z.lines.length),(42,.int k)],(bX z).map some++[some (AS ia),some (AS o),some (.dat 87 11 (ms.map lX))]⟩
theorem VM (x:aO) (h:CX x) (hd:x.down=false) (now:Int) (DZ:0≤now∧now≤1000000) (hT:∀ l∈x.lines,0≤l.heard∧l.heard≤1000000) (u p:Option cA) (hf:bw Tryz.prog eE 199 [aY x.s,iT (x.pS x.lines.length),.int now] [] (nQ u) []) (hp:bw Tryz.prog eE 200 [fV x.c,aY x.s,.int now] [] (nQ p) []) (had:Int→Int)
  (v_:∀ i,i<(x.kZ now u p).lines.length→bw Tryz.prog eE 201 [aY (x.kZ now u p).s,.int i,.ptr 0 0] (gu (x.kZ now u p).room (x.kZ now u p).term (x.kZ now u p).sh (x.kZ now u p).wr) (ij (lT (x.kZ now u p).s had i)) (gu (x.kZ now u p).room (x.kZ now u p).term (x.kZ now u p).sh (x.kZ now u p).wr)) :
  bw Tryz.prog eE 44 [.ptr 0 0,.int now] (bX x) (.dJ [tO (x.aaA now u p),iT (cT (x.kZ now u p) had now x.lines.length).2]) (bX (cT (x.kZ now u p) had now x.lines.length).1):=by
 have ha:=pq (G:=eE) x
 have Mm:=yT (G:=eE) now
 have hnx:=DK x h now DZ hT u p hf hp
 rw [hd] at ha
 rw [decide_eq_true DZ] at Mm
 have hnt:=fun o=>bw.up (uC x h o now) nM
 have EB:x.lines.length≤6:=by have:=h.lines; have:=h.right.len; omega
 have abv:(x.kZ now u p).lines.length=x.lines.length:=by
  unfold aO.kZ
  split
  ·rename_i o _
   have h1:=(h.note o now).lines
   have h2:=h.lines
   have h3:=(h.note o now).right.nodes
   have h4:=h.right.nodes
   rw [JX] at h3
   omega
  ·rfl
 have hyc:CX (x.kZ now u p):=by
  unfold aO.kZ
  split
  ·exact h.note _ now
  ·exact h
 have hY:x.kZ now u p=match x.jE now u p with | some o=>x.bQ o now | none=>x:=rfl
 have hQ:x.aaA now u p=match x.jE now u p with | some o=>if x.ek o=0 then o else ia | none=>ia:=rfl
 generalize x.kZ now u p=y at *
 generalize x.aaA now u p=q at *
 have we:x.lines.length=y.lines.length:=abv.symm
 rw [we] at EB ⊢
 obtain ⟨F,hF⟩:∃ F,F=cT y had now y.lines.length:=⟨_,rfl⟩
 rw [← hF]
 simp only [bX,d_,aP,List.cons_append,List.nil_append] at ha hnx
 refine cD Tryz.func44 (by decide) ZC rfl ?_
 simp only [bX,d_,aP,abi,go_sem]
 refine gW [0,1,2,3,4,5,6,7] (ha) rfl ?_ (by decide) ?_ ?_ ?_ <;> simp only [ag,ah,go_sem,aV,bD,aL,aR]
 refine ay (Mm) rfl rfl rfl rfl ?_; simp only [go_sem]
 refine gW [0,1,2,3,4,5,6,7] (hnx) rfl ?_ (by decide) ?_ ?_ ?_ <;> simp only [ag,ah,go_sem,aV,bD,aL,aR]
 have tP:=nL y had now
 have hl2:=vG y had now
 cases hno:x.jE now u p
 case' none=>
  rw [hno] at hY hQ
  have hY2:y=x:=hY
  have hq:q=ia:=hQ
  subst hY2
  simp only [nQ,Option.getD_none,Option.isSome_none,go_sem]
 case' some o=>
  rw [hno] at hY hQ
  have hY2:x.bQ o now=y:=hY.symm
  have hnt:=hnt o
  rw [hY2] at hnt
  simp only [bX,d_,aP,List.cons_append,List.nil_append] at hnt
  simp only [nQ,Option.getD_some,Option.isSome_some,go_sem]
  refine av [0,1,2,3,4,5,6,7] (hnt) rfl ?_ (by decide) ?_ ?_ (by simp) ?_ <;> simp only [ag,ah,go_sem,aV,bD,aL,aR]
  by_cases he:x.ek o=0
  case' pos=>
   have hq:q=o:=by rw [hQ]; exact if_pos he
   simp only [he,bne_self_eq_false,go_sem]
  case' neg=>
   have hq:q=ia:=by rw [hQ]; exact if_neg he
   simp only [show (x.ek o !=0)=true from bne_iff_ne.2 he,go_sem]
 all_goals
  refine aW [0,1,4,5,6,8,41,42] [.t 8 87 11] (fun k:Nat=>k≤y.lines.length) (fun k=>y.lines.length-k) (fun k=>Np (cT y had now k).1 now q (cT y had now k).2 k) 0 ?_ (Nat.zero_le _) (fun k hk=>?_)
  ·simp only [Np,cT,hq,AS,bX,d_,aP,Int.natCast_zero,go_sem]
  have hz:=tP k
  have hzl:=hl2 k
  have Cw:cT y had now (k+1)=({ (cT y had now k).1 with lines:=(cT y had now k).1.lines.set k (lK (cT y had now k).1 (lT y.s had k) now ((cT y had now k).1.lines.getD k fC)).1 },(cT y had now k).2++(lK (cT y had now k).1 (lT y.s had k) now ((cT y had now k).1.lines.getD k fC)).2.toList):=rfl
  by_cases hlt:k<y.lines.length
  ·have hT:=Dd (cT y had now k).1 now k (by rw [hz.len]; exact hlt) (lT y.s had k) (by rw [hz.s,hz.room,hz.term,hz.sh,hz.wr]; exact v_ k hlt)
   generalize (cT y had now k).1=z at *
   generalize (cT y had now k).2=ms at *
   generalize lK z (lT y.s had k) now (z.lines.getD k fC)=tl at *
   have Kt:=hz.len
   simp only [bX,d_,aP,List.length_set,List.cons_append,List.nil_append] at hT
   simp only [Np,AS,bX,d_,aP,Kt,go_sem]
   simp only [decide_eq_true (show ((k:Nat):Int)<((y.lines.length:Nat):Int) by omega),go_sem]
   rw [Kt] at hT
   refine av [0,1,2,3,4,5,6,7] (hT) rfl ?_ (by decide) ?_ ?_ (by simp) ?_ <;> simp only [ag,ah,go_sem,aV,bD,aL,aR]
   obtain ⟨l2,r2⟩:=tl
   have c1:(ms.length+1)*88≤70368744177664:=by omega
   cases r2 with
   | none=>
     simp only [ij,Option.getD_none,Option.isSome_none,go_sem]
     refine a_ (k+1) ?_ ?_ (show k+1≤y.lines.length by omega) (show y.lines.length-(k+1)<y.lines.length-k by omega)
     ·simp only [aL,aR,go_sem]
     ·simp only [aG (show k<9223372036854775807 by omega),Cw,Option.toList,Kt,List.length_set,Np,AS,bX,d_,aP,go_sem]
   | some m=>
     simp only [ij,Option.getD_some,Option.isSome_some,List.length_append,c1,go_sem]
     refine a_ (k+1) ?_ ?_ (show k+1≤y.lines.length by omega) (show y.lines.length-(k+1)<y.lines.length-k by omega)
     ·simp only [aL,aR,go_sem]
     ·simp only [aG (show k<9223372036854775807 by omega),Cw,Option.toList,Kt,List.length_set,List.map_append,List.length_append,Np,AS,bX,d_,aP,go_sem]
  ·obtain rfl:k=y.lines.length:=by omega
   rw [← hF] at *
   simp only [Np,AS,bX,d_,aP,go_sem]
   simp only [hz.len,decide_eq_false (show ¬ ((y.lines.length:Nat):Int)<((y.lines.length:Nat):Int) by omega),go_sem]
   have hid:=cC 8 (Nat.le_refl 8) F.1
   simp only [bX,d_,aP,hz.len,bO,cO,LV.int,LV.bool,List.cons_append,List.nil_append] at hid
   have htk:List.take F.2.length (List.map lX F.2)=List.map lX F.2:=List.take_of_length_le (by rw [List.length_map]; exact Nat.le_refl _)
   refine dh [] [0,1,2,3,4,5,6,7] [10] (vs:=[.agg [.int q.kind,.int q.a,.int q.b,.int q.c,.int q.d,.int q.e,.int q.f],.sl 10 F.2.length 11 0 F.2.length]) rfl rfl (by decide) (by decide) (by simp [St.obj,aD,dg]) ?_ hid ?_
   ·simp only [List.map_cons,List.map_nil,fB,ni,aV,bD]
    rfl
   simp [aU,ah,ag,bG,LV.int,LV.bool,htk,St.obj,aD,dg]
end Dv
