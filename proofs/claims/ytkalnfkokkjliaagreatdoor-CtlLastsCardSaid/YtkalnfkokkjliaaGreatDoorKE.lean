/- part -/
import Derived.Test.YtkalnfkokkjliaaGreatDoorQD
import Derived.Test.YtkalnfkokkjliaaGreatDoorVD
import Derived.Test.YtkalnfkokkjliaaGreatDoorAB
set_option linter.all false
set_option maxHeartbeats 8000000
set_option maxRecDepth 100000
namespace Dv
open Go Go.Proofs
def ir6:=qx Tryz.f6
theorem abl:aj Tryz.prog Tryz.f6=some ir6:=by kernel_rfl
def V_ (l:List vQ) (i:Nat):List (Nat×LV):=[(1,jK l),(2,.ptr 0 0),(4,.bool false),(5,.ptr 1 0),(6,.ptr 3 0),(7,.ptr 4 0),(8,.int 0),(9,.int i)]
def clS (c:aF) (l:List vQ) (q:Nat×aN):St:=⟨V_ l q.1,(sM c q.2).map some⟩
theorem Hy (x:aN) (o:cB) (keep:Int):(x.nU o keep).room=x.room∧(x.nU o keep).term=x.term∧(x.nU o keep).sh=x.sh∧(x.nU o keep).wr=x.wr∧(x.nU o keep).j.n=x.j.n:=by
 have hjn:(x.bH o).n=x.j.n:=by
  unfold aN.bH aN.EP
  split
  ·rfl
  split
  ·rfl
  ·exact gP.tC _ _
 unfold aN.nU
 split
 ·refine ⟨rfl,rfl,rfl,rfl,?_⟩
  show (if x.dK o=0 then (x.bH o).Lr (fh o) keep else x.bH o).n=_
  split <;> exact hjn
 ·exact ⟨rfl,rfl,rfl,rfl,rfl⟩
theorem BS (aaD:bu Tryz.prog eB 26 [] [] (.bool true) []) (c:aF) (l:List vQ):bu Tryz.prog eB 6 [fN c,jK l] [] (.bool true) []:=by
 have adA:=VN (G:=eB) c l
 refine Zs Tryz.func6 (by decide) abl rfl ?_
 simp only [ir6,go_sem]
 have u7:∀ s:St,s.get 4=.bool true→sE ir6.2.2 0 (.bool true) [] s:=fun s h=>dQ [] (vs:=[.bool true]) (by simp [yB.of,RV.of,h,ir6,qxE]) (by simp) (by simp [aV,ah,LV.bool])
 refine av (aaD) rfl rfl rfl rfl ?_; simp only [go_sem]
 refine av (adA) rfl rfl rfl rfl ?_; simp only [go_sem]
 cases hF:Q_ c l with
 | false=>
   simp only [go_sem]
   exact u7 _ rfl
 | true=>
 obtain ⟨hlen,hm,hd4,El⟩:=VO hF
 simp only [jK,go_sem]
 have hdk:2000≤c.ga:=by
  unfold gH at hm
  simp only [Bool.and_eq_true] at hm
  exact (bp hm.2).1
 obtain ⟨n,hn⟩:∃ n:Nat,c.ga=n:=⟨c.ga.toNat,by omega⟩
 have hdn:=GD (G:=eB) n (by omega) (by omega)
 have hsn:=Dy (G:=eB) c.room
 have hb:=bu.up (Nq c hm n (by omega) 0 (if c.room>0 then c.room else 0) 0 (List.replicate 25 iB) (by rw [List.length_replicate]) 0 0 (by decide)) gU
 have hok:=Iu hm (n:=n) (by omega) (if c.room>0 then c.room else 0)
 generalize Nf c n 0 (if c.room>0 then c.room else 0) 0 (List.replicate 25 iB) 0 0=x0 at *
 generalize hsh:List.replicate 25 iB=sh at *
 generalize (if c.room>0 then c.room else 0)=room at *
 simp only [cU,List.length_replicate] at hdn hb
 simp only [iu,rD,Dc,List.cons_append,List.nil_append] at hsn hb
 rw [← hn] at hdn
 refine kA hdn rfl rfl rfl ?_
 simp only [go_sem]
 refine kA hsn rfl rfl rfl ?_
 simp only [aU,bE,go_sem]
 refine ay rfl ?_
 simp only [go_sem]
 refine au [1,2,3] (hb) rfl ?_ (by decide) ?_ ?_ (by simp) ?_ <;> simp only [ag,ah,go_sem,aU,bE,aK,aP]
 refine aW [1,2,4,5,6,7,8,9] [] (fun q:Nat×aN=>q.1≤l.length∧gw c n (2*q.1+1) q.2) (fun q=>l.length-q.1) (clS c l) (0,x0) ?_ ⟨Nat.zero_le _,hok⟩ ?_
 ·simp only [clS,V_,sM,vH,vB,aR,jK,Int.natCast_zero,go_sem]
 rintro ⟨i,x⟩ ⟨hi,hx⟩
 dsimp only at hi hx
 simp only [clS,V_,sM,vH,vB,aR,jK,go_sem]
 by_cases hlt:i<l.length
 case neg=>
  simp only [decide_eq_false (show ¬ ((i:Nat):Int)<((l.length:Nat):Int) by omega),go_sem]
  exact u7 _ rfl
 have hg:=aM (f:=JR) G5 hlt
 have hna:=El (l.getD i G5) (by rw [List.getD,List.getElem?_eq_getElem hlt]; exact List.getElem_mem hlt)
 generalize l.getD i G5=a at *
 obtain ⟨ak,an,G1,⟨o1,o2,o3,o4,o5,o6,o7⟩,⟨m0,m1,m2,m3,m4,m5,m6,m7,m8,m9,m10⟩,a1,a2,a3,a4,ad⟩:=a
 simp only [JR,opR,nL,List.cons_append,List.nil_append] at hg
 dsimp only at hna
 have sP:x.s.nodes.length≤1000:=by have:=hx.fi.ok.right.len; omega
 have hlj:x.s.jobs.length≤1000:=by have:=hx.fi.ok.right.jobs; omega
 have hst:=tS (G:=eB) x hx.fi.dn sP hlj
 have hrt:=wg (G:=eB) c x.s
 rw [(d_ c x.s).2 (by have:=hx.fi.ok.right; rw [hx.fi.cf] at this; exact this)] at hrt
 simp only [bT,dS,aR,aX,List.cons_append,List.nil_append] at hst hrt
 simp only [decide_eq_true (show ((i:Nat):Int)<((l.length:Nat):Int) by omega),hlt,hg,go_sem]
 refine fT [4,6,1,7,8,2,3,5] (hst) rfl ?_ (by decide) ?_ ?_ ?_ <;> simp only [ag,ah,go_sem,aU,bE,aK,aP]
 refine av (hrt) rfl rfl rfl rfl ?_; simp only [go_sem]
 by_cases k0:ak=0
 case pos=>
  subst k0
  obtain ⟨e,y,hdo,hyI⟩:=SQ hx (by omega) ⟨o1,o2,o3,o4,o5,o6,o7⟩ hna
  simp only [bT,dS,aR,List.cons_append,List.nil_append] at hdo
  simp only [go_sem]
  refine au [4,6,1,7,8,2,3,5] (hdo) rfl ?_ (by decide) ?_ ?_ (by simp) ?_ <;> simp only [ag,ah,go_sem,aU,bE,aK,aP]
  refine bh (i+1,_) ?_ ?_ ⟨show i+1≤l.length by omega,hyI.more (show 2*i+1+1≤2*(i+1)+1 by omega)⟩ (show l.length-(i+1)<l.length-i by omega)
  ·simp only [aK,aP,go_sem]
  ·simp only [aH (show i<9223372036854775807 by omega),clS,V_,sM,vH,vB,aR,jK,go_sem]
 simp only [beq_eq_false_iff_ne.2 k0,go_sem]
 by_cases k1:ak=1
 case pos=>
  subst k1
  obtain ⟨o,y,ms,hact,hyI,_⟩:=PB hx (by omega) hna
  simp only [bT,dS,aR,List.cons_append,List.nil_append] at hact
  simp only [go_sem]
  refine au [4,6,1,7,8,2,3,5] (hact) rfl ?_ (by decide) ?_ ?_ (by simp) ?_ <;> simp only [ag,ah,go_sem,aU,bE,aK,aP]
  refine bh (i+1,_) ?_ ?_ ⟨show i+1≤l.length by omega,hyI.more (show 2*i+1+1≤2*(i+1)+1 by omega)⟩ (show l.length-(i+1)<l.length-i by omega)
  ·simp only [aK,aP,go_sem]
  ·simp only [aH (show i<9223372036854775807 by omega),clS,V_,sM,vH,vB,aR,jK,go_sem]
 simp only [beq_eq_false_iff_ne.2 k1,go_sem]
 by_cases k2:ak=2
 case pos=>
  subst k2
  have hhr:=QE (G:=eB) x hx.fi.dn hx.fi.ok.lines ⟨m0,m1,m2,m3,m4,m5,m6,m7,m8,m9,m10⟩ an
  obtain ⟨hyI,hys,_⟩:=hx.aay ⟨m0,m1,m2,m3,m4,m5,m6,m7,m8,m9,m10⟩ hna
  generalize x.kP ⟨m0,m1,m2,m3,m4,m5,m6,m7,m8,m9,m10⟩ an=y at *
  have hst2:=tS (G:=eB) y hyI.fi.dn (by rw [hys]; exact sP) (by rw [hys]; exact hlj)
  have hS:=Wu x.s y.s hys.symm sP hlj
  simp only [bT,dS,aR,yt,aX,List.cons_append,List.nil_append] at hhr hst2 hS
  simp only [go_sem]
  refine au [4,6,1,7,8,2,3,5] (hhr) rfl ?_ (by decide) ?_ ?_ (by simp) ?_ <;> simp only [ag,ah,go_sem,aU,bE,aK,aP]
  refine eA [4,6,1,7,8,2,3,5] (hst2) rfl ?_ (by decide) ?_ ?_ ?_ <;> simp only [ag,ah,go_sem,aU,bE,aK,aP]
  refine bf (hS) rfl rfl rfl rfl ?_; simp only [go_sem]
  refine bh (i+1,_) ?_ ?_ ⟨show i+1≤l.length by omega,hyI.more (show 2*i+1≤2*(i+1)+1 by omega)⟩ (show l.length-(i+1)<l.length-i by omega)
  ·simp only [aK,aP,go_sem]
  ·simp only [aH (show i<9223372036854775807 by omega),clS,V_,sM,vH,vB,aR,jK,go_sem]
 simp only [beq_eq_false_iff_ne.2 k2,go_sem]
 have Vw:=bu.up (ox c x.s bI) gU
 by_cases k3:ak=3
 case' pos=>
  subst k3
  have htn:=bu.up (NY x hx.fi.ok hx.fi.dn ⟨o1,o2,o3,o4,o5,o6,o7⟩ an G1) gU
  obtain ⟨t,e,y,hT,hB,hy,he,he0,hes,htl⟩:=Mm hx hm (by omega) ⟨o1,o2,o3,o4,o5,o6,o7⟩ G1 hna
  obtain ⟨f1,f2,f3,f4,f5⟩:=Hy x ⟨o1,o2,o3,o4,o5,o6,o7⟩ G1
  have hap:=bu.up (ox c x.s ⟨o1,o2,o3,o4,o5,o6,o7⟩) gU
  rw [show x.VU ⟨o1,o2,o3,o4,o5,o6,o7⟩=x.VU ⟨o1,o2,o3,o4,o5,o6,o7⟩ from rfl] at htn
  generalize x.nU ⟨o1,o2,o3,o4,o5,o6,o7⟩ G1=z at *
  simp only [bT,dS,aR,f1,f2,f3,f4,f5,List.cons_append,List.nil_append] at htn
  simp only [cU,htl.trans hx.sz.symm] at hB
  simp only [go_sem]
  refine au [4,6,1,7,8,2,3,5] (htn) rfl ?_ (by decide) ?_ ?_ (by simp) ?_ <;> simp only [ag,ah,go_sem,aU,bE,aK,aP]
  rcases Decidable.em (x.VU ⟨o1,o2,o3,o4,o5,o6,o7⟩=0) with hde | hde
  case' inl=>
   have Vu:t=x.s∨t=(aZ c x.s ⟨o1,o2,o3,o4,o5,o6,o7⟩).1:=hT.imp_right And.right
   have Vv:=bu.up (ox c (aZ c x.s ⟨o1,o2,o3,o4,o5,o6,o7⟩).1 bI) gU
   have Vt:e=0→y.s=(aZ c x.s bI).1∨y.s=(aZ c (aZ c x.s ⟨o1,o2,o3,o4,o5,o6,o7⟩).1 bI).1:=fun h=>by
    obtain ⟨g1,g2,_⟩:=he0 h
    rcases Vu with h2 | h2
    ·left; rw [← h2,g1,g2]
    ·right; rw [← h2,g1,g2]
   generalize aZ c (aZ c x.s ⟨o1,o2,o3,o4,o5,o6,o7⟩).1 bI=oth at *
   simp only [hde,go_sem]
   simp only [aX] at hap
   refine av (hap) rfl rfl rfl rfl ?_; simp only [go_sem]
  case' inr=>
   have Vu:t=x.s:=hT.resolve_right fun h=>hde h.1
   have Vv:=Vw
   have Vt:e=0→y.s=(aZ c x.s bI).1∨y.s=(aZ c x.s bI).1:=fun h=>by obtain ⟨g1,g2,_⟩:=he0 h; left; rw [← Vu,g1,g2]
   simp only [beq_eq_false_iff_ne.2 hde,go_sem]
 case' neg=>
  simp only [beq_eq_false_iff_ne.2 k3,go_sem]
  by_cases k4:ak=4
  case' pos=>
   subst k4
   obtain ⟨e,y,hB,hy,he,he0,hes⟩:=Mn hx hm (by omega) hna
   have hy:=hy.more (Nat.le_succ _)
   have Vv:=Vw
   have Vt:e=0→y.s=(aZ c x.s bI).1∨y.s=(aZ c x.s bI).1:=fun h=>by obtain ⟨g1,g2,_⟩:=he0 h; left; rw [g1,g2]
   have hcr:=mw (G:=eB) x.j.l x.j.s G1
   simp only [cU,hx.fi.ok.jn.len] at hcr hB
   simp only [show ((4:Int)==3)=false from rfl,go_sem]
   refine au [1,2] (hcr) rfl ?_ (by decide) ?_ ?_ (by simp) ?_ <;> simp only [ag,ah,go_sem]
  case neg=>
   simp only [beq_eq_false_iff_ne.2 k4,go_sem]
   refine bh (i+1,x) ?_ ?_ ⟨show i+1≤l.length by omega,hx.more (show 2*i+1≤2*(i+1)+1 by omega)⟩ (show l.length-(i+1)<l.length-i by omega)
   ·simp only [aK,aP,go_sem]
   ·simp only [aH (show i<9223372036854775807 by omega),clS,V_,sM,vH,vB,aR,jK,go_sem]
 all_goals
  rcases he with rfl | rfl
 all_goals
  have hyl:y.j.l.length=y.j.n:=hy.fi.ok.jn.len
  first
  | (simp only [cU,iu,hyl,if_neg (show ¬ (3:Int)=0 by decide),sL,List.cons_append,List.nil_append] at hB
     refine au [1,2,3] (hB) rfl ?_ (by decide) ?_ ?_ (by simp) ?_ <;> simp only [ag,ah,go_sem,aU,bE,aK,aP]
     exact u7 _ rfl)
  | skip
 all_goals
  have hT4:=Vt rfl
  have hyS:=tS (G:=eB) y hy.fi.dn (by have:=hy.fi.ok.right.len; omega) (by have:=hy.fi.ok.right.jobs; omega)
  have hS1:=Cf (G:=eB) y.s (aZ c x.s bI).1 (by have:=hy.fi.ok.right.len; omega) (by have:=hy.fi.ok.right.jobs; omega)
  simp only [iu,rD,Dc,aR,if_true,List.cons_append,List.nil_append] at hB
  simp only [bT,dS,aR,aX,List.cons_append,List.nil_append] at hyS hS1
  simp only [bI,aX,tF] at Vw Vv
  refine au [1,2,3] (hB) rfl ?_ (by decide) ?_ ?_ (by simp) ?_ <;> simp only [ag,ah,go_sem,aU,bE,aK,aP]
  refine av (Vw) rfl rfl rfl rfl ?_; simp only [go_sem]
  refine av (Vv) rfl rfl rfl rfl ?_; simp only [go_sem]
  by_cases hq:y.s=(aZ c x.s bI).1
  case' pos=>
   rw [decide_eq_true hq] at hS1
   refine eA [12,14,1,15,16,2,3,13] (hyS) rfl ?_ (by decide) ?_ ?_ ?_ <;> simp only [ag,ah,go_sem,aU,bE,aK,aP]
   refine bf (hS1) rfl rfl rfl rfl ?_; simp only [go_sem]
  case' neg=>
   rw [decide_eq_false hq] at hS1
   have hS2:=Wu y.s _ (hT4.resolve_left hq) (by have:=hy.fi.ok.right.len; omega) (by have:=hy.fi.ok.right.jobs; omega)
   simp only [aX] at hS2
   refine eA [12,14,1,15,16,2,3,13] (hyS) rfl ?_ (by decide) ?_ ?_ ?_ <;> simp only [ag,ah,go_sem,aU,bE,aK,aP]
   refine bf (hS1) rfl rfl rfl rfl ?_; simp only [go_sem]
   refine eA [12,14,1,15,16,2,3,13] (hyS) rfl ?_ (by decide) ?_ ?_ ?_ <;> simp only [ag,ah,go_sem,aU,bE,aK,aP]
   refine bf (hS2) rfl rfl rfl rfl ?_; simp only [go_sem]
 all_goals
  refine acO [] [0,1,2,3,12,13,14,15,16] [] (sM c y) (V_ l (i+1)) (i+1,y) rfl ⟨Nat.zero_le _,rfl⟩ (by decide) (by simp) ?_ ?_ (by simp) rfl ?_ ⟨show i+1≤l.length by omega,hy.more (show 2*i+1+1+1≤2*(i+1)+1 by omega)⟩ (show l.length-(i+1)<l.length-i by omega)
  ·simp only [sM,vH,vB,aR,aU,bE,go_sem]
   first | done | rfl | (simp [b_,St.obj,aC,fq,mT,bC,bS,cZ,LV.int,LV.bool]; done) | trace_state
  ·simp only [sM,vH,vB,aR,aK,aP,go_sem]
   done
  ·simp [V_,b_,St.get,aY,ah,ag,jK,LV.int,LV.bool]
   exact aO (by omega) (by omega)
end Dv
namespace Dv
open Go Go.Proofs
theorem ED (c:aF) (l:List vQ):bu Tryz.prog eB 6 [fN c,jK l] [] (.bool true) []:=BS GZ c l
end Dv
