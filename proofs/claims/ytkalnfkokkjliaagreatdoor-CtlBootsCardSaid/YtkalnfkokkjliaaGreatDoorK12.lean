/- CtlBoots: it returns true. -/
import Derived.Test.YtkalnfkokkjliaaGreatDoorKB
import Derived.Test.YtkalnfkokkjliaaGreatDoorC8
import Derived.Test.YtkalnfkokkjliaaGreatDoorVD
set_option linter.unusedVariables false
set_option linter.unusedSimpArgs false
set_option maxRecDepth 100000
namespace Dv
open Go Go.Proofs
def ir5:=qx Tryz.f5
theorem Zh:aq Tryz.prog Tryz.f5=some ir5:=by kernel_rfl
structure Ak where
 kind:Int
 keep:Int
 b:List Int
def BG (a:Ak):List DV:=[i64 a.kind,i64 a.keep,.dN 1 (ak a.b)]
def mj (l:List Ak):LV:=.d (.dN 3 (l.map BG))
def BK:Ak:=⟨0,0,[]⟩
def Hh (c:aI) (j:iB) (L:List (List Int)):List aG:=[Bz c,.box 150 [.sl 2 j.n 1 0 j.n,.d (.val (.slice none 0 0)),.int j.s],.dat 5 1 (ak j.l),.box 152 [.sl 4 j.n 1 0 j.n,.d (.val (.slice none 0 0)),.d (.val (.slice none 0 0)),.int j.s],.dat 5 1 (ak j.l),
 .box 160 [.ptr 1 0,.ptr 6 0,.ptr 7 0,.int j.cnt,.int j.aX],.box 243 [.ptr 1 0,.int 0,.int ((j.n / 4:Nat):Int)],.box 245 [.ptr 1 0,.int ((2*(j.n / 4):Nat):Int),.int ((j.n-2*(j.n / 4):Nat):Int),.int j.us],
 .box 177 [.ptr 9 0,.ptr 10 0,.int j.cnt,.int j.aX],.box 252 [.ptr 3 0,.int 0,.int ((j.n / 4:Nat):Int)],.box 179 [.ptr 3 0,.int ((2*(j.n / 4):Nat):Int),.int ((j.n-2*(j.n / 4):Nat):Int),.sl 11 L.length 1 0 L.length],.dat 57 1 (aS L)]
def Fh (l:List Ak) (now:Int) (i:Nat):List (Nat×LV):=[(1,.int now),(2,mj l),(3,.ptr 0 0),(7,.ptr 1 0),(8,.ptr 3 0),(9,.ptr 5 0),(13,.ptr 8 0),(17,.int i)]
def Lh (c:aI) (l:List Ak) (now:Int) (q:Nat×iB×List (List Int)):St:=⟨Fh l now q.1,(Hh c q.2.1 q.2.2).map some⟩
structure abh (n:Nat) (q:Nat×iB×List (List Int)):Prop where
 jn:qC q.2.1
 nn:q.2.1.n=n
 rcs:rK q.2.2
 us:q.2.1.us=cT q.2.2
 len:q.2.2.length≤65536+q.1
set_option maxHeartbeats 4000000 in
theorem Ag (X1:br Tryz.prog fL 26 [] [] (.bool true) []) (c:aI) (now:Int) (l:List Ak) (hb:∀ a∈l,bP a.b):br Tryz.prog fL 5 [f_ c,.int now,mj l] [] (.bool true) []:=by
 refine Ws Tryz.func5 (by decide) Zh rfl ?_
 simp only [mj,ir5,go_sem,simprocAttr]
 refine av (X1) rfl rfl rfl rfl ?_; simp only [go_sem,simprocAttr]
 have kR:∀ s:St,s.get 6=.bool true→rL ir5.2.2 0 (.bool true) [] s:=fun s h=>bw [] (vs:=[.bool true]) (by simp [uH.of,RV.of,h,ir5,TD]) (by simp) (by simp [aF,ah,LV.bool])
 by_cases h0:c.gq>4000
 ·simp only [decide_eq_true h0,go_sem,simprocAttr]
  exact kR _ rfl
 simp only [decide_eq_false h0,go_sem,simprocAttr]
 by_cases h1:c.gq<64
 ·simp only [decide_eq_true h1,go_sem,simprocAttr]
  exact kR _ rfl
 simp only [decide_eq_false h1,go_sem,simprocAttr]
 by_cases h2:(l.length:Int)>40
 ·simp only [decide_eq_true h2,go_sem,simprocAttr]
  exact kR _ rfl
 simp only [decide_eq_false h2,go_sem,simprocAttr]
 obtain ⟨n,hn⟩:∃ n:Nat,c.gq=n:=⟨c.gq.toNat,by omega⟩
 have Sy:64≤n∧n≤65536:=by omega
 have hlz:(List.replicate n (0:Int)).length=n:=List.length_replicate
 have hdn:=ET (G:=fL) n (by omega) (by omega)
 have Dd:=GU (G:=fL) n (by omega) (by omega)
 have hop:=Bc (G:=fL) n (List.replicate n 0) 0 Sy hlz (gN _)
 have Sv:=AP (G:=fL) n (List.replicate n 0) 0 Sy hlz (gN _)
 have hI0:abh n (0,gQ (List.replicate n 0) n 0,wB (List.replicate n 0) n):=⟨w9 0 Sy hlz (gN _),Cb _ _ _,(Ca Sy.2 hlz (gN _)).1,Mr 0 hlz (gN _),(Ca Sy.2 hlz (gN _)).2⟩
 generalize gQ (List.replicate n 0) n 0=j0 at *
 generalize wB (List.replicate n 0) n=L0 at *
 have hj0:=hI0.nn
 dsimp only at hj0
 simp only [dR,hlz] at hdn hop
 simp only [lC,hlz] at Dd Sv
 simp only [jP,Ze,Zd,af,hj0] at hop Sv
 rw [← hn] at hdn Dd
 refine gz hdn rfl rfl rfl ?_
 simp only [go_sem,simprocAttr]
 refine gz Dd rfl rfl rfl ?_
 simp only [go_sem,simprocAttr]
 refine az rfl ?_
 simp only [go_sem,simprocAttr]
 refine au [1,2] (hop) rfl ?_ (by decide) ?_ ?_ (by simp) ?_ <;> simp only [aa,ah,go_sem,simprocAttr]
 refine au [3,4] (Sv) rfl ?_ (by decide) ?_ ?_ (by simp) ?_ <;> simp only [aa,ah,go_sem,simprocAttr]
 refine aP [1,2,3,7,8,9,13,17] [] (fun q:Nat×iB×List (List Int)=>q.1≤l.length∧abh n q) (fun q=>l.length-q.1) (Lh c l now) (0,j0,L0) ?_ ⟨Nat.zero_le _,hI0⟩ ?_
 ·simp only [Lh,Fh,Hh,Bz,mj,hj0,Int.natCast_zero,go_sem,simprocAttr]
 rintro ⟨i,j,L⟩ ⟨hi,hI⟩
 dsimp only at hi
 simp only [Lh,Fh,Hh,Bz,mj,go_sem,simprocAttr]
 by_cases hlt:i<l.length
 case pos=>
  have hg:=aB (f:=BG) BK hlt
  have hm:l.getD i BK∈l:=by rw [List.getD_eq_getElem?_getD,List.getElem?_eq_getElem hlt]; exact List.getElem_mem hlt
  have hab:=hb _ hm
  generalize l.getD i BK=a at *
  obtain ⟨kd,kp,b⟩:=a
  dsimp only at hab
  simp only [BG] at hg
  have hkk:IntKind.i64.wrap (((i:Nat):Int)+1)=((i+1:Nat):Int):=ax (show i<9223372036854775807 by omega)
  have hjn:=hI.jn
  have hnj:=hI.nn
  have hrc:=hI.rcs
  have qX:=hI.us
  have hlL:=hI.len
  dsimp only at hjn hnj hrc qX hlL
  subst hnj
  simp only [decide_eq_true (show ((i:Nat):Int)<((l.length:Nat):Int) by omega),hg,go_sem,simprocAttr]
  by_cases oO:b.length>1000
  ·simp only [aj,decide_eq_true (show ((b.length:Nat):Int)>1000 by omega),go_sem,simprocAttr]
   exact kR _ rfl
  simp only [aj,decide_eq_false (show ¬ ((b.length:Nat):Int)>1000 by omega),hg,go_sem,simprocAttr]
  by_cases hk:kd=1
  ·subst hk
   have hpk:=Bb (G:=fL) j hjn b (by omega)
   by_cases hc:j.aX=j.cnt∨dB j.l 0 (j.n / 4) b j.cnt≠0
   ·have VJ:j.pack b=j:=by unfold iB.pack; rw [if_pos hc]
    have Is:=rY (G:=fL) j.n j.l j.s j.cnt j.aX L b hjn.len hjn.size hjn.OA hab (by omega) hc
    rw [VJ] at hpk
    simp only [jO,o6,af] at hpk
    simp only [p6,af] at Is
    simp only [hg,go_sem,simprocAttr]
    refine dI [5,1,6,7,2] (hpk) rfl ?_ (by decide) ?_ ?_ ?_ <;> simp only [aa,ah,go_sem,simprocAttr]
    simp only [hg,go_sem,simprocAttr]
    refine dI [8,9,10,3,4,11] (Is) rfl ?_ (by decide) ?_ ?_ ?_ <;> simp only [aa,ah,go_sem,simprocAttr]
    refine aR (i+1,j,L) ?_ ?_ ⟨by dsimp only; omega,⟨hjn,rfl,hrc,qX,by dsimp only; omega⟩⟩ (by dsimp only; omega)
    ·simp only [go_sem,simprocAttr]
    ·simp only [Lh,Fh,Hh,Bz,mj,hkk,go_sem,simprocAttr]
   ·have VJ:j.pack b = { j with l:=qw j.n j.l b j.cnt,s:=IntKind.i64.wrap (IntKind.i64.wrap (IntKind.i64.wrap (j.s+1)+1)+1),aX:=j.cnt,us:=0 }:=by unfold iB.pack; rw [if_neg hc]
    have Is:=ux (G:=fL) j.n j.l j.s j.cnt j.aX L b hjn.len hjn.size hjn.OA hab (by omega) (fun h=>hc (.inl h)) (by simpa using fun h=>hc (.inr h))
    have hjp:=hjn.pack hab
    rw [VJ] at hpk hjp
    simp only [jO,o6,af] at hpk
    simp only [p6,WK,af] at Is
    simp only [hg,go_sem,simprocAttr]
    refine au [5,1,6,7,2] (hpk) rfl ?_ (by decide) ?_ ?_ (by simp) ?_ <;> simp only [aa,ah,go_sem,simprocAttr]
    simp only [hg,go_sem,simprocAttr]
    refine au [8,9,10,3,4,11] (Is) rfl ?_ (by decide) ?_ ?_ (by simp) ?_ <;> simp only [aa,ah,go_sem,simprocAttr]
    refine aa4 [] [0,1,2,3,4,5,6,7,8,9,10,12] [] (Hh c { j with l:=qw j.n j.l b j.cnt,s:=IntKind.i64.wrap (IntKind.i64.wrap (IntKind.i64.wrap (j.s+1)+1)+1),aX:=j.cnt,us:=0 } []) (Fh l now (i+1)) (i+1,{ j with l:=qw j.n j.l b j.cnt,s:=IntKind.i64.wrap (IntKind.i64.wrap (IntKind.i64.wrap (j.s+1)+1)+1),aX:=j.cnt,us:=0 },[]) rfl ⟨Nat.zero_le _,rfl⟩ (by decide) (by simp) rfl rfl (by simp) rfl ?_ ⟨by dsimp only; omega,⟨hjp,rfl,rK.nil,rfl,Nat.zero_le _⟩⟩ (by dsimp only; omega)
    simp [Fh,bX,St.get,aO,ah,aa,mj,hkk,LV.int]
  simp only [show (kd==1)=false from beq_eq_false_iff_ne.2 hk,hg,go_sem,simprocAttr]
  by_cases he:j.s7 b=0
  ·have hrm:j.room b.length=true:=by
    unfold iB.s7 s7 at he
    split at he
    ·cases he
    split at he
    ·assumption
    ·cases he
   have hpa:=En (G:=fL) j hjn b hrm
   have hja:=hjn.add hab hrm
   have hfit:=iB.DH hrm
   have hap:=wv (G:=fL) j.n j.l j.s j.cnt j.aX L hrc hjn.len (by omega) (by rw [← qX]; exact hjn.used) b hab (by rw [← qX]; exact hrm)
   rw [← qX] at hap
   simp only [jO,o6,iB.add,af] at hpa
   simp only [p6,af,List.length_append,List.length_cons,List.length_nil] at hap
   refine au [5,1,6,7,2] (hpa) rfl ?_ (by decide) ?_ ?_ (by simp) ?_ <;> simp only [aa,ah,go_sem,simprocAttr]
   simp only [hg,go_sem,simprocAttr]
   refine au [8,9,10,3,4,11] (hap) rfl ?_ (by decide) ?_ ?_ (by simp) ?_ <;> simp only [aa,ah,go_sem,simprocAttr]
   have vn:rK (L++[aQ j.cnt++b]):=⟨fun p hp=>by
    rcases List.mem_append.1 hp with hp | hp
    ·exact hrc.1 p hp
    ·rw [List.mem_singleton.1 hp]
     exact ⟨(iF _).cat hab,by have:=dL j.cnt; rw [List.length_append]; omega⟩,by rw [List.length_append,List.length_cons,List.length_nil]; omega⟩
   refine aR (i+1,j.add b,L++[aQ j.cnt++b]) ?_ ?_ ⟨by dsimp only; omega,⟨hja,rfl,vn,by rw [xF,← qX]; rfl,by dsimp only; rw [List.length_append,List.length_cons,List.length_nil]; omega⟩⟩ (by dsimp only; omega)
   ·simp only [go_sem,simprocAttr]
   ·simp only [Lh,Fh,Hh,Bz,mj,iB.add,hkk,List.length_append,go_sem,simprocAttr]
  ·have hpa:=J_ (G:=fL) j hjn b he
   have hap:=C9 (G:=fL) j.n j.l j.s j.cnt j.aX L hrc hjn.len (by omega) (by rw [← qX]; exact hjn.used) b hab (j.s7 b) (by rw [← qX]; rfl) he
   generalize j.s7 b=e at *
   simp only [jO,o6,af] at hpa
   simp only [p6,af] at hap
   refine dI [5,1,6,7,2] (hpa) rfl ?_ (by decide) ?_ ?_ ?_ <;> simp only [aa,ah,go_sem,simprocAttr]
   simp only [hg,go_sem,simprocAttr]
   refine dI [8,9,10,3,4,11] (hap) rfl ?_ (by decide) ?_ ?_ ?_ <;> simp only [aa,ah,go_sem,simprocAttr]
   refine aR (i+1,j,L) ?_ ?_ ⟨by dsimp only; omega,⟨hjn,rfl,hrc,qX,by dsimp only; omega⟩⟩ (by dsimp only; omega)
   ·simp only [go_sem,simprocAttr]
   ·simp only [Lh,Fh,Hh,Bz,mj,hkk,go_sem,simprocAttr]
 have hjn:=hI.jn
 have hnj:=hI.nn
 dsimp only at hjn hnj
 subst hnj
 have hjl:=hjn.len
 have hsz:=hjn.size
 clear hI hI0 hop Sv hdn Dd hj0
 simp only [decide_eq_false (show ¬ ((i:Nat):Int)<((l.length:Nat):Int) by omega),go_sem,simprocAttr]
 have LA:=BP (G:=fL) c.room
 have XG:=JI (G:=fL) c.room
 have Z5:(List.replicate 25 vL).length=25:=List.length_replicate
 generalize List.replicate 25 vL=sh at *
 have hro:(if c.room<0 then (0:Int) else c.room)=if c.room>0 then c.room else 0:=by split <;> split <;> omega
 rw [hro] at XG
 generalize (if c.room>0 then c.room else 0)=room at *
 have hbn:=Fb (G:=fL) c room 0 sh 0 now
 have OY:=He (G:=fL) c j.l j.s now
 simp only [nS,List.cons_append,List.nil_append,eL] at LA hbn
 simp only [fH,fV] at XG
 simp only [dR,hjl,eL] at OY
 refine gz LA rfl rfl rfl ?_
 simp only [cO,dV,go_sem,simprocAttr]
 refine gz XG rfl rfl rfl ?_
 simp only [go_sem,simprocAttr]
 refine az rfl ?_
 simp only [go_sem,simprocAttr]
 refine dI [12] (hbn) rfl ?_ (by decide) ?_ ?_ ?_ <;> simp only [aa,ah,go_sem,simprocAttr,cO,dV,bU,cH]
 refine dI [1,2] (OY) rfl ?_ (by decide) ?_ ?_ ?_ <;> simp only [aa,ah,go_sem,simprocAttr]
 by_cases hm:iH c=true∧0≤now∧now≤1000000
 case neg=>
  have hba:=Fc (G:=fL) c j.l j.s room 0 sh 0 now hm
  have Iw:=CY (G:=fL) c j.l j.s room 0 now hm
  simp only [dR,nS,hjl,eL,List.cons_append,List.nil_append] at hba
  simp only [lC,fH,hjl,eL,fV,List.cons_append,List.nil_append] at Iw
  refine dI [1,2,12] (hba) rfl ?_ (by decide) ?_ ?_ ?_ <;> simp only [aa,ah,go_sem,simprocAttr,cO,dV,bU,cH]
  refine dI [3,4,13] (Iw) rfl ?_ (by decide) ?_ ?_ ?_ <;> simp only [aa,ah,go_sem,simprocAttr]
  exact kR _ rfl
 obtain ⟨hm,Nt⟩:=hm
 have NQ:=br.up (OC c hm j.n hsz j.l hjl hjn.OA j.s room 0 sh Z5 0 now Nt) Jg
 have Iw:=Le (G:=fL) c hm j.n hsz j.l hjl hjn.OA j.s room 0 now Nt
 have hq:=fun t (h:lI c (jI (jB j.l j.n)) (mP j.l j.n)=some t)=>pO hm h
 have hj1:=w9 j.s hsz hjl hjn.OA
 have LB:=Cb j.l j.n j.s
 unfold IL at NQ
 unfold CW at Iw
 generalize lI c (jI (jB j.l j.n)) (mP j.l j.n)=R at *
 generalize wB j.l j.n=X at *
 generalize gQ j.l j.n j.s=j1 at *
 have qY:=hj1.len
 cases R with
 | none=>
   simp only [dR,nS,hjl,qY,LB,eL,List.cons_append,List.nil_append] at NQ
   simp only [lC,fH,hjl,qY,LB,eL,fV,List.cons_append,List.nil_append] at Iw
   refine au [1,2,12] (NQ) rfl ?_ (by decide) ?_ ?_ (by simp) ?_ <;> simp only [aa,ah,go_sem,simprocAttr,cO,dV,bU,cH]
   refine au [3,4,13] (Iw) rfl ?_ (by decide) ?_ ?_ (by simp) ?_ <;> simp only [aa,ah,go_sem,simprocAttr]
   exact kR _ rfl
 | some st=>
 have hr:=hq st rfl
 have hx:=zG (room:=room) (term:=0) (wr:=0) (now:=now) hr hj1 Z5
 have hno:=hx.note aZ now
 have hyn:=xk (cr c j1 room 0 sh 0 now st) aZ now
 have he:(cr c j1 room 0 [] 0 now st).ew aZ=(cr c j1 room 0 sh 0 now st).ew aZ:=rfl
 have hdn:((cr c j1 room 0 sh 0 now st).cU aZ now).down=false:=Ga _ _ _
 have hy9:((cr c j1 room 0 [] 0 now st).cU aZ now).s=((cr c j1 room 0 sh 0 now st).cU aZ now).s∧((cr c j1 room 0 [] 0 now st).cU aZ now).j=((cr c j1 room 0 sh 0 now st).cU aZ now).j∧((cr c j1 room 0 [] 0 now st).cU aZ now).c=c:=by
  unfold bR.cU
  rw [he]
  split <;> exact ⟨rfl,rfl,rfl⟩
 have hnt:(cr c j1 room 0 sh 0 now st).ew aZ=0→((cr c j1 room 0 sh 0 now st).cU aZ now).gx=1:=fun h=>by
  unfold bR.cU; rw [if_pos h]; rfl
 dsimp only at NQ Iw
 simp only [he] at Iw
 generalize (cr c j1 room 0 sh 0 now st).ew aZ=e at *
 generalize (cr c j1 room 0 sh 0 now st).cU aZ now=y at *
 generalize (cr c j1 room 0 [] 0 now st).cU aZ now=z at *
 generalize (cr c j1 room 0 [] 0 now st).D8 aZ X=L2 at *
 obtain ⟨hy9,Dc,hz3⟩:=hy9
 have Nc:=hno.jn.len
 by_cases he0:e=0
 case neg=>
  simp only [if_neg he0] at NQ Iw
  simp only [Dc,dR,nS,hjl,Nc,eL,List.cons_append,List.nil_append] at NQ
  simp only [Dc,lC,fH,hjl,Nc,eL,fV,List.cons_append,List.nil_append] at Iw
  refine au [1,2,12] (NQ) rfl ?_ (by decide) ?_ ?_ (by simp) ?_ <;> simp only [aa,ah,go_sem,simprocAttr,cO,dV,bU,cH]
  refine au [3,4,13] (Iw) rfl ?_ (by decide) ?_ ?_ (by simp) ?_ <;> simp only [aa,ah,go_sem,simprocAttr]
  simp only [bne_self_eq_false,show (e !=0)=true from bne_iff_ne.2 he0,go_sem,simprocAttr]
  exact kR _ rfl
 subst he0
 have hst:=GX (G:=fL) y.uC hdn (by have:=hno.right.len; exact Nat.le_trans this.2 (by omega)) (by have:=hno.right.jobs; exact Nat.le_trans this (by omega))
 have hnd:=G1 (G:=fL) y.uC
 have hsm:=Jt (G:=fL) y.s y.s (by have:=hno.right.len; omega) (by have:=hno.right.jobs; omega)
 rw [decide_eq_true rfl] at hsm
 have hn2:y.uC.gx=1:=hnt rfl
 rw [hn2] at hnd
 have hys:y.uC.s=y.s:=rfl
 rw [hys] at hst
 simp only [if_true] at NQ Iw
 simp only [dR,nS,Fa,II,dg,hjl,bR.uC,List.cons_append,List.nil_append] at NQ
 simp only [lC,fH,CX,IJ,hjl,fV,hy9,Dc,List.cons_append,List.nil_append] at Iw
 simp only [eM,kC,dg,bR.uC,List.cons_append,List.nil_append] at hst hnd
 simp only [bz] at hst hsm
 refine au [1,2,12] (NQ) rfl ?_ (by decide) ?_ ?_ (by simp) ?_ <;> simp only [aa,ah,go_sem,simprocAttr,cO,dV,bU,cH]
 refine au [3,4,13] (Iw) rfl ?_ (by decide) ?_ ?_ (by simp) ?_ <;> simp only [aa,ah,go_sem,simprocAttr]
 refine iM [14,16,1,17,18,2,12,15] (hst) rfl ?_ (by decide) ?_ ?_ ?_ <;> simp only [aa,ah,go_sem,simprocAttr,cO,dV,bU,cH]
 refine bA (hsm) rfl rfl rfl rfl ?_; simp only [go_sem,simprocAttr]
 refine iM [14,16,1,17,18,2,12,15] (hnd) rfl ?_ (by decide) ?_ ?_ ?_ <;> simp only [aa,ah,go_sem,simprocAttr,cO,dV,bU,cH]
 exact kR _ rfl
end Dv
