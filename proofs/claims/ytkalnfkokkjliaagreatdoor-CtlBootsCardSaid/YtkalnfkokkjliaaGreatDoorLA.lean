/- The logical machine and its plain laws: parts L1, L2, L3, proved sound. -/
import Derived.Test.YtkalnfkokkjliaaGreatDoorDD
set_option linter.unusedVariables false
set_option linter.unusedSimpArgs false
namespace Dv
theorem we (bits:Int):∀ (l:List bu) (i:Nat),fu bits l i=true↔∀ k,k<l.length→hasB bits (i+k)=true→jr (l.getD k an)=true
 | [],i=>by simp [fu]
 | n::l,i=>by
   unfold fu
   rw [Bool.and_eq_true,we bits l (i+1)]
   constructor
   ·rintro ⟨h1,h2⟩ k hk hb
    cases k with
    | zero=>
      have hb:hasB bits i=true:=hb
      simpa [hb] using h1
    | succ k=>simpa using h2 k (by simpa using hk) (by rw [show i+1+k=i+(k+1) by omega]; exact hb)
   ·intro h
    refine ⟨?_,fun k hk hb=>?_⟩
    ·cases hb:hasB bits i with
     | false=>rfl
     | true=>simpa using h 0 (by simp) hb
    ·have:=h (k+1) (by simpa using hk) (by rw [show i+(k+1)=i+1+k by omega]; exact hb)
     simpa using this
theorem Kl {c:aI} {s:ai} (h:cm c s) (j:ct) (b:Int):(jE s.nodes j b jr=false∨1000000≤j.inc)↔¬ (iA s.nodes j b=true∧j.inc<1000000∧fu b s.nodes 0=true):=by
 have hv:∀ k,k<s.nodes.length→1≤(s.nodes.getD k an).version:=fun k hk=>(h.Hy k hk).1
 have key:jE s.nodes j b jr=true↔iA s.nodes j b=true∧fu b s.nodes 0=true:=by
  rw [vv _ _ _ _ hv,sS _ _ _ h.len.2 hv,we]
  simp only [Nat.zero_add]
  constructor
  ·rintro ⟨h1,h2,u,h3,h4⟩
   exact ⟨⟨h1,h2,u,h3,fun k hk hb=>(h4 k hk hb).2⟩,fun k hk hb=>(h4 k hk hb).1⟩
  ·rintro ⟨⟨h1,h2,u,h3,h4⟩,h5⟩
   exact ⟨h1,h2,u,h3,fun k hk hb=>⟨h5 k hk hb,h4 k hk hb⟩⟩
 cases hf:jE s.nodes j b jr with
 | true=>
   have:=key.1 hf
   simp only [this.1,this.2,Bool.true_eq_false,false_or,true_and,and_true]; omega
 | false=>
   refine ⟨fun _ hq=>?_,fun _=>.inl rfl⟩
   have:=key.2 ⟨hq.1,hq.2.2⟩
   rw [hf] at this; cases this
theorem JT (m b:Int) (h:0≤m∧m<64) (h2:0≤b∧b<6):kI m b=fS m b 6:=by
 obtain ⟨m,rfl⟩:=Int.eq_ofNat_of_zero_le h.1
 obtain ⟨b,rfl⟩:=Int.eq_ofNat_of_zero_le h2.1
 have:∀ m:Nat,m<64→∀ b:Nat,b<6→kI (m:Int) b=fS m b 6:=by decide +kernel
 exact this m (by omega) b (by omega)
theorem Co {c:aI} {s:ai} (h:cm c s) {a:Int} (ha:1≤a∧a≤s.jobs.length):∃ k:Nat,a=k+1∧(a-1).toNat=k∧k<s.jobs.length∧bG s a=fJ s k:=
 ⟨(a-1).toNat,by omega,rfl,by omega,rfl⟩
theorem xl {s:ai} {a:Int} (ha:0≤a∧a<s.nodes.length):∃ i:Nat,a=i∧a.toNat=i∧i<s.nodes.length∧bg s a=eS s i:=
 ⟨a.toNat,by omega,rfl,by omega,rfl⟩
theorem nA (s:ai) (bW phase:Int):er s bW phase=eA s bW phase:=rfl
theorem Du {c:aI} {s:ai} (h:cm c s) {a b:Int} (ha:1≤a∧a≤s.jobs.length) (hb:0≤b∧b<s.nodes.length):((bg s b).bW≠a)↔hasB (bG s a).nodes b.toNat=false:=by
 obtain ⟨k,rfl,hk2,hk,hJ⟩:=Co h ha
 obtain ⟨i,rfl,hi2,hi,hN⟩:=xl hb
 rw [hJ,hN,hi2]
 have:=h.link i k hi hk
 cases hq:hasB (fJ s k).nodes i with
 | true=>simp [this.1 hq]
 | false=>simp; intro e; rw [this.2 e] at hq; cases hq
theorem IM {c:aI} {s:ai} (h:cm c s) {k:Nat} (hk:k<s.jobs.length):0≤(fJ s k).nodes∧(fJ s k).nodes<64:=(yb ((gA c s).2 h)).bits hk
theorem vD {c:aI} {s:ai} (h:cm c s) (o:dH):bC c s o=oB c s o:=by
 have hr:=(gA c s).2 h
 cases ho:dX o with
 | false=>
   have h1:bC c s o=(s,1):=by unfold bC Aj; rw [if_neg (by simp [hr]),if_pos ho]
   have h2:dJ c s o=1:=by unfold dJ; rw [if_pos ho]
   rw [h1]; unfold oB; rw [h2,if_pos (by decide)]
 | true=>
 obtain ⟨hkk,hka,hkb⟩:=k9 ho
 have hlj:=h.jobs
 have rD:=h.len
 unfold oB
 have hk:o.kind=1∨o.kind=2∨o.kind=3∨o.kind=4∨o.kind=5∨o.kind=6∨o.kind=7∨o.kind=8∨o.kind=9∨o.kind=10∨o.kind=11∨o.kind=12∨o.kind=13∨o.kind=14∨o.kind=15∨o.kind=16∨o.kind=17∨o.kind=18∨o.kind=19∨o.kind=20∨o.kind=21:=by omega
 rcases hk with hk | hk | hk | hk | hk | hk | hk | hk | hk | hk | hk | hk | hk | hk | hk | hk | hk | hk | hk | hk | hk
 ·have hd:aW c s o=jf c s o:=by simp only [aW,hk,Int.reduceEq,if_true,if_false]
  rw [Tz ho hk,do_1 hk,me hr ho (by rw [hk]; rfl) (by rw [hk]; rfl),hd]
  unfold jf
  cases ha:gV c (gD o) with
  | false=>simp
  | true=>
    by_cases X7:s.jobs.length=24
    ·simp [X7]
    ·have:¬ 24≤s.jobs.length:=by omega
     simp [X7,this]
 ·have hd:aW c s o=jZ s o:=by simp only [aW,hk,Int.reduceEq,if_true,if_false]
  rw [Ty ho hk,aaQ hk,jx hr ho (by rw [hk]; rfl) (by rw [hk]; rfl),hd]
  by_cases hq:o.a<1∨(s.jobs.length:Int)<o.a
  ·rw [if_pos hq,if_pos hq,if_pos (by decide)]
  rw [if_neg hq,if_neg hq]
  unfold jZ
  by_cases hp:(bG s o.a).phase=4 <;> simp [hp,nA]
 ·have hd:aW c s o=jT s o:=by simp only [aW,hk,Int.reduceEq,if_true,if_false]
  rw [Tx ho hk,aaP hk,me hr ho (by rw [hk]; rfl) (by rw [hk]; rfl),hd]
  unfold jT
  cases hp:aT o.a 1 9 <;> simp [hp]
 ·have hd:aW c s o=gr s (s.mode==0) 1:=by simp only [aW,hk,Int.reduceEq,if_true,if_false]
  rw [Tw ho hk,aaO hk,me hr ho (by rw [hk]; rfl) (by rw [hk]; rfl),hd]
  unfold gr
  by_cases hp:s.mode=0 <;> simp [hp]
 ·have hd:aW c s o=gr s (s.mode==1) 0:=by simp only [aW,hk,Int.reduceEq,if_true,if_false]
  rw [Tv ho hk,aaN hk,me hr ho (by rw [hk]; rfl) (by rw [hk]; rfl),hd]
  unfold gr
  by_cases hp:s.mode=1 <;> simp [hp]
 ·have hd:aW c s o=gr s (s.mode !=2) 2:=by simp only [aW,hk,Int.reduceEq,if_true,if_false]
  rw [Tu ho hk,aaM hk,me hr ho (by rw [hk]; rfl) (by rw [hk]; rfl),hd]
  unfold gr
  by_cases hp:s.mode=2 <;> simp [hp]
 ·have hd:aW c s o=qp s o:=by simp only [aW,hk,Int.reduceEq,if_true,if_false]
  rw [Tt ho hk,aaL hk,mg hr ho (by rw [hk]; rfl) (by rw [hk]; rfl),hd]
  by_cases hq:(s.nodes.length:Int)≤o.a
  ·rw [if_pos hq,if_pos hq,if_pos (by decide)]
  rw [if_neg hq,if_neg hq]
  obtain ⟨i,hi1,hi2,hi,hN⟩:=xl (s:=s) (a:=o.a) (by omega)
  have hj:=h.bW i hi
  unfold qp
  rw [hN]
  cases hu:(eS s i).up with
  | false=>simp
  | true=>
    by_cases hz:(eS s i).bW=0
    ·simp [hz]
    ·have:0<(eS s i).bW:=by omega
     simp [hz,this,nA]
 ·have hd:aW c s o=LS s o:=by simp only [aW,hk,Int.reduceEq,if_true,if_false]
  rw [Ts ho hk,aaK hk,mg hr ho (by rw [hk]; rfl) (by rw [hk]; rfl),hd]
  by_cases hq:(s.nodes.length:Int)≤o.a
  ·rw [if_pos hq,if_pos hq,if_pos (by decide)]
  rw [if_neg hq,if_neg hq]
  unfold LS
  cases hp:aT o.b 1 9 <;> cases hu:(bg s o.a).up <;> simp
 ·have hd:aW c s o=nE s o:=by simp only [aW,hk,Int.reduceEq,if_true,if_false]
  rw [aaJ hk,jx hr ho (by rw [hk]; rfl) (by rw [hk]; rfl),hd]
  by_cases hq:o.a<1∨(s.jobs.length:Int)<o.a
  ·rw [if_pos hq]
   have hw:dJ c s o=4:=by rw [Df ho hk,if_pos hq]
   rw [hw,if_pos (by decide)]
  rw [if_neg hq]
  unfold nE
  by_cases hp:(bG s o.a).phase=0
  ·have hc:=Kl h (bG s o.a) o.b
   by_cases hx:jE s.nodes (bG s o.a) o.b jr=false∨1000000≤(bG s o.a).inc
   ·have hw:dJ c s o=8:=by rw [Df ho hk,if_neg hq,if_neg (fun h=>h hp),if_pos (hc.1 hx)]
    rw [hw,if_neg (fun h=>h hp),if_pos hx,if_pos (by decide)]
   ·have hw:dJ c s o=0:=by rw [Df ho hk,if_neg hq,if_neg (fun h=>h hp),if_neg (fun hq=>hx (hc.2 hq))]
    rw [hw,if_neg (fun h=>h hp),if_neg hx,if_neg (fun h=>h rfl)]
  ·have hw:dJ c s o=5:=by rw [Df ho hk,if_neg hq,if_pos hp]
   rw [hw,if_pos hp,if_pos (by decide)]
 ·have hd:aW c s o=mJ s o:=by simp only [aW,hk,Int.reduceEq,if_true,if_false]
  rw [LQ ho hk,We hk,jx hr ho (by rw [hk]; rfl) (by rw [hk]; rfl),hd]
  by_cases hq:o.a<1∨(s.jobs.length:Int)<o.a
  ·rw [if_pos hq,if_pos hq,if_pos (by decide)]
  rw [if_neg hq,if_neg hq]
  unfold mJ
  by_cases hp:(bG s o.a).phase=1 <;> simp [hp,nA]
 ·have hd:aW c s o=jS s o:=by simp only [aW,hk,Int.reduceEq,if_true,if_false]
  rw [LP ho hk,Wd hk,jx hr ho (by rw [hk]; rfl) (by rw [hk]; rfl),hd]
  by_cases hq:o.a<1∨(s.jobs.length:Int)<o.a
  ·rw [if_pos hq,if_pos hq,if_pos (by decide)]
  rw [if_neg hq,if_neg hq]
  unfold jS
  by_cases hp:(bG s o.a).phase=1 <;> simp [hp,nA]
 ·have hd:aW c s o=lX c s o:=by simp only [aW,hk,Int.reduceEq,if_true,if_false]
  rw [LO ho hk,Wc hk,jx hr ho (by rw [hk]; rfl) (by rw [hk]; rfl),hd]
  by_cases hq:o.a<1∨(s.jobs.length:Int)<o.a
  ·rw [if_pos hq,if_pos hq,if_pos (by decide)]
  rw [if_neg hq,if_neg hq]
  unfold lX
  by_cases hp:(bG s o.a).phase=2 <;> by_cases hx:c.cv≤cu s.jobs (bG s o.a).queue <;> simp [hp,hx]
 ·have hd:aW c s o=jF s o:=by simp only [aW,hk,Int.reduceEq,if_true,if_false]
  rw [LN ho hk,Wa hk,jx hr ho (by rw [hk]; rfl) (by rw [hk]; rfl),hd]
  by_cases hq:o.a<1∨(s.jobs.length:Int)<o.a
  ·rw [if_pos hq,if_pos hq,if_pos (by decide)]
  rw [if_neg hq,if_neg hq]
  unfold jF
  cases hp:kG (bG s o.a) <;> by_cases hx:o.b≠(bG s o.a).inc∨o.b≤(bG s o.a).cK <;> simp only [hx,Bool.true_eq_false,if_true,if_false] <;> simp
 ·have hd:aW c s o=mV s o:=by simp only [aW,hk,Int.reduceEq,if_true,if_false]
  rw [LM ho hk,V_ hk,jx hr ho (by rw [hk]; rfl) (by rw [hk]; rfl),hd]
  by_cases hq:o.a<1∨(s.jobs.length:Int)<o.a
  ·rw [if_pos hq,if_pos hq,if_pos (by decide)]
  rw [if_neg hq,if_neg hq]
  unfold mV
  by_cases hp:(bG s o.a).phase=3 <;> simp [hp,nA]
 ·have hd:aW c s o=rX s o:=by simp only [aW,hk,Int.reduceEq,if_true,if_false]
  rw [LL ho hk,V0 hk,jx hr ho (by rw [hk]; rfl) (by rw [hk]; rfl),hd]
  by_cases hq:o.a<1∨(s.jobs.length:Int)<o.a
  ·rw [if_pos hq,if_pos hq,if_pos (by decide)]
  rw [if_neg hq,if_neg hq]
  unfold rX
  cases hp:kG (bG s o.a) <;> simp [nA]
 ·have hd:aW c s o=kW s o:=by simp only [aW,hk,Int.reduceEq,if_true,if_false]
  rw [LK ho hk,VZ hk,mg hr ho (by rw [hk]; rfl) (by rw [hk]; rfl),hd]
  by_cases hq:(s.nodes.length:Int)≤o.a
  ·rw [if_pos hq,if_pos hq,if_pos (by decide)]
  rw [if_neg hq,if_neg hq]
  unfold kW
  cases hu:(bg s o.a).up <;> cases hc:(bg s o.a).bV <;> simp
 ·have hd:aW c s o=gY s o:=by simp only [aW,hk,Int.reduceEq,if_true,if_false]
  rw [LJ ho hk,VY hk,mg hr ho (by rw [hk]; rfl) (by rw [hk]; rfl),hd]
  by_cases hq:(s.nodes.length:Int)≤o.a
  ·rw [if_pos hq,if_pos hq,if_pos (by decide)]
  rw [if_neg hq,if_neg hq]
  unfold gY
  cases hu:(bg s o.a).aU <;> cases hc:(bg s o.a).bV <;> simp
 ·have hd:aW c s o=tR s o:=by simp only [aW,hk,Int.reduceEq,if_true,if_false]
  rw [LI ho hk,VX hk,mg hr ho (by rw [hk]; rfl) (by rw [hk]; rfl),hd]
  by_cases hq:(s.nodes.length:Int)≤o.a
  ·rw [if_pos hq,if_pos hq,if_pos (by decide)]
  rw [if_neg hq,if_neg hq]
  unfold tR
  cases hu:(bg s o.a).up <;> cases hc:(bg s o.a).bV <;> cases hm:(bg s o.a).aU <;> by_cases hz:(bg s o.a).bW=0 <;> simp [hz]
 ·have hd:aW c s o=lR s o:=by simp only [aW,hk,Int.reduceEq,if_true,if_false]
  rw [LH ho hk,VW hk,mg hr ho (by rw [hk]; rfl) (by rw [hk]; rfl),hd]
  by_cases hq:(s.nodes.length:Int)≤o.a
  ·rw [if_pos hq,if_pos hq,if_pos (by decide)]
  rw [if_neg hq,if_neg hq]
  unfold lR
  cases hp:aT o.b 1 9 <;> cases hu:(bg s o.a).aU <;> simp
 ·have hd:aW c s o=gF s o:=by simp only [aW,hk,Int.reduceEq,if_true,if_false]
  rw [VV hk,jx hr ho (by rw [hk]; rfl) (by rw [hk]; rfl),hd]
  by_cases hq:o.a<1∨(s.jobs.length:Int)<o.a
  ·rw [if_pos hq]
   have hw:dJ c s o=4:=by rw [si ho hk,if_pos hq]
   rw [hw,if_pos (by decide)]
  rw [if_neg hq]
  unfold gF
  by_cases hb:(s.nodes.length:Int)≤o.b
  ·have hw:dJ c s o=4:=by rw [si ho hk,if_neg hq,if_pos hb]
   rw [hw,if_pos hb,if_pos (by decide)]
  by_cases hp:(bG s o.a).phase=2
  ·have hc:=Du h (a:=o.a) (b:=o.b) (by omega) (by omega)
   obtain ⟨k,NA,hk2,hkl,hJ⟩:=Co h (a:=o.a) (by omega)
   have Iv:=IM h hkl
   rw [← hJ] at Iv
   have hl:=JT (bG s o.a).nodes o.b Iv (by omega)
   by_cases hx:(bg s o.b).bW≠o.a∨many (bG s o.a).nodes≤(bG s o.a).min
   ·have hx2:hasB (bG s o.a).nodes o.b.toNat=false∨many (bG s o.a).nodes≤(bG s o.a).min:=hx.imp hc.1 id
    have hw:dJ c s o=8:=by rw [si ho hk,if_neg hq,if_neg hb,if_neg (fun h=>h hp),if_pos hx2]
    rw [hw,if_neg hb,if_neg (fun h=>h hp),if_pos hx,if_pos (by decide)]
   ·have hx2:¬ (hasB (bG s o.a).nodes o.b.toNat=false∨many (bG s o.a).nodes≤(bG s o.a).min):=fun hq=>hx (hq.imp hc.2 id)
    have hw:dJ c s o=0:=by rw [si ho hk,if_neg hq,if_neg hb,if_neg (fun h=>h hp),if_neg hx2]
    rw [hw,if_neg hb,if_neg (fun h=>h hp),if_neg hx,if_neg (fun h=>h rfl),hl]
  ·have hw:dJ c s o=5:=by rw [si ho hk,if_neg hq,if_neg hb,if_pos hp]
   rw [hw,if_neg hb,if_pos hp,if_pos (by decide)]
 ·have hd:aW c s o=iG s:=by simp only [aW,hk,Int.reduceEq,if_true,if_false]
  rw [LG ho hk,VU hk,me hr ho (by rw [hk]; rfl) (by rw [hk]; rfl),hd]
  unfold iG
  have:=h.term
  by_cases hp:s.term=1000000
  ·have:1000000≤s.term:=by omega
   simp [hp]
  ·have:¬ 1000000≤s.term:=by omega
   simp [hp,this]
end Dv
namespace Dv
theorem ye {s:ai} {k:Nat} (p:Int):eA s ((k:Int)+1) p = { s with nodes:=s.nodes.mapIdx (lets (k+1)),jobs:=s.jobs.set k { fJ s k with phase:=p,nodes:=0,since:=0,mI:=0 } }:=by
 have:((k:Int)+1-1).toNat=k:=by omega
 unfold eA bG fJ
 rw [this]
theorem BW {c:aI} {s:ai} {a:Int} {k:Nat} (ha:(a-1).toNat=k) {j':ct} (q:mH c s k j' s.nodes):Step c s (eN s a j'):=by
 unfold eN
 rw [ha]
 exact .bW q
theorem qI {c:aI} {s:ai} {a:Int} {i:Nat} (ha:a.toNat=i) {n':bu} (q:uI s i n'):Step c s (fo s a n'):=by
 unfold fo
 rw [ha]
 exact .node q
theorem Gj (m b:Int) (hm:0≤m∧m<64) (hb:0≤b∧b<6) (hh:hasB m b.toNat=true):0≤kI m b∧many (kI m b)=many m-1∧kI m b≤m∧∀ i:Nat,i<6→hasB (kI m b) i=(hasB m i&&decide (i≠b.toNat)):=by
 obtain ⟨m,rfl⟩:=Int.eq_ofNat_of_zero_le hm.1
 obtain ⟨b,rfl⟩:=Int.eq_ofNat_of_zero_le hb.1
 have:∀ m:Nat,m<64→∀ b:Nat,b<6→hasB (m:Int) b=true→0≤kI (m:Int) b∧many (kI (m:Int) b)=many m-1∧kI (m:Int) b≤m∧∀ i:Nat,i<6→hasB (kI (m:Int) b) i=(hasB (m:Int) i&&decide (i≠b)):=by decide +kernel
 exact this m (by omega) b (by omega) hh
section
variable {c:aI} {s:ai} (h:cm c s)
include h
theorem sV {k:Nat} (hk:k<s.jobs.length) (j':ct) (num:qB c j') (fixed:j'.queue=(fJ s k).queue∧j'.prio=(fJ s k).prio∧j'.min=(fJ s k).min∧j'.max=(fJ s k).max∧j'.work=(fJ s k).work∧j'.ia=(fJ s k).ia)
  (grow:(fJ s k).inc≤j'.inc∧(fJ s k).cK≤j'.cK) (ended:(fJ s k).phase≠4) (hn:j'.nodes=(fJ s k).nodes) (hp:d_ j'.phase=d_ (fJ s k).phase)
  (hq:j'.phase=3→(fJ s k).phase=3∨cu s.jobs (fJ s k).queue<c.cv):mH c s k j' s.nodes:=by
 refine ⟨hk,num,fixed,grow,ended,rfl,fun i hi=>⟨rfl,rfl,rfl,rfl⟩,fun iZ=>?_,fun iZ=>?_,fun i hi=>?_,fun i q hi hq hne=>Iff.rfl,h.bW,fun i hi h0=>⟨h.up i hi h0,?_⟩,hq⟩
 ·rw [hp] at iZ
  obtain ⟨a,b,d,u,e,f⟩:=h.mO k hk iZ
  obtain ⟨f1,f2,f3,f4,f5,f6⟩:=fixed
  refine ⟨by rw [hn]; exact a,by rw [hn]; exact b,by rw [hn,f3,f4]; exact d,u,by rw [f6]; exact e,by rw [hn]; exact f⟩
 ·rw [hp] at iZ; rw [hn]; exact h.idle k hk iZ
 ·rw [hn]; exact h.link i k hi hk
 ·cases hm:(eS s i).aU with
  | false=>rfl
  | true=>exact absurd (h.aU i hi hm).2.2 h0
theorem tC {k:Nat} (hk:k<s.jobs.length) {p:Int} (hp:p=0∨p=4) (ended:(fJ s k).phase≠4) :
  mH c s k { fJ s k with phase:=p,nodes:=0,since:=0,mI:=0 } (s.nodes.mapIdx (lets (k+1))):=by
 have hj:=h.num k hk
 have hg:∀ i,i<s.nodes.length→(s.nodes.mapIdx (lets (k+1))).getD i an=lets (k+1) i (eS s i):=fun i hi=>mA _ _ _ _ hi
 have iZ:d_ p=false:=by rcases hp with rfl | rfl <;> rfl
 refine ⟨hk,⟨hj.asked,by dsimp only; omega,hj.inc,by dsimp only; omega,by dsimp only; omega,hj.cK⟩,⟨rfl,rfl,rfl,rfl,rfl,rfl⟩,⟨Int.le_refl _,Int.le_refl _⟩,ended,by simp,fun i hi=>?_,fun h'=>?_,fun _=>rfl,fun i hi=>?_,fun i q hi hq hne=>?_,fun i hi=>?_,fun i hi h0=>?_,fun h'=>?_⟩
 ·rw [hg i hi]; unfold lets; split <;> exact ⟨rfl,rfl,rfl,rfl⟩
 ·dsimp only at h'; rw [iZ] at h'; cases h'
 ·dsimp only
  rw [hg i hi,p8]
  unfold lets
  split
  ·simp; omega
  ·rename_i hne; simp [hne]
 ·rw [hg i hi]
  unfold lets
  split
  ·rename_i he
   dsimp only
   omega
  ·rfl
 ·rw [hg i hi]
  have:=h.bW i hi
  unfold lets
  split
  ·dsimp only; omega
  ·exact this
 ·rw [hg i hi] at h0
  unfold lets at h0
  split at h0
  ·exact absurd rfl h0
  ·refine ⟨h.up i hi h0,?_⟩
   cases hm:(eS s i).aU with
   | false=>rfl
   | true=>exact absurd (h.aU i hi hm).2.2 h0
 ·dsimp only at h'; omega
theorem nZ {k:Nat} (hk:k<s.jobs.length) {p:Int} (hp:p=0∨p=4) (ended:(fJ s k).phase≠4):Step c s (eA s ((k:Int)+1) p):=by
 rw [ye]
 exact .bW (tC h hk hp ended)
theorem Kk {k:Nat} (hk:k<s.jobs.length) {b:Int} (h0:(fJ s k).phase=0) (hf:jE s.nodes (fJ s k) b jr=true) (hi:(fJ s k).inc<1000000) :
  mH c s k { fJ s k with phase:=1,inc:=(fJ s k).inc+1,nodes:=b } (s.nodes.mapIdx (eG b (k+1))):=by
 have hj:=h.num k hk
 have hv:∀ k,k<s.nodes.length→1≤(s.nodes.getD k an).version:=fun k hk=>(h.Hy k hk).1
 obtain ⟨f1,f2,u,f3,f4⟩:=(vv _ _ _ _ hv).1 hf
 have hg:∀ i,i<s.nodes.length→(s.nodes.mapIdx (eG b (k+1))).getD i an=eG b (k+1) i (eS s i):=fun i hi=>mA _ _ _ _ hi
 have hfree:∀ i,i<s.nodes.length→hasB b i=true→(eS s i).up=true∧(eS s i).aU=false∧(eS s i).bW=0:=fun i hi hb=>by
  have:=(f4 i hi hb).1
  unfold jr at this
  simp only [Bool.and_eq_true,decide_eq_true_eq,Bool.not_eq_true'] at this
  exact ⟨this.1.1.1,this.1.2,this.2⟩
 have hno:(fJ s k).nodes=0:=h.idle k hk (by rw [h0]; rfl)
 have hnk:∀ i,i<s.nodes.length→(eS s i).bW≠k+1:=fun i hi he=>by
  have:=(h.link i k hi hk).2 he
  rw [hno,p8] at this; cases this
 refine ⟨hk,⟨hj.asked,by dsimp only; omega,by have:=hj.inc; dsimp only; omega,hj.since,hj.mI,by have:=hj.cK; dsimp only; omega⟩,⟨rfl,rfl,rfl,rfl,rfl,rfl⟩,⟨by dsimp only; omega,Int.le_refl _⟩,by omega,by simp,fun i hi=>?_,fun _=>⟨f1.1,f1.2,f2,u,f3,fun i hi hb=>(f4 i hi hb).2⟩,fun h'=>by simp [d_] at h',fun i hi=>?_,fun i q hi hq hne=>?_,fun i hi=>?_,fun i hi h0=>?_,fun h'=>by dsimp only at h'; omega⟩
 ·rw [hg i hi]; unfold eG; split <;> exact ⟨rfl,rfl,rfl,rfl⟩
 ·rw [hg i hi]
  have:=hnk i hi
  unfold eG
  dsimp only
  split
  ·rename_i hb; simp [hb]
  ·rename_i hb; simp [hb,this]
 ·rw [hg i hi]
  unfold eG
  split
  ·rename_i hb
   have:=(hfree i hi hb).2.2
   dsimp only
   omega
  ·rfl
 ·rw [hg i hi]
  have:=h.bW i hi
  unfold eG
  split
  ·dsimp only; omega
  ·exact this
 ·rw [hg i hi] at h0
  unfold eG at h0
  split at h0
  ·rename_i hb
   have:=hfree i hi hb
   exact ⟨this.1,this.2.1⟩
  ·refine ⟨h.up i hi h0,?_⟩
   cases hm:(eS s i).aU with
   | false=>rfl
   | true=>exact absurd (h.aU i hi hm).2.2 h0
theorem Dt {k b:Nat} (hk:k<s.jobs.length) (hb:b<s.nodes.length) (h2:(fJ s k).phase=2) (hj:(eS s b).bW=k+1) (hm:(fJ s k).min<many (fJ s k).nodes) :
  mH c s k { fJ s k with nodes:=kI (fJ s k).nodes b } (s.nodes.set b { eS s b with bW:=0 }):=by
 have p7:=h.num k hk
 have rD:=h.len
 have Iv:=IM h hk
 have hh:=(h.link b k hb hk).2 hj
 obtain ⟨l1,l2,l3,l4⟩:=Gj (fJ s k).nodes b Iv (by omega) hh
 have hg:∀ i,(s.nodes.set b { eS s b with bW:=0 }).getD i an=if i=b then { eS s b with bW:=0 } else eS s i:=fun i=>zf _ _ _ _ _ hb
 have iZ:=h.mO k hk (by rw [h2]; rfl)
 refine ⟨hk,⟨p7.asked,p7.phase,p7.inc,p7.since,p7.mI,p7.cK⟩,⟨rfl,rfl,rfl,rfl,rfl,rfl⟩,⟨Int.le_refl _,Int.le_refl _⟩,by omega,by simp,fun i hi=>?_,fun _=>?_,fun h'=>?_,fun i hi=>?_,fun i q hi hq hne=>?_,fun i hi=>?_,fun i hi h0=>?_,fun h'=>by dsimp only at h'; omega⟩
 ·rw [hg i]; split
  ·rename_i e; subst e; exact ⟨rfl,rfl,rfl,rfl⟩
  ·exact ⟨rfl,rfl,rfl,rfl⟩
 ·obtain ⟨a,b',d,u,e,f⟩:=iZ
  refine ⟨l1,by dsimp only; omega,by dsimp only; omega,u,e,fun i hi hb'=>f i hi ?_⟩
  dsimp only at hb'
  rw [l4 i (by omega)] at hb'
  simp only [Bool.and_eq_true] at hb'
  exact hb'.1
 ·dsimp only at h'; rw [h2] at h'; cases h'
 ·rw [hg i]
  dsimp only
  rw [l4 i (by omega)]
  have:=h.link i k hi hk
  split
  ·rename_i e; subst e; simp; omega
  ·rename_i e; simp [e,this]
 ·rw [hg i]
  split
  ·rename_i e; subst e; dsimp only; omega
  ·rfl
 ·rw [hg i]
  have:=h.bW i hi
  split
  ·dsimp only; omega
  ·exact this
 ·rw [hg i] at h0
  split at h0
  ·exact absurd rfl h0
  ·refine ⟨h.up i hi h0,?_⟩
   cases hm:(eS s i).aU with
   | false=>rfl
   | true=>exact absurd (h.aU i hi hm).2.2 h0
end
end Dv
namespace Dv
theorem xB {n lo hi:Int} (h:¬ aT n lo hi=false):lo≤n∧n≤hi:=bf (by simpa using h)
theorem JO {c:aI} {s:ai} (h:cm c s):1≤nt s∧nt s≤9:=by
 unfold nt; split
 ·exact h.bH
 ·exact h.goal
theorem jM {c:aI} {s:ai} (h:cm c s) {i:Nat} (hi:i<s.nodes.length):(1≤(eS s i).version∧(eS s i).version≤9)∧(0≤(eS s i).bW∧(eS s i).bW≤s.jobs.length)∧((eS s i).aU=true→(eS s i).up=true∧(eS s i).bV=true∧(eS s i).bW=0)∧((eS s i).bW≠0→(eS s i).up=true):=
 ⟨h.Hy i hi,h.bW i hi,h.aU i hi,h.up i hi⟩
theorem KR {c:aI} {s:ai} (h:cm c s) {o:dH} (ho:dX o=true) (hj:iz o.kind=true→1≤o.a∧o.a≤s.jobs.length) (hn:fe o.kind=true→o.a<s.nodes.length):(aW c s o).2=0→Step c s (aW c s o).1:=by
 obtain ⟨hkk,hka,hkb⟩:=k9 ho
 have hlj:=h.jobs
 have rD:=h.len
 have hk:o.kind=1∨o.kind=2∨o.kind=3∨o.kind=4∨o.kind=5∨o.kind=6∨o.kind=7∨o.kind=8∨o.kind=9∨o.kind=10∨o.kind=11∨o.kind=12∨o.kind=13∨o.kind=14∨o.kind=15∨o.kind=16∨o.kind=17∨o.kind=18∨o.kind=19∨o.kind=20∨o.kind=21:=by omega
 have J:iz o.kind=true→∃ k:Nat,o.a=k+1∧(o.a-1).toNat=k∧k<s.jobs.length∧bG s o.a=fJ s k∧qB c (fJ s k):=fun hq=>by
  obtain ⟨k,a1,a2,a3,a4⟩:=Co h (hj hq)
  exact ⟨k,a1,a2,a3,a4,h.num k a3⟩
 have N:fe o.kind=true→∃ i:Nat,o.a=i∧o.a.toNat=i∧i<s.nodes.length∧bg s o.a=eS s i:=fun hq=>xl ⟨hka.1,hn hq⟩
 rcases hk with hk | hk | hk | hk | hk | hk | hk | hk | hk | hk | hk | hk | hk | hk | hk | hk | hk | hk | hk | hk | hk
 ·rw [show aW c s o=jf c s o by simp only [aW,hk,Int.reduceEq,if_true,if_false]]
  unfold jf
  split
  ·intro e; cases e
  split
  ·intro e; cases e
  rename_i ha X7
  intro _
  exact .more ⟨by omega,⟨by simpa using ha,by simp [gD],by simp [gD],by simp [gD],by simp [gD],by simp [gD]⟩,rfl,rfl⟩
 ·rw [show aW c s o=jZ s o by simp only [aW,hk,Int.reduceEq,if_true,if_false]]
  obtain ⟨k,a1,a2,a3,a4,a5⟩:=J (by rw [hk]; rfl)
  unfold jZ
  rw [a4]
  split
  ·intro e; cases e
  rename_i hp
  intro _
  rw [a1]
  exact nZ h a3 (.inr rfl) hp
 ·rw [show aW c s o=jT s o by simp only [aW,hk,Int.reduceEq,if_true,if_false]]
  unfold jT
  split
  ·intro e; cases e
  rename_i hp
  intro _
  exact .num ⟨xB hp,JO h,by decide,by have:=h.term; omega⟩
 ·rw [show aW c s o=gr s (s.mode==0) 1 by simp only [aW,hk,Int.reduceEq,if_true,if_false]]
  unfold gr
  split
  ·intro _; exact .num ⟨h.goal,h.bH,by decide,by have:=h.term; omega⟩
  ·intro e; cases e
 ·rw [show aW c s o=gr s (s.mode==1) 0 by simp only [aW,hk,Int.reduceEq,if_true,if_false]]
  unfold gr
  split
  ·intro _; exact .num ⟨h.goal,h.bH,by decide,by have:=h.term; omega⟩
  ·intro e; cases e
 ·rw [show aW c s o=gr s (s.mode !=2) 2 by simp only [aW,hk,Int.reduceEq,if_true,if_false]]
  unfold gr
  split
  ·intro _; exact .num ⟨h.goal,h.bH,by decide,by have:=h.term; omega⟩
  ·intro e; cases e
 ·rw [show aW c s o=qp s o by simp only [aW,hk,Int.reduceEq,if_true,if_false]]
  obtain ⟨i,b1,b2,b3,b4⟩:=N (by rw [hk]; rfl)
  obtain ⟨n1,n2,n3,n4⟩:=jM h b3
  unfold qp
  rw [b4]
  split
  ·intro e; cases e
  intro _
  dsimp only
  by_cases hz:(eS s i).bW=0
  ·rw [if_neg (by simp [hz]),b4]
   refine qI b2 ⟨b3,n1,rfl,fun _=>rfl,fun e=>(by cases e),fun e=>absurd hz e⟩
  ·rw [if_pos hz]
   obtain ⟨k,hkj⟩:∃ k:Nat,(eS s i).bW=k+1:=⟨((eS s i).bW-1).toNat,by omega⟩
   have hkl:k<s.jobs.length:=by omega
   have aaC:=(h.link i k b3 hkl).2 hkj
   have hph:(fJ s k).phase≠4:=fun e=>by
    have:=h.idle k hkl (by rw [e]; rfl)
    rw [this,p8] at aaC; cases aaC
   have hst:=tC h hkl (p:=0) (.inl rfl) hph
   have hr:=h.yT hst
   rw [hkj,ye]
   have hna:bg { s with nodes:=s.nodes.mapIdx (lets (k+1)),jobs:=s.jobs.set k { fJ s k with phase:=0,nodes:=0,since:=0,mI:=0 } } o.a=lets (k+1) i (eS s i):=by
    unfold bg; rw [b2]; exact mA _ _ _ _ b3
   have aaj:eS { s with nodes:=s.nodes.mapIdx (lets (k+1)),jobs:=s.jobs.set k { fJ s k with phase:=0,nodes:=0,since:=0,mI:=0 } } i=lets (k+1) i (eS s i):=mA _ _ _ _ b3
   have XO:lets (k+1) i (eS s i) = { eS s i with bW:=0 }:=by unfold lets; rw [if_pos hkj]
   rw [hna,XO]
   unfold fo
   rw [b2]
   refine .both hst ⟨by simpa using b3,n1,by rw [aaj,XO],fun _=>by rw [aaj,XO],fun e=>(by cases e),fun e=>absurd rfl e⟩
 ·rw [show aW c s o=LS s o by simp only [aW,hk,Int.reduceEq,if_true,if_false]]
  obtain ⟨i,b1,b2,b3,b4⟩:=N (by rw [hk]; rfl)
  obtain ⟨n1,n2,n3,n4⟩:=jM h b3
  unfold LS
  rw [b4]
  split
  ·intro e; cases e
  split
  ·intro e; cases e
  rename_i hv hu
  intro _
  refine qI b2 ⟨b3,xB hv,rfl,fun e=>absurd (n4 e) hu,fun e=>absurd (n3 e).1 hu,fun e=>rfl⟩
 ·rw [show aW c s o=nE s o by simp only [aW,hk,Int.reduceEq,if_true,if_false]]
  obtain ⟨k,a1,a2,a3,a4,a5⟩:=J (by rw [hk]; rfl)
  unfold nE
  rw [a4]
  split
  ·intro e; cases e
  split
  ·intro e; cases e
  rename_i hp hf
  intro _
  have hp:(fJ s k).phase=0:=by simpa using hp
  have hst:=Kk h a3 hp (b:=o.b) (by cases hq:jE s.nodes (fJ s k) o.b jr with | true=>rfl | false=>exact absurd (.inl hq) hf) (by omega)
  unfold eN
  rw [a2,a1]
  exact .bW hst
 ·rw [show aW c s o=mJ s o by simp only [aW,hk,Int.reduceEq,if_true,if_false]]
  obtain ⟨k,a1,a2,a3,a4,a5⟩:=J (by rw [hk]; rfl)
  unfold mJ
  rw [a4]
  split
  ·intro e; cases e
  rename_i hp
  have hp:(fJ s k).phase=1:=by simpa using hp
  intro _
  exact BW a2 (sV h a3 _ ⟨a5.asked,by dsimp only; omega,a5.inc,hkb,a5.mI,a5.cK⟩ ⟨rfl,rfl,rfl,rfl,rfl,rfl⟩ ⟨Int.le_refl _,Int.le_refl _⟩ (by omega) rfl (by rw [hp]; rfl) (fun e=>by cases e))
 ·rw [show aW c s o=jS s o by simp only [aW,hk,Int.reduceEq,if_true,if_false]]
  obtain ⟨k,a1,a2,a3,a4,a5⟩:=J (by rw [hk]; rfl)
  unfold jS
  rw [a4]
  split
  ·intro e; cases e
  rename_i hp
  have hp:(fJ s k).phase=1:=by simpa using hp
  intro _
  rw [a1]
  exact nZ h a3 (.inl rfl) (by omega)
 ·rw [show aW c s o=lX c s o by simp only [aW,hk,Int.reduceEq,if_true,if_false]]
  obtain ⟨k,a1,a2,a3,a4,a5⟩:=J (by rw [hk]; rfl)
  unfold lX
  rw [a4]
  split
  ·intro e; cases e
  split
  ·intro e; cases e
  rename_i hp hq
  have hp:(fJ s k).phase=2:=by simpa using hp
  intro _
  exact BW a2 (sV h a3 _ ⟨a5.asked,by dsimp only; omega,a5.inc,a5.since,hkb,a5.cK⟩ ⟨rfl,rfl,rfl,rfl,rfl,rfl⟩ ⟨Int.le_refl _,Int.le_refl _⟩ (by omega) rfl (by rw [hp]; rfl) (fun e=>.inr (by omega)))
 ·rw [show aW c s o=jF s o by simp only [aW,hk,Int.reduceEq,if_true,if_false]]
  obtain ⟨k,a1,a2,a3,a4,a5⟩:=J (by rw [hk]; rfl)
  unfold jF
  rw [a4]
  split
  ·intro e; cases e
  split
  ·intro e; cases e
  rename_i hp hq
  have hp:(fJ s k).phase≠4:=fun e=>by unfold kG at hp; rw [e] at hp; exact hp rfl
  intro _
  exact BW a2 (sV h a3 _ ⟨a5.asked,a5.phase,a5.inc,a5.since,a5.mI,by dsimp only; omega⟩ ⟨rfl,rfl,rfl,rfl,rfl,rfl⟩ ⟨Int.le_refl _,by dsimp only; omega⟩ hp rfl rfl (fun e=>.inl e))
 ·rw [show aW c s o=mV s o by simp only [aW,hk,Int.reduceEq,if_true,if_false]]
  obtain ⟨k,a1,a2,a3,a4,a5⟩:=J (by rw [hk]; rfl)
  unfold mV
  rw [a4]
  split
  ·intro e; cases e
  rename_i hp
  have hp:(fJ s k).phase=3:=by simpa using hp
  intro _
  rw [a1]
  exact nZ h a3 (.inl rfl) (by omega)
 ·rw [show aW c s o=rX s o by simp only [aW,hk,Int.reduceEq,if_true,if_false]]
  obtain ⟨k,a1,a2,a3,a4,a5⟩:=J (by rw [hk]; rfl)
  unfold rX
  rw [a4]
  split
  ·intro e; cases e
  rename_i hp
  have hp:(fJ s k).phase≠4:=fun e=>by unfold kG at hp; rw [e] at hp; exact hp rfl
  intro _
  rw [a1]
  exact nZ h a3 (.inr rfl) hp
 ·rw [show aW c s o=kW s o by simp only [aW,hk,Int.reduceEq,if_true,if_false]]
  obtain ⟨i,b1,b2,b3,b4⟩:=N (by rw [hk]; rfl)
  obtain ⟨n1,n2,n3,n4⟩:=jM h b3
  unfold kW
  rw [b4]
  split
  ·intro e; cases e
  intro _
  refine qI b2 ⟨b3,n1,rfl,fun _=>rfl,fun e=>⟨(n3 e).1,rfl,(n3 e).2.2⟩,n4⟩
 ·rw [show aW c s o=gY s o by simp only [aW,hk,Int.reduceEq,if_true,if_false]]
  obtain ⟨i,b1,b2,b3,b4⟩:=N (by rw [hk]; rfl)
  obtain ⟨n1,n2,n3,n4⟩:=jM h b3
  unfold gY
  rw [b4]
  split
  ·intro e; cases e
  rename_i hq
  intro _
  refine qI b2 ⟨b3,n1,rfl,fun _=>rfl,fun e=>absurd (.inr e) hq,n4⟩
 ·rw [show aW c s o=tR s o by simp only [aW,hk,Int.reduceEq,if_true,if_false]]
  obtain ⟨i,b1,b2,b3,b4⟩:=N (by rw [hk]; rfl)
  obtain ⟨n1,n2,n3,n4⟩:=jM h b3
  unfold tR
  rw [b4]
  split
  ·intro e; cases e
  rename_i hq
  intro _
  have Cz:(eS s i).up=true∧(eS s i).bV=true∧(eS s i).bW=0:=by
   simp only [not_or,Bool.not_eq_false,Bool.not_eq_true,Decidable.not_not] at hq
   exact ⟨hq.1,hq.2.1,hq.2.2.2⟩
  refine qI b2 ⟨b3,n1,rfl,fun _=>rfl,fun e=>Cz,n4⟩
 ·rw [show aW c s o=lR s o by simp only [aW,hk,Int.reduceEq,if_true,if_false]]
  obtain ⟨i,b1,b2,b3,b4⟩:=N (by rw [hk]; rfl)
  obtain ⟨n1,n2,n3,n4⟩:=jM h b3
  unfold lR
  rw [b4]
  split
  ·intro e; cases e
  split
  ·intro e; cases e
  rename_i hv hm
  intro _
  have hm:(eS s i).aU=true:=by simpa using hm
  refine qI b2 ⟨b3,xB hv,rfl,fun e=>absurd (n3 hm).2.2 e,fun e=>(by cases e),n4⟩
 ·rw [show aW c s o=gF s o by simp only [aW,hk,Int.reduceEq,if_true,if_false]]
  obtain ⟨k,a1,a2,a3,a4,a5⟩:=J (by rw [hk]; rfl)
  unfold gF
  split
  ·intro e; cases e
  rename_i oO
  obtain ⟨b,b1,b2,b3,b4⟩:=xl (s:=s) (a:=o.b) (by omega)
  rw [a4,b4]
  split
  ·intro e; cases e
  split
  ·intro e; cases e
  rename_i hp hq
  have hp:(fJ s k).phase=2:=by simpa using hp
  simp only [not_or,Decidable.not_not] at hq
  intro _
  have hst:=Dt h a3 b3 hp (by omega) (by omega)
  unfold fo eN
  rw [a2,b1]
  exact .bW hst
 ·rw [show aW c s o=iG s by simp only [aW,hk,Int.reduceEq,if_true,if_false]]
  unfold iG
  split
  ·intro e; cases e
  intro _
  exact .num ⟨h.goal,h.bH,h.mode,by have:=h.term; omega⟩
theorem Hl {c:aI} {s:ai} (h:cm c s) (o:dH):((bC c s o).2=0→Step c s (bC c s o).1)∧((bC c s o).2≠0→(bC c s o).1=s):=by
 have hr:=(gA c s).2 h
 unfold bC
 rw [if_neg (by simp [hr])]
 unfold Aj
 split
 ·exact ⟨fun e=>by (cases e),fun _=>rfl⟩
 split
 ·exact ⟨fun e=>by (cases e),fun _=>rfl⟩
 split
 ·exact ⟨fun e=>by (cases e),fun _=>rfl⟩
 rename_i h1 h2 h3
 exact ⟨KR h (by simpa using h1) (fun e=>by by_cases hq:o.a<1∨(s.jobs.length:Int)<o.a; exact absurd ⟨e,hq⟩ h2; omega) (fun e=>by by_cases hq:(s.nodes.length:Int)≤o.a; exact absurd ⟨e,hq⟩ h3; omega),EV c s o⟩
theorem mF {c:aI} {s:ai} (h:cm c s) (o:dH):cm c (bC c s o).1:=by
 have:=Hl h o
 by_cases e:(bC c s o).2=0
 ·exact (this.1 e).right h
 ·rw [this.2 e]; exact h
end Dv
