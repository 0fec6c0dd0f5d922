/- The book's Apply is the document's, of every state that may be. -/
import Derived.Test.YtkalnfkokkjliaaGreatDoorDD
set_option linter.unusedVariables false
set_option linter.unusedSimpArgs false
namespace Dv
theorem JV {c:aH} {s:aa} (h:bT c s) {a:Int} (ha:1≤a∧a≤s.jobs.length):∃ k:Nat,a=k+1∧(a-1).toNat=k∧k<s.jobs.length∧dM s a=cZ s k:=
 ⟨(a-1).toNat,by omega,rfl,by omega,rfl⟩
theorem E9 {s:aa} {a:Int} (ha:0≤a∧a<s.nodes.length):∃ i:Nat,a=i∧a.toNat=i∧i<s.nodes.length∧cE s a=dm s i:=
 ⟨a.toNat,by omega,rfl,by omega,rfl⟩
theorem FP {c:aH} {s:aa} (h:bT c s) {k:Nat} (hk:k<s.jobs.length):0≤(cZ s k).nodes∧(cZ s k).nodes<64:=(vv ((gG c s).2 h)).bits hk
end Dv
namespace Dv
theorem vA {s:aa} {k:Nat} (p:Int):dS s ((k:Int)+1) p = { s with nodes:=s.nodes.mapIdx (lets (k+1)),jobs:=s.jobs.set k { cZ s k with phase:=p,nodes:=0,since:=0,til:=0 } }:=by
 have:((k:Int)+1-1).toNat=k:=by omega
 unfold dS dM cZ
 rw [this]
theorem zx {c:aH} {s:aa} {a:Int} {k:Nat} (ha:(a-1).toNat=k) {j':bU} (q:kM c s k j' s.nodes):Step c s (fm s a j'):=by
 unfold fm
 rw [ha]
 exact .aN q
theorem ot {c:aH} {s:aa} {a:Int} {i:Nat} (ha:a.toNat=i) {n':bK} (q:sn s i n'):Step c s (iW s a n'):=by
 unfold iW
 rw [ha]
 exact .node q
theorem DC (m b:Int) (hm:0≤m∧m<64) (hb:0≤b∧b<6) (hh:hasB m b.toNat=true):0≤ku m b∧many (ku m b)=many m-1∧ku m b≤m∧∀ i:Nat,i<6→hasB (ku m b) i=(hasB m i&&decide (i≠b.toNat)):=by
 obtain ⟨m,rfl⟩:=Int.eq_ofNat_of_zero_le hm.1
 obtain ⟨b,rfl⟩:=Int.eq_ofNat_of_zero_le hb.1
 have:∀ m:Nat,m<64→∀ b:Nat,b<6→hasB (m:Int) b=true→0≤ku (m:Int) b∧many (ku (m:Int) b)=many m-1∧ku (m:Int) b≤m∧∀ i:Nat,i<6→hasB (ku (m:Int) b) i=(hasB (m:Int) i&&decide (i≠b)):=by decide +kernel
 exact this m (by omega) b (by omega) hh
section
variable {c:aH} {s:aa} (h:bT c s)
include h
theorem qh {k:Nat} (hk:k<s.jobs.length) (j':bU) (num:tC c j') (fixed:j'.queue=(cZ s k).queue∧j'.prio=(cZ s k).prio∧j'.min=(cZ s k).min∧j'.max=(cZ s k).max∧j'.work=(cZ s k).work∧j'.pin=(cZ s k).pin)
  (grow:(cZ s k).inc≤j'.inc∧(cZ s k).epoch≤j'.epoch) (ended:(cZ s k).phase≠4) (hn:j'.nodes=(cZ s k).nodes) (hp:dW j'.phase=dW (cZ s k).phase)
  (hq:j'.phase=3→(cZ s k).phase=3∨cA s.jobs (cZ s k).queue<c.cD):kM c s k j' s.nodes:=by
 refine ⟨hk,num,fixed,grow,ended,rfl,fun i hi=>⟨rfl,rfl,rfl,rfl⟩,fun mq=>?_,fun mq=>?_,fun i hi=>?_,fun i q hi hq hne=>Iff.rfl,h.aN,fun i hi h0=>⟨h.up i hi h0,?_⟩,hq⟩
 ·rw [hp] at mq
  obtain ⟨a,b,d,u,e,f⟩:=h.kR k hk mq
  obtain ⟨f1,f2,f3,f4,f5,f6⟩:=fixed
  refine ⟨by rw [hn]; exact a,by rw [hn]; exact b,by rw [hn,f3,f4]; exact d,u,by rw [f6]; exact e,by rw [hn]; exact f⟩
 ·rw [hp] at mq; rw [hn]; exact h.idle k hk mq
 ·rw [hn]; exact h.link i k hi hk
 ·cases hm:(dm s i).bu with
  | false=>rfl
  | true=>exact absurd (h.bu i hi hm).2.2 h0
theorem qU {k:Nat} (hk:k<s.jobs.length) {p:Int} (hp:p=0∨p=4) (ended:(cZ s k).phase≠4) :
  kM c s k { cZ s k with phase:=p,nodes:=0,since:=0,til:=0 } (s.nodes.mapIdx (lets (k+1))):=by
 have hj:=h.num k hk
 have hg:∀ i,i<s.nodes.length→(s.nodes.mapIdx (lets (k+1))).getD i ag=lets (k+1) i (dm s i):=fun i hi=>kz _ _ _ _ hi
 have mq:dW p=false:=by rcases hp with rfl | rfl <;> rfl
 refine ⟨hk,⟨hj.asked,by dsimp only; omega,hj.inc,by dsimp only; omega,by dsimp only; omega,hj.epoch⟩,⟨rfl,rfl,rfl,rfl,rfl,rfl⟩,⟨Int.le_refl _,Int.le_refl _⟩,ended,by simp,fun i hi=>?_,fun h'=>?_,fun _=>rfl,fun i hi=>?_,fun i q hi hq hne=>?_,fun i hi=>?_,fun i hi h0=>?_,fun h'=>?_⟩
 ·rw [hg i hi]; unfold lets; split <;> exact ⟨rfl,rfl,rfl,rfl⟩
 ·dsimp only at h'; rw [mq] at h'; cases h'
 ·dsimp only
  rw [hg i hi,nY]
  unfold lets
  split
  ·simp; omega
  ·rename_i hne; simp [hne]
 ·rw [hg i hi]
  unfold lets
  split
  ·rename_i he
   dsimp only
   omega
  ·rfl
 ·rw [hg i hi]
  have:=h.aN i hi
  unfold lets
  split
  ·dsimp only; omega
  ·exact this
 ·rw [hg i hi] at h0
  unfold lets at h0
  split at h0
  ·exact absurd rfl h0
  ·refine ⟨h.up i hi h0,?_⟩
   cases hm:(dm s i).bu with
   | false=>rfl
   | true=>exact absurd (h.bu i hi hm).2.2 h0
 ·dsimp only at h'; omega
theorem l6 {k:Nat} (hk:k<s.jobs.length) {p:Int} (hp:p=0∨p=4) (ended:(cZ s k).phase≠4):Step c s (dS s ((k:Int)+1) p):=by
 rw [vA]
 exact .aN (qU h hk hp ended)
theorem G4 {k:Nat} (hk:k<s.jobs.length) {b:Int} (h0:(cZ s k).phase=0) (hf:kC s.nodes (cZ s k) b jW=true) (hi:(cZ s k).inc<1000000) :
  kM c s k { cZ s k with phase:=1,inc:=(cZ s k).inc+1,nodes:=b } (s.nodes.mapIdx (fH b (k+1))):=by
 have hj:=h.num k hk
 have hv:∀ k,k<s.nodes.length→1≤(s.nodes.getD k ag).version:=fun k hk=>(h.Is k hk).1
 obtain ⟨f1,f2,u,f3,f4⟩:=(yY _ _ _ _ hv).1 hf
 have hg:∀ i,i<s.nodes.length→(s.nodes.mapIdx (fH b (k+1))).getD i ag=fH b (k+1) i (dm s i):=fun i hi=>kz _ _ _ _ hi
 have hfree:∀ i,i<s.nodes.length→hasB b i=true→(dm s i).up=true∧(dm s i).bu=false∧(dm s i).aN=0:=fun i hi hb=>by
  have:=(f4 i hi hb).1
  unfold jW at this
  simp only [Bool.and_eq_true,decide_eq_true_eq,Bool.not_eq_true'] at this
  exact ⟨this.1.1.1,this.1.2,this.2⟩
 have hno:(cZ s k).nodes=0:=h.idle k hk (by rw [h0]; rfl)
 have hnk:∀ i,i<s.nodes.length→(dm s i).aN≠k+1:=fun i hi he=>by
  have:=(h.link i k hi hk).2 he
  rw [hno,nY] at this; cases this
 refine ⟨hk,⟨hj.asked,by dsimp only; omega,by have:=hj.inc; dsimp only; omega,hj.since,hj.til,by have:=hj.epoch; dsimp only; omega⟩,⟨rfl,rfl,rfl,rfl,rfl,rfl⟩,⟨by dsimp only; omega,Int.le_refl _⟩,by omega,by simp,fun i hi=>?_,fun _=>⟨f1.1,f1.2,f2,u,f3,fun i hi hb=>(f4 i hi hb).2⟩,fun h'=>by simp [dW] at h',fun i hi=>?_,fun i q hi hq hne=>?_,fun i hi=>?_,fun i hi h0=>?_,fun h'=>by dsimp only at h'; omega⟩
 ·rw [hg i hi]; unfold fH; split <;> exact ⟨rfl,rfl,rfl,rfl⟩
 ·rw [hg i hi]
  have:=hnk i hi
  unfold fH
  dsimp only
  split
  ·rename_i hb; simp [hb]
  ·rename_i hb; simp [hb,this]
 ·rw [hg i hi]
  unfold fH
  split
  ·rename_i hb
   have:=(hfree i hi hb).2.2
   dsimp only
   omega
  ·rfl
 ·rw [hg i hi]
  have:=h.aN i hi
  unfold fH
  split
  ·dsimp only; omega
  ·exact this
 ·rw [hg i hi] at h0
  unfold fH at h0
  split at h0
  ·rename_i hb
   have:=hfree i hi hb
   exact ⟨this.1,this.2.1⟩
  ·refine ⟨h.up i hi h0,?_⟩
   cases hm:(dm s i).bu with
   | false=>rfl
   | true=>exact absurd (h.bu i hi hm).2.2 h0
theorem A1 {k b:Nat} (hk:k<s.jobs.length) (hb:b<s.nodes.length) (h2:(cZ s k).phase=2) (hj:(dm s b).aN=k+1) (hm:(cZ s k).min<many (cZ s k).nodes) :
  kM c s k { cZ s k with nodes:=ku (cZ s k).nodes b } (s.nodes.set b { dm s b with aN:=0 }):=by
 have BT:=h.num k hk
 have Ae:=h.len
 have FA:=FP h hk
 have hh:=(h.link b k hb hk).2 hj
 obtain ⟨l1,l2,l3,l4⟩:=DC (cZ s k).nodes b FA (by omega) hh
 have hg:∀ i,(s.nodes.set b { dm s b with aN:=0 }).getD i ag=if i=b then { dm s b with aN:=0 } else dm s i:=fun i=>wD _ _ _ _ _ hb
 have mq:=h.kR k hk (by rw [h2]; rfl)
 refine ⟨hk,⟨BT.asked,BT.phase,BT.inc,BT.since,BT.til,BT.epoch⟩,⟨rfl,rfl,rfl,rfl,rfl,rfl⟩,⟨Int.le_refl _,Int.le_refl _⟩,by omega,by simp,fun i hi=>?_,fun _=>?_,fun h'=>?_,fun i hi=>?_,fun i q hi hq hne=>?_,fun i hi=>?_,fun i hi h0=>?_,fun h'=>by dsimp only at h'; omega⟩
 ·rw [hg i]; split
  ·rename_i e; subst e; exact ⟨rfl,rfl,rfl,rfl⟩
  ·exact ⟨rfl,rfl,rfl,rfl⟩
 ·obtain ⟨a,b',d,u,e,f⟩:=mq
  refine ⟨l1,by dsimp only; omega,by dsimp only; omega,u,e,fun i hi hb'=>f i hi ?_⟩
  dsimp only at hb'
  rw [l4 i (by omega)] at hb'
  simp only [Bool.and_eq_true] at hb'
  exact hb'.1
 ·dsimp only at h'; rw [h2] at h'; cases h'
 ·rw [hg i]
  dsimp only
  rw [l4 i (by omega)]
  have:=h.link i k hi hk
  split
  ·rename_i e; subst e; simp; omega
  ·rename_i e; simp [e,this]
 ·rw [hg i]
  split
  ·rename_i e; subst e; dsimp only; omega
  ·rfl
 ·rw [hg i]
  have:=h.aN i hi
  split
  ·dsimp only; omega
  ·exact this
 ·rw [hg i] at h0
  split at h0
  ·exact absurd rfl h0
  ·refine ⟨h.up i hi h0,?_⟩
   cases hm:(dm s i).bu with
   | false=>rfl
   | true=>exact absurd (h.bu i hi hm).2.2 h0
end
end Dv
namespace Dv
theorem uS {n lo hi:Int} (h:¬ bF n lo hi=false):lo≤n∧n≤hi:=aS (by simpa using h)
theorem GK {c:aH} {s:aa} (h:bT c s):1≤fk s∧fk s≤9:=by
 unfold fk; split
 ·exact h.prior
 ·exact h.goal
theorem iC {c:aH} {s:aa} (h:bT c s) {i:Nat} (hi:i<s.nodes.length):(1≤(dm s i).version∧(dm s i).version≤9)∧(0≤(dm s i).aN∧(dm s i).aN≤s.jobs.length)∧((dm s i).bu=true→(dm s i).up=true∧(dm s i).ct=true∧(dm s i).aN=0)∧((dm s i).aN≠0→(dm s i).up=true):=
 ⟨h.Is i hi,h.aN i hi,h.bu i hi,h.up i hi⟩
theorem HE {c:aH} {s:aa} (h:bT c s) {o:cH} (ho:gH o=true) (hj:DH o.kind=true→1≤o.a∧o.a≤s.jobs.length) (hn:vR o.kind=true→o.a<s.nodes.length):(bM c s o).2=0→Step c s (bM c s o).1:=by
 obtain ⟨hkk,hka,hkb⟩:=sO ho
 have hlj:=h.jobs
 have Ae:=h.len
 have hk:o.kind=1∨o.kind=2∨o.kind=3∨o.kind=4∨o.kind=5∨o.kind=6∨o.kind=7∨o.kind=8∨o.kind=9∨o.kind=10∨o.kind=11∨o.kind=12∨o.kind=13∨o.kind=14∨o.kind=15∨o.kind=16∨o.kind=17∨o.kind=18∨o.kind=19∨o.kind=20∨o.kind=21:=by omega
 have J:DH o.kind=true→∃ k:Nat,o.a=k+1∧(o.a-1).toNat=k∧k<s.jobs.length∧dM s o.a=cZ s k∧tC c (cZ s k):=fun hq=>by
  obtain ⟨k,a1,a2,a3,a4⟩:=JV h (hj hq)
  exact ⟨k,a1,a2,a3,a4,h.num k a3⟩
 have N:vR o.kind=true→∃ i:Nat,o.a=i∧o.a.toNat=i∧i<s.nodes.length∧cE s o.a=dm s i:=fun hq=>E9 ⟨hka.1,hn hq⟩
 rcases hk with hk | hk | hk | hk | hk | hk | hk | hk | hk | hk | hk | hk | hk | hk | hk | hk | hk | hk | hk | hk | hk
 ·rw [show bM c s o=ji c s o by simp only [bM,hk,Int.reduceEq,if_true,if_false]]
  unfold ji
  split
  ·intro e; cases e
  split
  ·intro e; cases e
  rename_i ha ZT
  intro _
  exact .more ⟨by omega,⟨by simpa using ha,by simp [kU],by simp [kU],by simp [kU],by simp [kU],by simp [kU]⟩,rfl,rfl⟩
 ·rw [show bM c s o=kI s o by simp only [bM,hk,Int.reduceEq,if_true,if_false]]
  obtain ⟨k,a1,a2,a3,a4,a5⟩:=J (by rw [hk]; rfl)
  unfold kI
  rw [a4]
  split
  ·intro e; cases e
  rename_i hp
  intro _
  rw [a1]
  exact l6 h a3 (.inr rfl) hp
 ·rw [show bM c s o=kg s o by simp only [bM,hk,Int.reduceEq,if_true,if_false]]
  unfold kg
  split
  ·intro e; cases e
  rename_i hp
  intro _
  exact .num ⟨uS hp,GK h,by decide,by have:=h.term; omega⟩
 ·rw [show bM c s o=gF s (s.mode==0) 1 by simp only [bM,hk,Int.reduceEq,if_true,if_false]]
  unfold gF
  split
  ·intro _; exact .num ⟨h.goal,h.prior,by decide,by have:=h.term; omega⟩
  ·intro e; cases e
 ·rw [show bM c s o=gF s (s.mode==1) 0 by simp only [bM,hk,Int.reduceEq,if_true,if_false]]
  unfold gF
  split
  ·intro _; exact .num ⟨h.goal,h.prior,by decide,by have:=h.term; omega⟩
  ·intro e; cases e
 ·rw [show bM c s o=gF s (s.mode !=2) 2 by simp only [bM,hk,Int.reduceEq,if_true,if_false]]
  unfold gF
  split
  ·intro _; exact .num ⟨h.goal,h.prior,by decide,by have:=h.term; omega⟩
  ·intro e; cases e
 ·rw [show bM c s o=rS s o by simp only [bM,hk,Int.reduceEq,if_true,if_false]]
  obtain ⟨i,b1,b2,b3,b4⟩:=N (by rw [hk]; rfl)
  obtain ⟨n1,n2,n3,n4⟩:=iC h b3
  unfold rS
  rw [b4]
  split
  ·intro e; cases e
  intro _
  dsimp only
  by_cases hz:(dm s i).aN=0
  ·rw [if_neg (by simp [hz]),b4]
   refine ot b2 ⟨b3,n1,rfl,fun _=>rfl,fun e=>(by cases e),fun e=>absurd hz e⟩
  ·rw [if_pos hz]
   obtain ⟨k,hkj⟩:∃ k:Nat,(dm s i).aN=k+1:=⟨((dm s i).aN-1).toNat,by omega⟩
   have hkl:k<s.jobs.length:=by omega
   have WM:=(h.link i k b3 hkl).2 hkj
   have hph:(cZ s k).phase≠4:=fun e=>by
    have:=h.idle k hkl (by rw [e]; rfl)
    rw [this,nY] at WM; cases WM
   have hst:=qU h hkl (p:=0) (.inl rfl) hph
   have hr:=h.v8 hst
   rw [hkj,vA]
   have hna:cE { s with nodes:=s.nodes.mapIdx (lets (k+1)),jobs:=s.jobs.set k { cZ s k with phase:=0,nodes:=0,since:=0,til:=0 } } o.a=lets (k+1) i (dm s i):=by
    unfold cE; rw [b2]; exact kz _ _ _ _ b3
   have Wl:dm { s with nodes:=s.nodes.mapIdx (lets (k+1)),jobs:=s.jobs.set k { cZ s k with phase:=0,nodes:=0,since:=0,til:=0 } } i=lets (k+1) i (dm s i):=kz _ _ _ _ b3
   have TK:lets (k+1) i (dm s i) = { dm s i with aN:=0 }:=by unfold lets; rw [if_pos hkj]
   rw [hna,TK]
   unfold iW
   rw [b2]
   refine .both hst ⟨by simpa using b3,n1,by rw [Wl,TK],fun _=>by rw [Wl,TK],fun e=>(by cases e),fun e=>absurd rfl e⟩
 ·rw [show bM c s o=LK s o by simp only [bM,hk,Int.reduceEq,if_true,if_false]]
  obtain ⟨i,b1,b2,b3,b4⟩:=N (by rw [hk]; rfl)
  obtain ⟨n1,n2,n3,n4⟩:=iC h b3
  unfold LK
  rw [b4]
  split
  ·intro e; cases e
  split
  ·intro e; cases e
  rename_i hv hu
  intro _
  refine ot b2 ⟨b3,uS hv,rfl,fun e=>absurd (n4 e) hu,fun e=>absurd (n3 e).1 hu,fun e=>rfl⟩
 ·rw [show bM c s o=nX s o by simp only [bM,hk,Int.reduceEq,if_true,if_false]]
  obtain ⟨k,a1,a2,a3,a4,a5⟩:=J (by rw [hk]; rfl)
  unfold nX
  rw [a4]
  split
  ·intro e; cases e
  split
  ·intro e; cases e
  rename_i hp hf
  intro _
  have hp:(cZ s k).phase=0:=by simpa using hp
  have hst:=G4 h a3 hp (b:=o.b) (by cases hq:kC s.nodes (cZ s k) o.b jW with | true=>rfl | false=>exact absurd (.inl hq) hf) (by omega)
  unfold fm
  rw [a2,a1]
  exact .aN hst
 ·rw [show bM c s o=nG s o by simp only [bM,hk,Int.reduceEq,if_true,if_false]]
  obtain ⟨k,a1,a2,a3,a4,a5⟩:=J (by rw [hk]; rfl)
  unfold nG
  rw [a4]
  split
  ·intro e; cases e
  rename_i hp
  have hp:(cZ s k).phase=1:=by simpa using hp
  intro _
  exact zx a2 (qh h a3 _ ⟨a5.asked,by dsimp only; omega,a5.inc,hkb,a5.til,a5.epoch⟩ ⟨rfl,rfl,rfl,rfl,rfl,rfl⟩ ⟨Int.le_refl _,Int.le_refl _⟩ (by omega) rfl (by rw [hp]; rfl) (fun e=>by cases e))
 ·rw [show bM c s o=kf s o by simp only [bM,hk,Int.reduceEq,if_true,if_false]]
  obtain ⟨k,a1,a2,a3,a4,a5⟩:=J (by rw [hk]; rfl)
  unfold kf
  rw [a4]
  split
  ·intro e; cases e
  rename_i hp
  have hp:(cZ s k).phase=1:=by simpa using hp
  intro _
  rw [a1]
  exact l6 h a3 (.inl rfl) (by omega)
 ·rw [show bM c s o=mD c s o by simp only [bM,hk,Int.reduceEq,if_true,if_false]]
  obtain ⟨k,a1,a2,a3,a4,a5⟩:=J (by rw [hk]; rfl)
  unfold mD
  rw [a4]
  split
  ·intro e; cases e
  split
  ·intro e; cases e
  rename_i hp hq
  have hp:(cZ s k).phase=2:=by simpa using hp
  intro _
  exact zx a2 (qh h a3 _ ⟨a5.asked,by dsimp only; omega,a5.inc,a5.since,hkb,a5.epoch⟩ ⟨rfl,rfl,rfl,rfl,rfl,rfl⟩ ⟨Int.le_refl _,Int.le_refl _⟩ (by omega) rfl (by rw [hp]; rfl) (fun e=>.inr (by omega)))
 ·rw [show bM c s o=jH s o by simp only [bM,hk,Int.reduceEq,if_true,if_false]]
  obtain ⟨k,a1,a2,a3,a4,a5⟩:=J (by rw [hk]; rfl)
  unfold jH
  rw [a4]
  split
  ·intro e; cases e
  split
  ·intro e; cases e
  rename_i hp hq
  have hp:(cZ s k).phase≠4:=fun e=>by unfold qQ at hp; rw [e] at hp; exact hp rfl
  intro _
  exact zx a2 (qh h a3 _ ⟨a5.asked,a5.phase,a5.inc,a5.since,a5.til,by dsimp only; omega⟩ ⟨rfl,rfl,rfl,rfl,rfl,rfl⟩ ⟨Int.le_refl _,by dsimp only; omega⟩ hp rfl rfl (fun e=>.inl e))
 ·rw [show bM c s o=oc s o by simp only [bM,hk,Int.reduceEq,if_true,if_false]]
  obtain ⟨k,a1,a2,a3,a4,a5⟩:=J (by rw [hk]; rfl)
  unfold oc
  rw [a4]
  split
  ·intro e; cases e
  rename_i hp
  have hp:(cZ s k).phase=3:=by simpa using hp
  intro _
  rw [a1]
  exact l6 h a3 (.inl rfl) (by omega)
 ·rw [show bM c s o=ug s o by simp only [bM,hk,Int.reduceEq,if_true,if_false]]
  obtain ⟨k,a1,a2,a3,a4,a5⟩:=J (by rw [hk]; rfl)
  unfold ug
  rw [a4]
  split
  ·intro e; cases e
  rename_i hp
  have hp:(cZ s k).phase≠4:=fun e=>by unfold qQ at hp; rw [e] at hp; exact hp rfl
  intro _
  rw [a1]
  exact l6 h a3 (.inr rfl) hp
 ·rw [show bM c s o=mE s o by simp only [bM,hk,Int.reduceEq,if_true,if_false]]
  obtain ⟨i,b1,b2,b3,b4⟩:=N (by rw [hk]; rfl)
  obtain ⟨n1,n2,n3,n4⟩:=iC h b3
  unfold mE
  rw [b4]
  split
  ·intro e; cases e
  intro _
  refine ot b2 ⟨b3,n1,rfl,fun _=>rfl,fun e=>⟨(n3 e).1,rfl,(n3 e).2.2⟩,n4⟩
 ·rw [show bM c s o=iy s o by simp only [bM,hk,Int.reduceEq,if_true,if_false]]
  obtain ⟨i,b1,b2,b3,b4⟩:=N (by rw [hk]; rfl)
  obtain ⟨n1,n2,n3,n4⟩:=iC h b3
  unfold iy
  rw [b4]
  split
  ·intro e; cases e
  rename_i hq
  intro _
  refine ot b2 ⟨b3,n1,rfl,fun _=>rfl,fun e=>absurd (.inr e) hq,n4⟩
 ·rw [show bM c s o=vV s o by simp only [bM,hk,Int.reduceEq,if_true,if_false]]
  obtain ⟨i,b1,b2,b3,b4⟩:=N (by rw [hk]; rfl)
  obtain ⟨n1,n2,n3,n4⟩:=iC h b3
  unfold vV
  rw [b4]
  split
  ·intro e; cases e
  rename_i hq
  intro _
  have Kq:(dm s i).up=true∧(dm s i).ct=true∧(dm s i).aN=0:=by
   simp only [not_or,Bool.not_eq_false,Bool.not_eq_true,Decidable.not_not] at hq
   exact ⟨hq.1,hq.2.1,hq.2.2.2⟩
  refine ot b2 ⟨b3,n1,rfl,fun _=>rfl,fun e=>Kq,n4⟩
 ·rw [show bM c s o=me s o by simp only [bM,hk,Int.reduceEq,if_true,if_false]]
  obtain ⟨i,b1,b2,b3,b4⟩:=N (by rw [hk]; rfl)
  obtain ⟨n1,n2,n3,n4⟩:=iC h b3
  unfold me
  rw [b4]
  split
  ·intro e; cases e
  split
  ·intro e; cases e
  rename_i hv hm
  intro _
  have hm:(dm s i).bu=true:=by simpa using hm
  refine ot b2 ⟨b3,uS hv,rfl,fun e=>absurd (n3 hm).2.2 e,fun e=>(by cases e),n4⟩
 ·rw [show bM c s o=gv s o by simp only [bM,hk,Int.reduceEq,if_true,if_false]]
  obtain ⟨k,a1,a2,a3,a4,a5⟩:=J (by rw [hk]; rfl)
  unfold gv
  split
  ·intro e; cases e
  rename_i Aj
  obtain ⟨b,b1,b2,b3,b4⟩:=E9 (s:=s) (a:=o.b) (by omega)
  rw [a4,b4]
  split
  ·intro e; cases e
  split
  ·intro e; cases e
  rename_i hp hq
  have hp:(cZ s k).phase=2:=by simpa using hp
  simp only [not_or,Decidable.not_not] at hq
  intro _
  have hst:=A1 h a3 b3 hp (by omega) (by omega)
  unfold iW fm
  rw [a2,b1]
  exact .aN hst
 ·rw [show bM c s o=gq s by simp only [bM,hk,Int.reduceEq,if_false]]
  unfold gq
  split
  ·intro e; cases e
  intro _
  exact .num ⟨h.goal,h.prior,h.mode,by have:=h.term; omega⟩
theorem EA {c:aH} {s:aa} (h:bT c s) (o:cH):((bO c s o).2=0→Step c s (bO c s o).1)∧((bO c s o).2≠0→(bO c s o).1=s):=by
 have hr:=(gG c s).2 h
 unfold bO
 rw [if_neg (by simp [hr])]
 unfold xV
 split
 ·exact ⟨fun e=>by (cases e),fun _=>rfl⟩
 split
 ·exact ⟨fun e=>by (cases e),fun _=>rfl⟩
 split
 ·exact ⟨fun e=>by (cases e),fun _=>rfl⟩
 rename_i h1 h2 h3
 exact ⟨HE h (by simpa using h1) (fun e=>by by_cases hq:o.a<1∨(s.jobs.length:Int)<o.a; exact absurd ⟨e,hq⟩ h2; omega) (fun e=>by by_cases hq:(s.nodes.length:Int)≤o.a; exact absurd ⟨e,hq⟩ h3; omega),Ca c s o⟩
theorem Cq {c:aH} {s:aa} (h:bT c s) (o:cH):bT c (bO c s o).1:=by
 have:=EA h o
 by_cases e:(bO c s o).2=0
 ·exact (this.1 e).right h
 ·rw [this.2 e]; exact h
end Dv
