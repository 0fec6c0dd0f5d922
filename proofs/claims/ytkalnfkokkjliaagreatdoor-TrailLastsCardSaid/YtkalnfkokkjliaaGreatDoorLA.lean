/- part -/
import Derived.Test.YtkalnfkokkjliaaGreatDoorDD
set_option linter.all false
namespace Dv
theorem OJ {c:aB} {s:aa} (h:bK c s) {a:Int} (ha:1≤a∧a≤s.jobs.length):∃ k:Nat,a=k+1∧(a-1).toNat=k∧k<s.jobs.length∧ej s a=dI s k:=
 ⟨(a-1).toNat,by omega,rfl,by omega,rfl⟩
theorem Jp {s:aa} {a:Int} (ha:0≤a∧a<s.nodes.length):∃ i:Nat,a=i∧a.toNat=i∧i<s.nodes.length∧cO s a=dW s i:=
 ⟨a.toNat,by omega,rfl,by omega,rfl⟩
theorem Kf {c:aB} {s:aa} (h:bK c s) {k:Nat} (hk:k<s.jobs.length):0≤(dI s k).nodes∧(dI s k).nodes<64:=(tU ((fq c s).2 h)).bits hk
end Dv
namespace Dv
theorem yV {s:aa} {k:Nat} (p:Int):ec s ((k:Int)+1) p = { s with nodes:=s.nodes.mapIdx (lets (k+1)),jobs:=s.jobs.set k { dI s k with phase:=p,nodes:=0,since:=0,til:=0 } }:=by
 have:((k:Int)+1-1).toNat=k:=by omega
 unfold ec ej dI
 rw [this]
theorem CL {c:aB} {s:aa} {a:Int} {k:Nat} (ha:(a-1).toNat=k) {j':bP} (q:mO c s k j' s.nodes):Step c s (fU s a j'):=by
 unfold fU
 rw [ha]
 exact .aM q
theorem qQ {c:aB} {s:aa} {a:Int} {i:Nat} (ha:a.toNat=i) {n':a_} (q:u_ s i n'):Step c s (jY s a n'):=by
 unfold jY
 rw [ha]
 exact .node q
theorem Ho (m b:Int) (hm:0≤m∧m<64) (hb:0≤b∧b<6) (hh:hasB m b.toNat=true):0≤mB m b∧many (mB m b)=many m-1∧mB m b≤m∧∀ i:Nat,i<6→hasB (mB m b) i=(hasB m i&&decide (i≠b.toNat)):=by
 obtain ⟨m,rfl⟩:=Int.eq_ofNat_of_zero_le hm.1
 obtain ⟨b,rfl⟩:=Int.eq_ofNat_of_zero_le hb.1
 have:∀ m:Nat,m<64→∀ b:Nat,b<6→hasB (m:Int) b=true→0≤mB (m:Int) b∧many (mB (m:Int) b)=many m-1∧mB (m:Int) b≤m∧∀ i:Nat,i<6→hasB (mB (m:Int) b) i=(hasB (m:Int) i&&decide (i≠b)):=by decide +kernel
 exact this m (by omega) b (by omega) hh
section
variable {c:aB} {s:aa} (h:bK c s)
include h
theorem sZ {k:Nat} (hk:k<s.jobs.length) (j':bP) (num:wu c j') (fixed:j'.queue=(dI s k).queue∧j'.prio=(dI s k).prio∧j'.min=(dI s k).min∧j'.max=(dI s k).max∧j'.work=(dI s k).work∧j'.pin=(dI s k).pin)
  (grow:(dI s k).inc≤j'.inc∧(dI s k).epoch≤j'.epoch) (ended:(dI s k).phase≠4) (hn:j'.nodes=(dI s k).nodes) (hp:ez j'.phase=ez (dI s k).phase)
  (hq:j'.phase=3→(dI s k).phase=3∨cI s.jobs (dI s k).queue<c.cH):mO c s k j' s.nodes:=by
 refine ⟨hk,num,fixed,grow,ended,rfl,fun i hi=>⟨rfl,rfl,rfl,rfl⟩,fun lZ=>?_,fun lZ=>?_,fun i hi=>?_,fun i q hi hq hne=>Iff.rfl,h.aM,fun i hi h0=>⟨h.up i hi h0,?_⟩,hq⟩
 ·rw [hp] at lZ
  obtain ⟨a,b,d,u,e,f⟩:=h.mT k hk lZ
  obtain ⟨f1,f2,f3,f4,f5,f6⟩:=fixed
  refine ⟨by rw [hn]; exact a,by rw [hn]; exact b,by rw [hn,f3,f4]; exact d,u,by rw [f6]; exact e,by rw [hn]; exact f⟩
 ·rw [hp] at lZ; rw [hn]; exact h.idle k hk lZ
 ·rw [hn]; exact h.link i k hi hk
 ·cases hm:(dW s i).bw with
  | false=>rfl
  | true=>exact absurd (h.bw i hi hm).2.2 h0
theorem tV {k:Nat} (hk:k<s.jobs.length) {p:Int} (hp:p=0∨p=4) (ended:(dI s k).phase≠4) :
  mO c s k { dI s k with phase:=p,nodes:=0,since:=0,til:=0 } (s.nodes.mapIdx (lets (k+1))):=by
 have hj:=h.num k hk
 have hg:∀ i,i<s.nodes.length→(s.nodes.mapIdx (lets (k+1))).getD i ai=lets (k+1) i (dW s i):=fun i hi=>mC _ _ _ _ hi
 have lZ:ez p=false:=by rcases hp with rfl | rfl <;> rfl
 refine ⟨hk,⟨hj.asked,by dsimp only; omega,hj.inc,by dsimp only; omega,by dsimp only; omega,hj.epoch⟩,⟨rfl,rfl,rfl,rfl,rfl,rfl⟩,⟨Int.le_refl _,Int.le_refl _⟩,ended,by simp,fun i hi=>?_,fun h'=>?_,fun _=>rfl,fun i hi=>?_,fun i q hi hq hne=>?_,fun i hi=>?_,fun i hi h0=>?_,fun h'=>?_⟩
 ·rw [hg i hi]; unfold lets; split <;> exact ⟨rfl,rfl,rfl,rfl⟩
 ·dsimp only at h'; rw [lZ] at h'; cases h'
 ·dsimp only
  rw [hg i hi,qw]
  unfold lets
  split
  ·simp; omega
  ·rename_i hne; simp [hne]
 ·rw [hg i hi]
  unfold lets
  split
  ·rename_i he
   dsimp only
   omega
  ·rfl
 ·rw [hg i hi]
  have:=h.aM i hi
  unfold lets
  split
  ·dsimp only; omega
  ·exact this
 ·rw [hg i hi] at h0
  unfold lets at h0
  split at h0
  ·exact absurd rfl h0
  ·refine ⟨h.up i hi h0,?_⟩
   cases hm:(dW s i).bw with
   | false=>rfl
   | true=>exact absurd (h.bw i hi hm).2.2 h0
 ·dsimp only at h'; omega
theorem oa {k:Nat} (hk:k<s.jobs.length) {p:Int} (hp:p=0∨p=4) (ended:(dI s k).phase≠4):Step c s (ec s ((k:Int)+1) p):=by
 rw [yV]
 exact .aM (tV h hk hp ended)
theorem LO {k:Nat} (hk:k<s.jobs.length) {b:Int} (h0:(dI s k).phase=0) (hf:mE s.nodes (dI s k) b lM=true) (hi:(dI s k).inc<1000000) :
  mO c s k { dI s k with phase:=1,inc:=(dI s k).inc+1,nodes:=b } (s.nodes.mapIdx (gz b (k+1))):=by
 have hj:=h.num k hk
 have hv:∀ k,k<s.nodes.length→1≤(s.nodes.getD k ai).version:=fun k hk=>(h.M4 k hk).1
 obtain ⟨f1,f2,u,f3,f4⟩:=(Cg _ _ _ _ hv).1 hf
 have hg:∀ i,i<s.nodes.length→(s.nodes.mapIdx (gz b (k+1))).getD i ai=gz b (k+1) i (dW s i):=fun i hi=>mC _ _ _ _ hi
 have hfree:∀ i,i<s.nodes.length→hasB b i=true→(dW s i).up=true∧(dW s i).bw=false∧(dW s i).aM=0:=fun i hi hb=>by
  have:=(f4 i hi hb).1
  unfold lM at this
  simp only [Bool.and_eq_true,decide_eq_true_eq,Bool.not_eq_true'] at this
  exact ⟨this.1.1.1,this.1.2,this.2⟩
 have hno:(dI s k).nodes=0:=h.idle k hk (by rw [h0]; rfl)
 have hnk:∀ i,i<s.nodes.length→(dW s i).aM≠k+1:=fun i hi he=>by
  have:=(h.link i k hi hk).2 he
  rw [hno,qw] at this; cases this
 refine ⟨hk,⟨hj.asked,by dsimp only; omega,by have:=hj.inc; dsimp only; omega,hj.since,hj.til,by have:=hj.epoch; dsimp only; omega⟩,⟨rfl,rfl,rfl,rfl,rfl,rfl⟩,⟨by dsimp only; omega,Int.le_refl _⟩,by omega,by simp,fun i hi=>?_,fun _=>⟨f1.1,f1.2,f2,u,f3,fun i hi hb=>(f4 i hi hb).2⟩,fun h'=>by simp [ez] at h',fun i hi=>?_,fun i q hi hq hne=>?_,fun i hi=>?_,fun i hi h0=>?_,fun h'=>by dsimp only at h'; omega⟩
 ·rw [hg i hi]; unfold gz; split <;> exact ⟨rfl,rfl,rfl,rfl⟩
 ·rw [hg i hi]
  have:=hnk i hi
  unfold gz
  dsimp only
  split
  ·rename_i hb; simp [hb]
  ·rename_i hb; simp [hb,this]
 ·rw [hg i hi]
  unfold gz
  split
  ·rename_i hb
   have:=(hfree i hi hb).2.2
   dsimp only
   omega
  ·rfl
 ·rw [hg i hi]
  have:=h.aM i hi
  unfold gz
  split
  ·dsimp only; omega
  ·exact this
 ·rw [hg i hi] at h0
  unfold gz at h0
  split at h0
  ·rename_i hb
   have:=hfree i hi hb
   exact ⟨this.1,this.2.1⟩
  ·refine ⟨h.up i hi h0,?_⟩
   cases hm:(dW s i).bw with
   | false=>rfl
   | true=>exact absurd (h.bw i hi hm).2.2 h0
theorem Ei {k b:Nat} (hk:k<s.jobs.length) (hb:b<s.nodes.length) (h2:(dI s k).phase=2) (hj:(dW s b).aM=k+1) (hm:(dI s k).min<many (dI s k).nodes) :
  mO c s k { dI s k with nodes:=mB (dI s k).nodes b } (s.nodes.set b { dW s b with aM:=0 }):=by
 have Fp:=h.num k hk
 have vm:=h.len
 have JV:=Kf h hk
 have hh:=(h.link b k hb hk).2 hj
 obtain ⟨l1,l2,l3,l4⟩:=Ho (dI s k).nodes b JV (by omega) hh
 have hg:∀ i,(s.nodes.set b { dW s b with aM:=0 }).getD i ai=if i=b then { dW s b with aM:=0 } else dW s i:=fun i=>z_ _ _ _ _ _ hb
 have lZ:=h.mT k hk (by rw [h2]; rfl)
 refine ⟨hk,⟨Fp.asked,Fp.phase,Fp.inc,Fp.since,Fp.til,Fp.epoch⟩,⟨rfl,rfl,rfl,rfl,rfl,rfl⟩,⟨Int.le_refl _,Int.le_refl _⟩,by omega,by simp,fun i hi=>?_,fun _=>?_,fun h'=>?_,fun i hi=>?_,fun i q hi hq hne=>?_,fun i hi=>?_,fun i hi h0=>?_,fun h'=>by dsimp only at h'; omega⟩
 ·rw [hg i]; split
  ·rename_i e; subst e; exact ⟨rfl,rfl,rfl,rfl⟩
  ·exact ⟨rfl,rfl,rfl,rfl⟩
 ·obtain ⟨a,b',d,u,e,f⟩:=lZ
  refine ⟨l1,by dsimp only; omega,by dsimp only; omega,u,e,fun i hi hb'=>f i hi ?_⟩
  dsimp only at hb'
  rw [l4 i (by omega)] at hb'
  simp only [Bool.and_eq_true] at hb'
  exact hb'.1
 ·dsimp only at h'; rw [h2] at h'; cases h'
 ·rw [hg i]
  dsimp only
  rw [l4 i (by omega)]
  have:=h.link i k hi hk
  split
  ·rename_i e; subst e; simp; omega
  ·rename_i e; simp [e,this]
 ·rw [hg i]
  split
  ·rename_i e; subst e; dsimp only; omega
  ·rfl
 ·rw [hg i]
  have:=h.aM i hi
  split
  ·dsimp only; omega
  ·exact this
 ·rw [hg i] at h0
  split at h0
  ·exact absurd rfl h0
  ·refine ⟨h.up i hi h0,?_⟩
   cases hm:(dW s i).bw with
   | false=>rfl
   | true=>exact absurd (h.bw i hi hm).2.2 h0
end
end Dv
namespace Dv
theorem yg {n lo hi:Int} (h:¬ bJ n lo hi=false):lo≤n∧n≤hi:=aX (by simpa using h)
theorem Lq {c:aB} {s:aa} (h:bK c s):1≤fM s∧fM s≤9:=by
 unfold fM; split
 ·exact h.prior
 ·exact h.goal
theorem jF {c:aB} {s:aa} (h:bK c s) {i:Nat} (hi:i<s.nodes.length):(1≤(dW s i).version∧(dW s i).version≤9)∧(0≤(dW s i).aM∧(dW s i).aM≤s.jobs.length)∧((dW s i).bw=true→(dW s i).up=true∧(dW s i).cF=true∧(dW s i).aM=0)∧((dW s i).aM≠0→(dW s i).up=true):=
 ⟨h.M4 i hi,h.aM i hi,h.bw i hi,h.up i hi⟩
theorem Mm {c:aB} {s:aa} (h:bK c s) {o:bT} (ho:eP o=true) (hj:Hv o.kind=true→1≤o.a∧o.a≤s.jobs.length) (hn:zu o.kind=true→o.a<s.nodes.length):(bO c s o).2=0→Step c s (bO c s o).1:=by
 obtain ⟨hkk,hka,hkb⟩:=vH ho
 have hlj:=h.jobs
 have vm:=h.len
 have hk:o.kind=1∨o.kind=2∨o.kind=3∨o.kind=4∨o.kind=5∨o.kind=6∨o.kind=7∨o.kind=8∨o.kind=9∨o.kind=10∨o.kind=11∨o.kind=12∨o.kind=13∨o.kind=14∨o.kind=15∨o.kind=16∨o.kind=17∨o.kind=18∨o.kind=19∨o.kind=20∨o.kind=21:=by omega
 have J:Hv o.kind=true→∃ k:Nat,o.a=k+1∧(o.a-1).toNat=k∧k<s.jobs.length∧ej s o.a=dI s k∧wu c (dI s k):=fun hq=>by
  obtain ⟨k,a1,a2,a3,a4⟩:=OJ h (hj hq)
  exact ⟨k,a1,a2,a3,a4,h.num k a3⟩
 have N:zu o.kind=true→∃ i:Nat,o.a=i∧o.a.toNat=i∧i<s.nodes.length∧cO s o.a=dW s i:=fun hq=>Jp ⟨hka.1,hn hq⟩
 rcases hk with hk | hk | hk | hk | hk | hk | hk | hk | hk | hk | hk | hk | hk | hk | hk | hk | hk | hk | hk | hk | hk
 ·rw [show bO c s o=jR c s o by simp only [bO,hk,Int.reduceEq,if_true,if_false]]
  unfold jR
  split
  ·intro e; cases e
  split
  ·intro e; cases e
  rename_i ha h24
  intro _
  exact .more ⟨by omega,⟨by simpa using ha,by simp [mW],by simp [mW],by simp [mW],by simp [mW],by simp [mW]⟩,rfl,rfl⟩
 ·rw [show bO c s o=kL s o by simp only [bO,hk,Int.reduceEq,if_true,if_false]]
  obtain ⟨k,a1,a2,a3,a4,a5⟩:=J (by rw [hk]; rfl)
  unfold kL
  rw [a4]
  split
  ·intro e; cases e
  rename_i hp
  intro _
  rw [a1]
  exact oa h a3 (.inr rfl) hp
 ·rw [show bO c s o=kD s o by simp only [bO,hk,Int.reduceEq,if_true,if_false]]
  unfold kD
  split
  ·intro e; cases e
  rename_i hp
  intro _
  exact .num ⟨yg hp,Lq h,by decide,by have:=h.term; omega⟩
 ·rw [show bO c s o=gZ s (s.mode==0) 1 by simp only [bO,hk,Int.reduceEq,if_true,if_false]]
  unfold gZ
  split
  ·intro _; exact .num ⟨h.goal,h.prior,by decide,by have:=h.term; omega⟩
  ·intro e; cases e
 ·rw [show bO c s o=gZ s (s.mode==1) 0 by simp only [bO,hk,Int.reduceEq,if_true,if_false]]
  unfold gZ
  split
  ·intro _; exact .num ⟨h.goal,h.prior,by decide,by have:=h.term; omega⟩
  ·intro e; cases e
 ·rw [show bO c s o=gZ s (s.mode !=2) 2 by simp only [bO,hk,Int.reduceEq,if_true,if_false]]
  unfold gZ
  split
  ·intro _; exact .num ⟨h.goal,h.prior,by decide,by have:=h.term; omega⟩
  ·intro e; cases e
 ·rw [show bO c s o=sr s o by simp only [bO,hk,Int.reduceEq,if_true,if_false]]
  obtain ⟨i,b1,b2,b3,b4⟩:=N (by rw [hk]; rfl)
  obtain ⟨n1,n2,n3,n4⟩:=jF h b3
  unfold sr
  rw [b4]
  split
  ·intro e; cases e
  intro _
  dsimp only
  by_cases hz:(dW s i).aM=0
  ·rw [if_neg (by simp [hz]),b4]
   refine qQ b2 ⟨b3,n1,rfl,fun _=>rfl,fun e=>(by cases e),fun e=>absurd hz e⟩
  ·rw [if_pos hz]
   obtain ⟨k,hkj⟩:∃ k:Nat,(dW s i).aM=k+1:=⟨((dW s i).aM-1).toNat,by omega⟩
   have hkl:k<s.jobs.length:=by omega
   have abQ:=(h.link i k b3 hkl).2 hkj
   have hph:(dI s k).phase≠4:=fun e=>by
    have:=h.idle k hkl (by rw [e]; rfl)
    rw [this,qw] at abQ; cases abQ
   have hst:=tV h hkl (p:=0) (.inl rfl) hph
   have hr:=h.zH hst
   rw [hkj,yV]
   have hna:cO { s with nodes:=s.nodes.mapIdx (lets (k+1)),jobs:=s.jobs.set k { dI s k with phase:=0,nodes:=0,since:=0,til:=0 } } o.a=lets (k+1) i (dW s i):=by
    unfold cO; rw [b2]; exact mC _ _ _ _ b3
   have abA:dW { s with nodes:=s.nodes.mapIdx (lets (k+1)),jobs:=s.jobs.set k { dI s k with phase:=0,nodes:=0,since:=0,til:=0 } } i=lets (k+1) i (dW s i):=mC _ _ _ _ b3
   have ZD:lets (k+1) i (dW s i) = { dW s i with aM:=0 }:=by unfold lets; rw [if_pos hkj]
   rw [hna,ZD]
   unfold jY
   rw [b2]
   refine .both hst ⟨by simpa using b3,n1,by rw [abA,ZD],fun _=>by rw [abA,ZD],fun e=>(by cases e),fun e=>absurd rfl e⟩
 ·rw [show bO c s o=QI s o by simp only [bO,hk,Int.reduceEq,if_true,if_false]]
  obtain ⟨i,b1,b2,b3,b4⟩:=N (by rw [hk]; rfl)
  obtain ⟨n1,n2,n3,n4⟩:=jF h b3
  unfold QI
  rw [b4]
  split
  ·intro e; cases e
  split
  ·intro e; cases e
  rename_i hv hu
  intro _
  refine qQ b2 ⟨b3,yg hv,rfl,fun e=>absurd (n4 e) hu,fun e=>absurd (n3 e).1 hu,fun e=>rfl⟩
 ·rw [show bO c s o=oV s o by simp only [bO,hk,Int.reduceEq,if_true,if_false]]
  obtain ⟨k,a1,a2,a3,a4,a5⟩:=J (by rw [hk]; rfl)
  unfold oV
  rw [a4]
  split
  ·intro e; cases e
  split
  ·intro e; cases e
  rename_i hp hf
  intro _
  have hp:(dI s k).phase=0:=by simpa using hp
  have hst:=LO h a3 hp (b:=o.b) (by cases hq:mE s.nodes (dI s k) o.b lM with | true=>rfl | false=>exact absurd (.inl hq) hf) (by omega)
  unfold fU
  rw [a2,a1]
  exact .aM hst
 ·rw [show bO c s o=nW s o by simp only [bO,hk,Int.reduceEq,if_true,if_false]]
  obtain ⟨k,a1,a2,a3,a4,a5⟩:=J (by rw [hk]; rfl)
  unfold nW
  rw [a4]
  split
  ·intro e; cases e
  rename_i hp
  have hp:(dI s k).phase=1:=by simpa using hp
  intro _
  exact CL a2 (sZ h a3 _ ⟨a5.asked,by dsimp only; omega,a5.inc,hkb,a5.til,a5.epoch⟩ ⟨rfl,rfl,rfl,rfl,rfl,rfl⟩ ⟨Int.le_refl _,Int.le_refl _⟩ (by omega) rfl (by rw [hp]; rfl) (fun e=>by cases e))
 ·rw [show bO c s o=kC s o by simp only [bO,hk,Int.reduceEq,if_true,if_false]]
  obtain ⟨k,a1,a2,a3,a4,a5⟩:=J (by rw [hk]; rfl)
  unfold kC
  rw [a4]
  split
  ·intro e; cases e
  rename_i hp
  have hp:(dI s k).phase=1:=by simpa using hp
  intro _
  rw [a1]
  exact oa h a3 (.inl rfl) (by omega)
 ·rw [show bO c s o=mY c s o by simp only [bO,hk,Int.reduceEq,if_true,if_false]]
  obtain ⟨k,a1,a2,a3,a4,a5⟩:=J (by rw [hk]; rfl)
  unfold mY
  rw [a4]
  split
  ·intro e; cases e
  split
  ·intro e; cases e
  rename_i hp hq
  have hp:(dI s k).phase=2:=by simpa using hp
  intro _
  exact CL a2 (sZ h a3 _ ⟨a5.asked,by dsimp only; omega,a5.inc,a5.since,hkb,a5.epoch⟩ ⟨rfl,rfl,rfl,rfl,rfl,rfl⟩ ⟨Int.le_refl _,Int.le_refl _⟩ (by omega) rfl (by rw [hp]; rfl) (fun e=>.inr (by omega)))
 ·rw [show bO c s o=ki s o by simp only [bO,hk,Int.reduceEq,if_true,if_false]]
  obtain ⟨k,a1,a2,a3,a4,a5⟩:=J (by rw [hk]; rfl)
  unfold ki
  rw [a4]
  split
  ·intro e; cases e
  split
  ·intro e; cases e
  rename_i hp hq
  have hp:(dI s k).phase≠4:=fun e=>by unfold tQ at hp; rw [e] at hp; exact hp rfl
  intro _
  exact CL a2 (sZ h a3 _ ⟨a5.asked,a5.phase,a5.inc,a5.since,a5.til,by dsimp only; omega⟩ ⟨rfl,rfl,rfl,rfl,rfl,rfl⟩ ⟨Int.le_refl _,by dsimp only; omega⟩ hp rfl rfl (fun e=>.inl e))
 ·rw [show bO c s o=oE s o by simp only [bO,hk,Int.reduceEq,if_true,if_false]]
  obtain ⟨k,a1,a2,a3,a4,a5⟩:=J (by rw [hk]; rfl)
  unfold oE
  rw [a4]
  split
  ·intro e; cases e
  rename_i hp
  have hp:(dI s k).phase=3:=by simpa using hp
  intro _
  rw [a1]
  exact oa h a3 (.inl rfl) (by omega)
 ·rw [show bO c s o=uS s o by simp only [bO,hk,Int.reduceEq,if_true,if_false]]
  obtain ⟨k,a1,a2,a3,a4,a5⟩:=J (by rw [hk]; rfl)
  unfold uS
  rw [a4]
  split
  ·intro e; cases e
  rename_i hp
  have hp:(dI s k).phase≠4:=fun e=>by unfold tQ at hp; rw [e] at hp; exact hp rfl
  intro _
  rw [a1]
  exact oa h a3 (.inr rfl) hp
 ·rw [show bO c s o=mH s o by simp only [bO,hk,Int.reduceEq,if_true,if_false]]
  obtain ⟨i,b1,b2,b3,b4⟩:=N (by rw [hk]; rfl)
  obtain ⟨n1,n2,n3,n4⟩:=jF h b3
  unfold mH
  rw [b4]
  split
  ·intro e; cases e
  intro _
  refine qQ b2 ⟨b3,n1,rfl,fun _=>rfl,fun e=>⟨(n3 e).1,rfl,(n3 e).2.2⟩,n4⟩
 ·rw [show bO c s o=iJ s o by simp only [bO,hk,Int.reduceEq,if_true,if_false]]
  obtain ⟨i,b1,b2,b3,b4⟩:=N (by rw [hk]; rfl)
  obtain ⟨n1,n2,n3,n4⟩:=jF h b3
  unfold iJ
  rw [b4]
  split
  ·intro e; cases e
  rename_i hq
  intro _
  refine qQ b2 ⟨b3,n1,rfl,fun _=>rfl,fun e=>absurd (.inr e) hq,n4⟩
 ·rw [show bO c s o=wM s o by simp only [bO,hk,Int.reduceEq,if_true,if_false]]
  obtain ⟨i,b1,b2,b3,b4⟩:=N (by rw [hk]; rfl)
  obtain ⟨n1,n2,n3,n4⟩:=jF h b3
  unfold wM
  rw [b4]
  split
  ·intro e; cases e
  rename_i hq
  intro _
  have HK:(dW s i).up=true∧(dW s i).cF=true∧(dW s i).aM=0:=by
   simp only [not_or,Bool.not_eq_false,Bool.not_eq_true,Decidable.not_not] at hq
   exact ⟨hq.1,hq.2.1,hq.2.2.2⟩
  refine qQ b2 ⟨b3,n1,rfl,fun _=>rfl,fun e=>HK,n4⟩
 ·rw [show bO c s o=mX s o by simp only [bO,hk,Int.reduceEq,if_true,if_false]]
  obtain ⟨i,b1,b2,b3,b4⟩:=N (by rw [hk]; rfl)
  obtain ⟨n1,n2,n3,n4⟩:=jF h b3
  unfold mX
  rw [b4]
  split
  ·intro e; cases e
  split
  ·intro e; cases e
  rename_i hv hm
  intro _
  have hm:(dW s i).bw=true:=by simpa using hm
  refine qQ b2 ⟨b3,yg hv,rfl,fun e=>absurd (n3 hm).2.2 e,fun e=>(by cases e),n4⟩
 ·rw [show bO c s o=gF s o by simp only [bO,hk,Int.reduceEq,if_true,if_false]]
  obtain ⟨k,a1,a2,a3,a4,a5⟩:=J (by rw [hk]; rfl)
  unfold gF
  split
  ·intro e; cases e
  rename_i AQ
  obtain ⟨b,b1,b2,b3,b4⟩:=Jp (s:=s) (a:=o.b) (by omega)
  rw [a4,b4]
  split
  ·intro e; cases e
  split
  ·intro e; cases e
  rename_i hp hq
  have hp:(dI s k).phase=2:=by simpa using hp
  simp only [not_or,Decidable.not_not] at hq
  intro _
  have hst:=Ei h a3 b3 hp (by omega) (by omega)
  unfold jY fU
  rw [a2,b1]
  exact .aM hst
 ·rw [show bO c s o=ij s by simp only [bO,hk,Int.reduceEq,if_true,if_false]]
  unfold ij
  split
  ·intro e; cases e
  intro _
  exact .num ⟨h.goal,h.prior,h.mode,by have:=h.term; omega⟩
theorem IN {c:aB} {s:aa} (h:bK c s) (o:bT):((bx c s o).2=0→Step c s (bx c s o).1)∧((bx c s o).2≠0→(bx c s o).1=s):=by
 have hr:=(fq c s).2 h
 unfold bx
 rw [if_neg (by simp [hr])]
 unfold AI
 split
 ·exact ⟨fun e=>by (cases e),fun _=>rfl⟩
 split
 ·exact ⟨fun e=>by (cases e),fun _=>rfl⟩
 split
 ·exact ⟨fun e=>by (cases e),fun _=>rfl⟩
 rename_i h1 h2 h3
 exact ⟨Mm h (by simpa using h1) (fun e=>by by_cases hq:o.a<1∨(s.jobs.length:Int)<o.a; exact absurd ⟨e,hq⟩ h2; omega) (fun e=>by by_cases hq:(s.nodes.length:Int)≤o.a; exact absurd ⟨e,hq⟩ h3; omega),FP c s o⟩
theorem xq {c:aB} {s:aa} (h:bK c s) (o:bT):bK c (bx c s o).1:=by
 have:=IN h o
 by_cases e:(bx c s o).2=0
 ·exact (this.1 e).right h
 ·rw [this.2 e]; exact h
end Dv
