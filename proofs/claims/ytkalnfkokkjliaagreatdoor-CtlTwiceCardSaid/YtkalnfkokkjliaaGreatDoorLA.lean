/- part -/
import Derived.Test.YtkalnfkokkjliaaGreatDoorDD
set_option linter.all false
namespace Dv
theorem Ph {c:aC} {s:aa} (h:bR c s) {a:Int} (ha:1≤a∧a≤s.jobs.length):∃ k:Nat,a=k+1∧(a-1).toNat=k∧k<s.jobs.length∧eA s a=dK s k:=
 ⟨(a-1).toNat,by omega,rfl,by omega,rfl⟩
theorem JY {s:aa} {a:Int} (ha:0≤a∧a<s.nodes.length):∃ i:Nat,a=i∧a.toNat=i∧i<s.nodes.length∧cZ s a=dR s i:=
 ⟨a.toNat,by omega,rfl,by omega,rfl⟩
theorem KN {c:aC} {s:aa} (h:bR c s) {k:Nat} (hk:k<s.jobs.length):0≤(dK s k).nodes∧(dK s k).nodes<64:=(uh ((ez c s).2 h)).bits hk
end Dv
namespace Dv
theorem zh {s:aa} {k:Nat} (p:Int):eo s ((k:Int)+1) p = { s with nodes:=s.nodes.mapIdx (lets (k+1)),jobs:=s.jobs.set k { dK s k with phase:=p,nodes:=0,since:=0,til:=0 } }:=by
 have:((k:Int)+1-1).toNat=k:=by omega
 unfold eo eA dK
 rw [this]
theorem Dn {c:aC} {s:aa} {a:Int} {k:Nat} (ha:(a-1).toNat=k) {j':bP} (q:mZ c s k j' s.nodes):Step c s (gm s a j'):=by
 unfold gm
 rw [ha]
 exact .aQ q
theorem rE {c:aC} {s:aa} {a:Int} {i:Nat} (ha:a.toNat=i) {n':bp} (q:vp s i n'):Step c s (j8 s a n'):=by
 unfold j8
 rw [ha]
 exact .node q
theorem H6 (m b:Int) (hm:0≤m∧m<64) (hb:0≤b∧b<6) (hh:hasB m b.toNat=true):0≤mN m b∧many (mN m b)=many m-1∧mN m b≤m∧∀ i:Nat,i<6→hasB (mN m b) i=(hasB m i&&decide (i≠b.toNat)):=by
 obtain ⟨m,rfl⟩:=Int.eq_ofNat_of_zero_le hm.1
 obtain ⟨b,rfl⟩:=Int.eq_ofNat_of_zero_le hb.1
 have:∀ m:Nat,m<64→∀ b:Nat,b<6→hasB (m:Int) b=true→0≤mN (m:Int) b∧many (mN (m:Int) b)=many m-1∧mN (m:Int) b≤m∧∀ i:Nat,i<6→hasB (mN (m:Int) b) i=(hasB (m:Int) i&&decide (i≠b)):=by decide +kernel
 exact this m (by omega) b (by omega) hh
section
variable {c:aC} {s:aa} (h:bR c s)
include h
theorem tv {k:Nat} (hk:k<s.jobs.length) (j':bP) (num:wM c j') (fixed:j'.queue=(dK s k).queue∧j'.prio=(dK s k).prio∧j'.min=(dK s k).min∧j'.max=(dK s k).max∧j'.work=(dK s k).work∧j'.pin=(dK s k).pin)
  (grow:(dK s k).inc≤j'.inc∧(dK s k).epoch≤j'.epoch) (ended:(dK s k).phase≠4) (hn:j'.nodes=(dK s k).nodes) (hp:eM j'.phase=eM (dK s k).phase)
  (hq:j'.phase=3→(dK s k).phase=3∨cQ s.jobs (dK s k).queue<c.cB):mZ c s k j' s.nodes:=by
 refine ⟨hk,num,fixed,grow,ended,rfl,fun i hi=>⟨rfl,rfl,rfl,rfl⟩,fun lZ=>?_,fun lZ=>?_,fun i hi=>?_,fun i q hi hq hne=>Iff.rfl,h.aQ,fun i hi h0=>⟨h.up i hi h0,?_⟩,hq⟩
 ·rw [hp] at lZ
  obtain ⟨a,b,d,u,e,f⟩:=h.nq k hk lZ
  obtain ⟨f1,f2,f3,f4,f5,f6⟩:=fixed
  refine ⟨by rw [hn]; exact a,by rw [hn]; exact b,by rw [hn,f3,f4]; exact d,u,by rw [f6]; exact e,by rw [hn]; exact f⟩
 ·rw [hp] at lZ; rw [hn]; exact h.idle k hk lZ
 ·rw [hn]; exact h.link i k hi hk
 ·cases hm:(dR s i).bC with
  | false=>rfl
  | true=>exact absurd (h.bC i hi hm).2.2 h0
theorem uj {k:Nat} (hk:k<s.jobs.length) {p:Int} (hp:p=0∨p=4) (ended:(dK s k).phase≠4) :
  mZ c s k { dK s k with phase:=p,nodes:=0,since:=0,til:=0 } (s.nodes.mapIdx (lets (k+1))):=by
 have hj:=h.num k hk
 have hg:∀ i,i<s.nodes.length→(s.nodes.mapIdx (lets (k+1))).getD i ai=lets (k+1) i (dR s i):=fun i hi=>mO _ _ _ _ hi
 have lZ:eM p=false:=by rcases hp with rfl | rfl <;> rfl
 refine ⟨hk,⟨hj.asked,by dsimp only; omega,hj.inc,by dsimp only; omega,by dsimp only; omega,hj.epoch⟩,⟨rfl,rfl,rfl,rfl,rfl,rfl⟩,⟨Int.le_refl _,Int.le_refl _⟩,ended,by simp,fun i hi=>?_,fun h'=>?_,fun _=>rfl,fun i hi=>?_,fun i q hi hq hne=>?_,fun i hi=>?_,fun i hi h0=>?_,fun h'=>?_⟩
 ·rw [hg i hi]; unfold lets; split <;> exact ⟨rfl,rfl,rfl,rfl⟩
 ·dsimp only at h'; rw [lZ] at h'; cases h'
 ·dsimp only
  rw [hg i hi,qR]
  unfold lets
  split
  ·simp; omega
  ·rename_i hne; simp [hne]
 ·rw [hg i hi]
  unfold lets
  split
  ·rename_i he
   dsimp only
   omega
  ·rfl
 ·rw [hg i hi]
  have:=h.aQ i hi
  unfold lets
  split
  ·dsimp only; omega
  ·exact this
 ·rw [hg i hi] at h0
  unfold lets at h0
  split at h0
  ·exact absurd rfl h0
  ·refine ⟨h.up i hi h0,?_⟩
   cases hm:(dR s i).bC with
   | false=>rfl
   | true=>exact absurd (h.bC i hi hm).2.2 h0
 ·dsimp only at h'; omega
theorem oC {k:Nat} (hk:k<s.jobs.length) {p:Int} (hp:p=0∨p=4) (ended:(dK s k).phase≠4):Step c s (eo s ((k:Int)+1) p):=by
 rw [zh]
 exact .aQ (uj h hk hp ended)
theorem Mp {k:Nat} (hk:k<s.jobs.length) {b:Int} (h0:(dK s k).phase=0) (hf:mQ s.nodes (dK s k) b me=true) (hi:(dK s k).inc<1000000) :
  mZ c s k { dK s k with phase:=1,inc:=(dK s k).inc+1,nodes:=b } (s.nodes.mapIdx (gH b (k+1))):=by
 have hj:=h.num k hk
 have hv:∀ k,k<s.nodes.length→1≤(s.nodes.getD k ai).version:=fun k hk=>(h.ND k hk).1
 obtain ⟨f1,f2,u,f3,f4⟩:=(CI _ _ _ _ hv).1 hf
 have hg:∀ i,i<s.nodes.length→(s.nodes.mapIdx (gH b (k+1))).getD i ai=gH b (k+1) i (dR s i):=fun i hi=>mO _ _ _ _ hi
 have hfree:∀ i,i<s.nodes.length→hasB b i=true→(dR s i).up=true∧(dR s i).bC=false∧(dR s i).aQ=0:=fun i hi hb=>by
  have:=(f4 i hi hb).1
  unfold me at this
  simp only [Bool.and_eq_true,decide_eq_true_eq,Bool.not_eq_true'] at this
  exact ⟨this.1.1.1,this.1.2,this.2⟩
 have hno:(dK s k).nodes=0:=h.idle k hk (by rw [h0]; rfl)
 have hnk:∀ i,i<s.nodes.length→(dR s i).aQ≠k+1:=fun i hi he=>by
  have:=(h.link i k hi hk).2 he
  rw [hno,qR] at this; cases this
 refine ⟨hk,⟨hj.asked,by dsimp only; omega,by have:=hj.inc; dsimp only; omega,hj.since,hj.til,by have:=hj.epoch; dsimp only; omega⟩,⟨rfl,rfl,rfl,rfl,rfl,rfl⟩,⟨by dsimp only; omega,Int.le_refl _⟩,by omega,by simp,fun i hi=>?_,fun _=>⟨f1.1,f1.2,f2,u,f3,fun i hi hb=>(f4 i hi hb).2⟩,fun h'=>by simp [eM] at h',fun i hi=>?_,fun i q hi hq hne=>?_,fun i hi=>?_,fun i hi h0=>?_,fun h'=>by dsimp only at h'; omega⟩
 ·rw [hg i hi]; unfold gH; split <;> exact ⟨rfl,rfl,rfl,rfl⟩
 ·rw [hg i hi]
  have:=hnk i hi
  unfold gH
  dsimp only
  split
  ·rename_i hb; simp [hb]
  ·rename_i hb; simp [hb,this]
 ·rw [hg i hi]
  unfold gH
  split
  ·rename_i hb
   have:=(hfree i hi hb).2.2
   dsimp only
   omega
  ·rfl
 ·rw [hg i hi]
  have:=h.aQ i hi
  unfold gH
  split
  ·dsimp only; omega
  ·exact this
 ·rw [hg i hi] at h0
  unfold gH at h0
  split at h0
  ·rename_i hb
   have:=hfree i hi hb
   exact ⟨this.1,this.2.1⟩
  ·refine ⟨h.up i hi h0,?_⟩
   cases hm:(dR s i).bC with
   | false=>rfl
   | true=>exact absurd (h.bC i hi hm).2.2 h0
theorem ES {k b:Nat} (hk:k<s.jobs.length) (hb:b<s.nodes.length) (h2:(dK s k).phase=2) (hj:(dR s b).aQ=k+1) (hm:(dK s k).min<many (dK s k).nodes) :
  mZ c s k { dK s k with nodes:=mN (dK s k).nodes b } (s.nodes.set b { dR s b with aQ:=0 }):=by
 have F0:=h.num k hk
 have sE:=h.len
 have Ky:=KN h hk
 have hh:=(h.link b k hb hk).2 hj
 obtain ⟨l1,l2,l3,l4⟩:=H6 (dK s k).nodes b Ky (by omega) hh
 have hg:∀ i,(s.nodes.set b { dR s b with aQ:=0 }).getD i ai=if i=b then { dR s b with aQ:=0 } else dR s i:=fun i=>An _ _ _ _ _ hb
 have lZ:=h.nq k hk (by rw [h2]; rfl)
 refine ⟨hk,⟨F0.asked,F0.phase,F0.inc,F0.since,F0.til,F0.epoch⟩,⟨rfl,rfl,rfl,rfl,rfl,rfl⟩,⟨Int.le_refl _,Int.le_refl _⟩,by omega,by simp,fun i hi=>?_,fun _=>?_,fun h'=>?_,fun i hi=>?_,fun i q hi hq hne=>?_,fun i hi=>?_,fun i hi h0=>?_,fun h'=>by dsimp only at h'; omega⟩
 ·rw [hg i]; split
  ·rename_i e; subst e; exact ⟨rfl,rfl,rfl,rfl⟩
  ·exact ⟨rfl,rfl,rfl,rfl⟩
 ·obtain ⟨a,b',d,u,e,f⟩:=lZ
  refine ⟨l1,by dsimp only; omega,by dsimp only; omega,u,e,fun i hi hb'=>f i hi ?_⟩
  dsimp only at hb'
  rw [l4 i (by omega)] at hb'
  simp only [Bool.and_eq_true] at hb'
  exact hb'.1
 ·dsimp only at h'; rw [h2] at h'; cases h'
 ·rw [hg i]
  dsimp only
  rw [l4 i (by omega)]
  have:=h.link i k hi hk
  split
  ·rename_i e; subst e; simp; omega
  ·rename_i e; simp [e,this]
 ·rw [hg i]
  split
  ·rename_i e; subst e; dsimp only; omega
  ·rfl
 ·rw [hg i]
  have:=h.aQ i hi
  split
  ·dsimp only; omega
  ·exact this
 ·rw [hg i] at h0
  split at h0
  ·exact absurd rfl h0
  ·refine ⟨h.up i hi h0,?_⟩
   cases hm:(dR s i).bC with
   | false=>rfl
   | true=>exact absurd (h.bC i hi hm).2.2 h0
end
end Dv
namespace Dv
theorem yF {n lo hi:Int} (h:¬ bK n lo hi=false):lo≤n∧n≤hi:=bh (by simpa using h)
theorem LX {c:aC} {s:aa} (h:bR c s):1≤fZ s∧fZ s≤9:=by
 unfold fZ; split
 ·exact h.prior
 ·exact h.goal
theorem jL {c:aC} {s:aa} (h:bR c s) {i:Nat} (hi:i<s.nodes.length):(1≤(dR s i).version∧(dR s i).version≤9)∧(0≤(dR s i).aQ∧(dR s i).aQ≤s.jobs.length)∧((dR s i).bC=true→(dR s i).up=true∧(dR s i).cL=true∧(dR s i).aQ=0)∧((dR s i).aQ≠0→(dR s i).up=true):=
 ⟨h.ND i hi,h.aQ i hi,h.bC i hi,h.up i hi⟩
theorem MU {c:aC} {s:aa} (h:bR c s) {o:cA} (ho:eY o=true) (hj:Ib o.kind=true→1≤o.a∧o.a≤s.jobs.length) (hn:zL o.kind=true→o.a<s.nodes.length):(bS c s o).2=0→Step c s (bS c s o).1:=by
 obtain ⟨hkk,hka,hkb⟩:=vR ho
 have hlj:=h.jobs
 have sE:=h.len
 have hk:o.kind=1∨o.kind=2∨o.kind=3∨o.kind=4∨o.kind=5∨o.kind=6∨o.kind=7∨o.kind=8∨o.kind=9∨o.kind=10∨o.kind=11∨o.kind=12∨o.kind=13∨o.kind=14∨o.kind=15∨o.kind=16∨o.kind=17∨o.kind=18∨o.kind=19∨o.kind=20∨o.kind=21:=by omega
 have J:Ib o.kind=true→∃ k:Nat,o.a=k+1∧(o.a-1).toNat=k∧k<s.jobs.length∧eA s o.a=dK s k∧wM c (dK s k):=fun hq=>by
  obtain ⟨k,a1,a2,a3,a4⟩:=Ph h (hj hq)
  exact ⟨k,a1,a2,a3,a4,h.num k a3⟩
 have N:zL o.kind=true→∃ i:Nat,o.a=i∧o.a.toNat=i∧i<s.nodes.length∧cZ s o.a=dR s i:=fun hq=>JY ⟨hka.1,hn hq⟩
 rcases hk with hk | hk | hk | hk | hk | hk | hk | hk | hk | hk | hk | hk | hk | hk | hk | hk | hk | hk | hk | hk | hk
 ·rw [show bS c s o=jV c s o by simp only [bS,hk,Int.reduceEq,if_true,if_false]]
  unfold jV
  split
  ·intro e; cases e
  split
  ·intro e; cases e
  rename_i ha h24
  intro _
  exact .more ⟨by omega,⟨by simpa using ha,by simp [nB],by simp [nB],by simp [nB],by simp [nB],by simp [nB]⟩,rfl,rfl⟩
 ·rw [show bS c s o=kX s o by simp only [bS,hk,Int.reduceEq,if_true,if_false]]
  obtain ⟨k,a1,a2,a3,a4,a5⟩:=J (by rw [hk]; rfl)
  unfold kX
  rw [a4]
  split
  ·intro e; cases e
  rename_i hp
  intro _
  rw [a1]
  exact oC h a3 (.inr rfl) hp
 ·rw [show bS c s o=kQ s o by simp only [bS,hk,Int.reduceEq,if_true,if_false]]
  unfold kQ
  split
  ·intro e; cases e
  rename_i hp
  intro _
  exact .num ⟨yF hp,LX h,by decide,by have:=h.term; omega⟩
 ·rw [show bS c s o=iy s (s.mode==0) 1 by simp only [bS,hk,Int.reduceEq,if_true,if_false]]
  unfold iy
  split
  ·intro _; exact .num ⟨h.goal,h.prior,by decide,by have:=h.term; omega⟩
  ·intro e; cases e
 ·rw [show bS c s o=iy s (s.mode==1) 0 by simp only [bS,hk,Int.reduceEq,if_true,if_false]]
  unfold iy
  split
  ·intro _; exact .num ⟨h.goal,h.prior,by decide,by have:=h.term; omega⟩
  ·intro e; cases e
 ·rw [show bS c s o=iy s (s.mode !=2) 2 by simp only [bS,hk,Int.reduceEq,if_true,if_false]]
  unfold iy
  split
  ·intro _; exact .num ⟨h.goal,h.prior,by decide,by have:=h.term; omega⟩
  ·intro e; cases e
 ·rw [show bS c s o=sK s o by simp only [bS,hk,Int.reduceEq,if_true,if_false]]
  obtain ⟨i,b1,b2,b3,b4⟩:=N (by rw [hk]; rfl)
  obtain ⟨n1,n2,n3,n4⟩:=jL h b3
  unfold sK
  rw [b4]
  split
  ·intro e; cases e
  intro _
  dsimp only
  by_cases hz:(dR s i).aQ=0
  ·rw [if_neg (by simp [hz]),b4]
   refine rE b2 ⟨b3,n1,rfl,fun _=>rfl,fun e=>(by cases e),fun e=>absurd hz e⟩
  ·rw [if_pos hz]
   obtain ⟨k,hkj⟩:∃ k:Nat,(dR s i).aQ=k+1:=⟨((dR s i).aQ-1).toNat,by omega⟩
   have hkl:k<s.jobs.length:=by omega
   have acd:=(h.link i k b3 hkl).2 hkj
   have hph:(dK s k).phase≠4:=fun e=>by
    have:=h.idle k hkl (by rw [e]; rfl)
    rw [this,qR] at acd; cases acd
   have hst:=uj h hkl (p:=0) (.inl rfl) hph
   have hr:=h.zW hst
   rw [hkj,zh]
   have hna:cZ { s with nodes:=s.nodes.mapIdx (lets (k+1)),jobs:=s.jobs.set k { dK s k with phase:=0,nodes:=0,since:=0,til:=0 } } o.a=lets (k+1) i (dR s i):=by
    unfold cZ; rw [b2]; exact mO _ _ _ _ b3
   have abT:dR { s with nodes:=s.nodes.mapIdx (lets (k+1)),jobs:=s.jobs.set k { dK s k with phase:=0,nodes:=0,since:=0,til:=0 } } i=lets (k+1) i (dR s i):=mO _ _ _ _ b3
   have Z_:lets (k+1) i (dR s i) = { dR s i with aQ:=0 }:=by unfold lets; rw [if_pos hkj]
   rw [hna,Z_]
   unfold j8
   rw [b2]
   refine .both hst ⟨by simpa using b3,n1,by rw [abT,Z_],fun _=>by rw [abT,Z_],fun e=>(by cases e),fun e=>absurd rfl e⟩
 ·rw [show bS c s o=Rr s o by simp only [bS,hk,Int.reduceEq,if_true,if_false]]
  obtain ⟨i,b1,b2,b3,b4⟩:=N (by rw [hk]; rfl)
  obtain ⟨n1,n2,n3,n4⟩:=jL h b3
  unfold Rr
  rw [b4]
  split
  ·intro e; cases e
  split
  ·intro e; cases e
  rename_i hv hu
  intro _
  refine rE b2 ⟨b3,yF hv,rfl,fun e=>absurd (n4 e) hu,fun e=>absurd (n3 e).1 hu,fun e=>rfl⟩
 ·rw [show bS c s o=pM s o by simp only [bS,hk,Int.reduceEq,if_true,if_false]]
  obtain ⟨k,a1,a2,a3,a4,a5⟩:=J (by rw [hk]; rfl)
  unfold pM
  rw [a4]
  split
  ·intro e; cases e
  split
  ·intro e; cases e
  rename_i hp hf
  intro _
  have hp:(dK s k).phase=0:=by simpa using hp
  have hst:=Mp h a3 hp (b:=o.b) (by cases hq:mQ s.nodes (dK s k) o.b me with | true=>rfl | false=>exact absurd (.inl hq) hf) (by omega)
  unfold gm
  rw [a2,a1]
  exact .aQ hst
 ·rw [show bS c s o=oz s o by simp only [bS,hk,Int.reduceEq,if_true,if_false]]
  obtain ⟨k,a1,a2,a3,a4,a5⟩:=J (by rw [hk]; rfl)
  unfold oz
  rw [a4]
  split
  ·intro e; cases e
  rename_i hp
  have hp:(dK s k).phase=1:=by simpa using hp
  intro _
  exact Dn a2 (tv h a3 _ ⟨a5.asked,by dsimp only; omega,a5.inc,hkb,a5.til,a5.epoch⟩ ⟨rfl,rfl,rfl,rfl,rfl,rfl⟩ ⟨Int.le_refl _,Int.le_refl _⟩ (by omega) rfl (by rw [hp]; rfl) (fun e=>by cases e))
 ·rw [show bS c s o=kP s o by simp only [bS,hk,Int.reduceEq,if_true,if_false]]
  obtain ⟨k,a1,a2,a3,a4,a5⟩:=J (by rw [hk]; rfl)
  unfold kP
  rw [a4]
  split
  ·intro e; cases e
  rename_i hp
  have hp:(dK s k).phase=1:=by simpa using hp
  intro _
  rw [a1]
  exact oC h a3 (.inl rfl) (by omega)
 ·rw [show bS c s o=nG c s o by simp only [bS,hk,Int.reduceEq,if_true,if_false]]
  obtain ⟨k,a1,a2,a3,a4,a5⟩:=J (by rw [hk]; rfl)
  unfold nG
  rw [a4]
  split
  ·intro e; cases e
  split
  ·intro e; cases e
  rename_i hp hq
  have hp:(dK s k).phase=2:=by simpa using hp
  intro _
  exact Dn a2 (tv h a3 _ ⟨a5.asked,by dsimp only; omega,a5.inc,a5.since,hkb,a5.epoch⟩ ⟨rfl,rfl,rfl,rfl,rfl,rfl⟩ ⟨Int.le_refl _,Int.le_refl _⟩ (by omega) rfl (by rw [hp]; rfl) (fun e=>.inr (by omega)))
 ·rw [show bS c s o=ku s o by simp only [bS,hk,Int.reduceEq,if_true,if_false]]
  obtain ⟨k,a1,a2,a3,a4,a5⟩:=J (by rw [hk]; rfl)
  unfold ku
  rw [a4]
  split
  ·intro e; cases e
  split
  ·intro e; cases e
  rename_i hp hq
  have hp:(dK s k).phase≠4:=fun e=>by unfold ue at hp; rw [e] at hp; exact hp rfl
  intro _
  exact Dn a2 (tv h a3 _ ⟨a5.asked,a5.phase,a5.inc,a5.since,a5.til,by dsimp only; omega⟩ ⟨rfl,rfl,rfl,rfl,rfl,rfl⟩ ⟨Int.le_refl _,by dsimp only; omega⟩ hp rfl rfl (fun e=>.inl e))
 ·rw [show bS c s o=oV s o by simp only [bS,hk,Int.reduceEq,if_true,if_false]]
  obtain ⟨k,a1,a2,a3,a4,a5⟩:=J (by rw [hk]; rfl)
  unfold oV
  rw [a4]
  split
  ·intro e; cases e
  rename_i hp
  have hp:(dK s k).phase=3:=by simpa using hp
  intro _
  rw [a1]
  exact oC h a3 (.inl rfl) (by omega)
 ·rw [show bS c s o=u7 s o by simp only [bS,hk,Int.reduceEq,if_true,if_false]]
  obtain ⟨k,a1,a2,a3,a4,a5⟩:=J (by rw [hk]; rfl)
  unfold u7
  rw [a4]
  split
  ·intro e; cases e
  rename_i hp
  have hp:(dK s k).phase≠4:=fun e=>by unfold ue at hp; rw [e] at hp; exact hp rfl
  intro _
  rw [a1]
  exact oC h a3 (.inr rfl) hp
 ·rw [show bS c s o=mT s o by simp only [bS,hk,Int.reduceEq,if_true,if_false]]
  obtain ⟨i,b1,b2,b3,b4⟩:=N (by rw [hk]; rfl)
  obtain ⟨n1,n2,n3,n4⟩:=jL h b3
  unfold mT
  rw [b4]
  split
  ·intro e; cases e
  intro _
  refine rE b2 ⟨b3,n1,rfl,fun _=>rfl,fun e=>⟨(n3 e).1,rfl,(n3 e).2.2⟩,n4⟩
 ·rw [show bS c s o=iR s o by simp only [bS,hk,Int.reduceEq,if_true,if_false]]
  obtain ⟨i,b1,b2,b3,b4⟩:=N (by rw [hk]; rfl)
  obtain ⟨n1,n2,n3,n4⟩:=jL h b3
  unfold iR
  rw [b4]
  split
  ·intro e; cases e
  rename_i hq
  intro _
  refine rE b2 ⟨b3,n1,rfl,fun _=>rfl,fun e=>absurd (.inr e) hq,n4⟩
 ·rw [show bS c s o=xl s o by simp only [bS,hk,Int.reduceEq,if_true,if_false]]
  obtain ⟨i,b1,b2,b3,b4⟩:=N (by rw [hk]; rfl)
  obtain ⟨n1,n2,n3,n4⟩:=jL h b3
  unfold xl
  rw [b4]
  split
  ·intro e; cases e
  rename_i hq
  intro _
  have Ir:(dR s i).up=true∧(dR s i).cL=true∧(dR s i).aQ=0:=by
   simp only [not_or,Bool.not_eq_false,Bool.not_eq_true,Decidable.not_not] at hq
   exact ⟨hq.1,hq.2.1,hq.2.2.2⟩
  refine rE b2 ⟨b3,n1,rfl,fun _=>rfl,fun e=>Ir,n4⟩
 ·rw [show bS c s o=nC s o by simp only [bS,hk,Int.reduceEq,if_true,if_false]]
  obtain ⟨i,b1,b2,b3,b4⟩:=N (by rw [hk]; rfl)
  obtain ⟨n1,n2,n3,n4⟩:=jL h b3
  unfold nC
  rw [b4]
  split
  ·intro e; cases e
  split
  ·intro e; cases e
  rename_i hv hm
  intro _
  have hm:(dR s i).bC=true:=by simpa using hm
  refine rE b2 ⟨b3,yF hv,rfl,fun e=>absurd (n3 hm).2.2 e,fun e=>(by cases e),n4⟩
 ·rw [show bS c s o=gP s o by simp only [bS,hk,Int.reduceEq,if_true,if_false]]
  obtain ⟨k,a1,a2,a3,a4,a5⟩:=J (by rw [hk]; rfl)
  unfold gP
  split
  ·intro e; cases e
  rename_i yB
  obtain ⟨b,b1,b2,b3,b4⟩:=JY (s:=s) (a:=o.b) (by omega)
  rw [a4,b4]
  split
  ·intro e; cases e
  split
  ·intro e; cases e
  rename_i hp hq
  have hp:(dK s k).phase=2:=by simpa using hp
  simp only [not_or,Decidable.not_not] at hq
  intro _
  have hst:=ES h a3 b3 hp (by omega) (by omega)
  unfold j8 gm
  rw [a2,b1]
  exact .aQ hst
 ·rw [show bS c s o=eu s by simp only [bS,hk,Int.reduceEq,if_true,if_false]]
  unfold eu
  split
  ·intro e; cases e
  intro _
  exact .num ⟨h.goal,h.prior,h.mode,by have:=h.term; omega⟩
theorem Jw {c:aC} {s:aa} (h:bR c s) (o:cA):((bE c s o).2=0→Step c s (bE c s o).1)∧((bE c s o).2≠0→(bE c s o).1=s):=by
 have hr:=(ez c s).2 h
 unfold bE
 rw [if_neg (by simp [hr])]
 unfold AV
 split
 ·exact ⟨fun e=>by (cases e),fun _=>rfl⟩
 split
 ·exact ⟨fun e=>by (cases e),fun _=>rfl⟩
 split
 ·exact ⟨fun e=>by (cases e),fun _=>rfl⟩
 rename_i h1 h2 h3
 exact ⟨MU h (by simpa using h1) (fun e=>by by_cases hq:o.a<1∨(s.jobs.length:Int)<o.a; exact absurd ⟨e,hq⟩ h2; omega) (fun e=>by by_cases hq:(s.nodes.length:Int)≤o.a; exact absurd ⟨e,hq⟩ h3; omega),Gr c s o⟩
theorem xK {c:aC} {s:aa} (h:bR c s) (o:cA):bR c (bE c s o).1:=by
 have:=Jw h o
 by_cases e:(bE c s o).2=0
 ·exact (this.1 e).right h
 ·rw [this.2 e]; exact h
end Dv
