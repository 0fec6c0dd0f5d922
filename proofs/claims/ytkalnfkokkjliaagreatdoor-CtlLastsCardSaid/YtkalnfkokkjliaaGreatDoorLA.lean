/- part -/
import Derived.Test.YtkalnfkokkjliaaGreatDoorDD
set_option linter.all false
namespace Dv
theorem PC {c:aF} {s:aa} (h:bU c s) {a:Int} (ha:1≤a∧a≤s.jobs.length):∃ k:Nat,a=k+1∧(a-1).toNat=k∧k<s.jobs.length∧eC s a=dR s k:=
 ⟨(a-1).toNat,by omega,rfl,by omega,rfl⟩
theorem Kk {s:aa} {a:Int} (ha:0≤a∧a<s.nodes.length):∃ i:Nat,a=i∧a.toNat=i∧i<s.nodes.length∧dh s a=ec s i:=
 ⟨a.toNat,by omega,rfl,by omega,rfl⟩
theorem K9 {c:aF} {s:aa} (h:bU c s) {k:Nat} (hk:k<s.jobs.length):0≤(dR s k).nodes∧(dR s k).nodes<64:=(uB ((d_ c s).2 h)).bits hk
end Dv
namespace Dv
theorem zJ {s:aa} {k:Nat} (p:Int):eu s ((k:Int)+1) p = { s with nodes:=s.nodes.mapIdx (lets (k+1)),jobs:=s.jobs.set k { dR s k with phase:=p,nodes:=0,since:=0,til:=0 } }:=by
 have:((k:Int)+1-1).toNat=k:=by omega
 unfold eu eC dR
 rw [this]
theorem DG {c:aF} {s:aa} {a:Int} {k:Nat} (ha:(a-1).toNat=k) {j':bQ} (q:nA c s k j' s.nodes):Step c s (gr s a j'):=by
 unfold gr
 rw [ha]
 exact .aQ q
theorem rL {c:aF} {s:aa} {a:Int} {i:Nat} (ha:a.toNat=i) {n':br} (q:vM s i n'):Step c s (ki s a n'):=by
 unfold ki
 rw [ha]
 exact .node q
theorem Iq (m b:Int) (hm:0≤m∧m<64) (hb:0≤b∧b<6) (hh:hasB m b.toNat=true):0≤mW m b∧many (mW m b)=many m-1∧mW m b≤m∧∀ i:Nat,i<6→hasB (mW m b) i=(hasB m i&&decide (i≠b.toNat)):=by
 obtain ⟨m,rfl⟩:=Int.eq_ofNat_of_zero_le hm.1
 obtain ⟨b,rfl⟩:=Int.eq_ofNat_of_zero_le hb.1
 have:∀ m:Nat,m<64→∀ b:Nat,b<6→hasB (m:Int) b=true→0≤mW (m:Int) b∧many (mW (m:Int) b)=many m-1∧mW (m:Int) b≤m∧∀ i:Nat,i<6→hasB (mW (m:Int) b) i=(hasB (m:Int) i&&decide (i≠b)):=by decide +kernel
 exact this m (by omega) b (by omega) hh
section
variable {c:aF} {s:aa} (h:bU c s)
include h
theorem tN {k:Nat} (hk:k<s.jobs.length) (j':bQ) (num:xq c j') (fixed:j'.queue=(dR s k).queue∧j'.prio=(dR s k).prio∧j'.min=(dR s k).min∧j'.max=(dR s k).max∧j'.work=(dR s k).work∧j'.pin=(dR s k).pin)
  (grow:(dR s k).inc≤j'.inc∧(dR s k).epoch≤j'.epoch) (ended:(dR s k).phase≠4) (hn:j'.nodes=(dR s k).nodes) (hp:eP j'.phase=eP (dR s k).phase)
  (hq:j'.phase=3→(dR s k).phase=3∨cV s.jobs (dR s k).queue<c.cE):nA c s k j' s.nodes:=by
 refine ⟨hk,num,fixed,grow,ended,rfl,fun i hi=>⟨rfl,rfl,rfl,rfl⟩,fun mg=>?_,fun mg=>?_,fun i hi=>?_,fun i q hi hq hne=>Iff.rfl,h.aQ,fun i hi h0=>⟨h.up i hi h0,?_⟩,hq⟩
 ·rw [hp] at mg
  obtain ⟨a,b,d,u,e,f⟩:=h.nH k hk mg
  obtain ⟨f1,f2,f3,f4,f5,f6⟩:=fixed
  refine ⟨by rw [hn]; exact a,by rw [hn]; exact b,by rw [hn,f3,f4]; exact d,u,by rw [f6]; exact e,by rw [hn]; exact f⟩
 ·rw [hp] at mg; rw [hn]; exact h.idle k hk mg
 ·rw [hn]; exact h.link i k hi hk
 ·cases hm:(ec s i).bG with
  | false=>rfl
  | true=>exact absurd (h.bG i hi hm).2.2 h0
theorem uC {k:Nat} (hk:k<s.jobs.length) {p:Int} (hp:p=0∨p=4) (ended:(dR s k).phase≠4) :
  nA c s k { dR s k with phase:=p,nodes:=0,since:=0,til:=0 } (s.nodes.mapIdx (lets (k+1))):=by
 have hj:=h.num k hk
 have hg:∀ i,i<s.nodes.length→(s.nodes.mapIdx (lets (k+1))).getD i ai=lets (k+1) i (ec s i):=fun i hi=>mX _ _ _ _ hi
 have mg:eP p=false:=by rcases hp with rfl | rfl <;> rfl
 refine ⟨hk,⟨hj.asked,by dsimp only; omega,hj.inc,by dsimp only; omega,by dsimp only; omega,hj.epoch⟩,⟨rfl,rfl,rfl,rfl,rfl,rfl⟩,⟨Int.le_refl _,Int.le_refl _⟩,ended,by simp,fun i hi=>?_,fun h'=>?_,fun _=>rfl,fun i hi=>?_,fun i q hi hq hne=>?_,fun i hi=>?_,fun i hi h0=>?_,fun h'=>?_⟩
 ·rw [hg i hi]; unfold lets; split <;> exact ⟨rfl,rfl,rfl,rfl⟩
 ·dsimp only at h'; rw [mg] at h'; cases h'
 ·dsimp only
  rw [hg i hi,q_]
  unfold lets
  split
  ·simp; omega
  ·rename_i hne; simp [hne]
 ·rw [hg i hi]
  unfold lets
  split
  ·rename_i he
   dsimp only
   omega
  ·rfl
 ·rw [hg i hi]
  have:=h.aQ i hi
  unfold lets
  split
  ·dsimp only; omega
  ·exact this
 ·rw [hg i hi] at h0
  unfold lets at h0
  split at h0
  ·exact absurd rfl h0
  ·refine ⟨h.up i hi h0,?_⟩
   cases hm:(ec s i).bG with
   | false=>rfl
   | true=>exact absurd (h.bG i hi hm).2.2 h0
 ·dsimp only at h'; omega
theorem oL {k:Nat} (hk:k<s.jobs.length) {p:Int} (hp:p=0∨p=4) (ended:(dR s k).phase≠4):Step c s (eu s ((k:Int)+1) p):=by
 rw [zJ]
 exact .aQ (uC h hk hp ended)
theorem MG {k:Nat} (hk:k<s.jobs.length) {b:Int} (h0:(dR s k).phase=0) (hf:mZ s.nodes (dR s k) b mq=true) (hi:(dR s k).inc<1000000) :
  nA c s k { dR s k with phase:=1,inc:=(dR s k).inc+1,nodes:=b } (s.nodes.mapIdx (gL b (k+1))):=by
 have hj:=h.num k hk
 have hv:∀ k,k<s.nodes.length→1≤(s.nodes.getD k ai).version:=fun k hk=>(h.NW k hk).1
 obtain ⟨f1,f2,u,f3,f4⟩:=(C9 _ _ _ _ hv).1 hf
 have hg:∀ i,i<s.nodes.length→(s.nodes.mapIdx (gL b (k+1))).getD i ai=gL b (k+1) i (ec s i):=fun i hi=>mX _ _ _ _ hi
 have hfree:∀ i,i<s.nodes.length→hasB b i=true→(ec s i).up=true∧(ec s i).bG=false∧(ec s i).aQ=0:=fun i hi hb=>by
  have:=(f4 i hi hb).1
  unfold mq at this
  simp only [Bool.and_eq_true,decide_eq_true_eq,Bool.not_eq_true'] at this
  exact ⟨this.1.1.1,this.1.2,this.2⟩
 have hno:(dR s k).nodes=0:=h.idle k hk (by rw [h0]; rfl)
 have hnk:∀ i,i<s.nodes.length→(ec s i).aQ≠k+1:=fun i hi he=>by
  have:=(h.link i k hi hk).2 he
  rw [hno,q_] at this; cases this
 refine ⟨hk,⟨hj.asked,by dsimp only; omega,by have:=hj.inc; dsimp only; omega,hj.since,hj.til,by have:=hj.epoch; dsimp only; omega⟩,⟨rfl,rfl,rfl,rfl,rfl,rfl⟩,⟨by dsimp only; omega,Int.le_refl _⟩,by omega,by simp,fun i hi=>?_,fun _=>⟨f1.1,f1.2,f2,u,f3,fun i hi hb=>(f4 i hi hb).2⟩,fun h'=>by simp [eP] at h',fun i hi=>?_,fun i q hi hq hne=>?_,fun i hi=>?_,fun i hi h0=>?_,fun h'=>by dsimp only at h'; omega⟩
 ·rw [hg i hi]; unfold gL; split <;> exact ⟨rfl,rfl,rfl,rfl⟩
 ·rw [hg i hi]
  have:=hnk i hi
  unfold gL
  dsimp only
  split
  ·rename_i hb; simp [hb]
  ·rename_i hb; simp [hb,this]
 ·rw [hg i hi]
  unfold gL
  split
  ·rename_i hb
   have:=(hfree i hi hb).2.2
   dsimp only
   omega
  ·rfl
 ·rw [hg i hi]
  have:=h.aQ i hi
  unfold gL
  split
  ·dsimp only; omega
  ·exact this
 ·rw [hg i hi] at h0
  unfold gL at h0
  split at h0
  ·rename_i hb
   have:=hfree i hi hb
   exact ⟨this.1,this.2.1⟩
  ·refine ⟨h.up i hi h0,?_⟩
   cases hm:(ec s i).bG with
   | false=>rfl
   | true=>exact absurd (h.bG i hi hm).2.2 h0
theorem Fg {k b:Nat} (hk:k<s.jobs.length) (hb:b<s.nodes.length) (h2:(dR s k).phase=2) (hj:(ec s b).aQ=k+1) (hm:(dR s k).min<many (dR s k).nodes) :
  nA c s k { dR s k with nodes:=mW (dR s k).nodes b } (s.nodes.set b { ec s b with aQ:=0 }):=by
 have Ge:=h.num k hk
 have sP:=h.len
 have KO:=K9 h hk
 have hh:=(h.link b k hb hk).2 hj
 obtain ⟨l1,l2,l3,l4⟩:=Iq (dR s k).nodes b KO (by omega) hh
 have hg:∀ i,(s.nodes.set b { ec s b with aQ:=0 }).getD i ai=if i=b then { ec s b with aQ:=0 } else ec s i:=fun i=>AP _ _ _ _ _ hb
 have mg:=h.nH k hk (by rw [h2]; rfl)
 refine ⟨hk,⟨Ge.asked,Ge.phase,Ge.inc,Ge.since,Ge.til,Ge.epoch⟩,⟨rfl,rfl,rfl,rfl,rfl,rfl⟩,⟨Int.le_refl _,Int.le_refl _⟩,by omega,by simp,fun i hi=>?_,fun _=>?_,fun h'=>?_,fun i hi=>?_,fun i q hi hq hne=>?_,fun i hi=>?_,fun i hi h0=>?_,fun h'=>by dsimp only at h'; omega⟩
 ·rw [hg i]; split
  ·rename_i e; subst e; exact ⟨rfl,rfl,rfl,rfl⟩
  ·exact ⟨rfl,rfl,rfl,rfl⟩
 ·obtain ⟨a,b',d,u,e,f⟩:=mg
  refine ⟨l1,by dsimp only; omega,by dsimp only; omega,u,e,fun i hi hb'=>f i hi ?_⟩
  dsimp only at hb'
  rw [l4 i (by omega)] at hb'
  simp only [Bool.and_eq_true] at hb'
  exact hb'.1
 ·dsimp only at h'; rw [h2] at h'; cases h'
 ·rw [hg i]
  dsimp only
  rw [l4 i (by omega)]
  have:=h.link i k hi hk
  split
  ·rename_i e; subst e; simp; omega
  ·rename_i e; simp [e,this]
 ·rw [hg i]
  split
  ·rename_i e; subst e; dsimp only; omega
  ·rfl
 ·rw [hg i]
  have:=h.aQ i hi
  split
  ·dsimp only; omega
  ·exact this
 ·rw [hg i] at h0
  split at h0
  ·exact absurd rfl h0
  ·refine ⟨h.up i hi h0,?_⟩
   cases hm:(ec s i).bG with
   | false=>rfl
   | true=>exact absurd (h.bG i hi hm).2.2 h0
end
end Dv
namespace Dv
theorem y5 {n lo hi:Int} (h:¬ bN n lo hi=false):lo≤n∧n≤hi:=bp (by simpa using h)
theorem Mg {c:aF} {s:aa} (h:bU c s):1≤gh s∧gh s≤9:=by
 unfold gh; split
 ·exact h.prior
 ·exact h.goal
theorem jS {c:aF} {s:aa} (h:bU c s) {i:Nat} (hi:i<s.nodes.length):(1≤(ec s i).version∧(ec s i).version≤9)∧(0≤(ec s i).aQ∧(ec s i).aQ≤s.jobs.length)∧((ec s i).bG=true→(ec s i).up=true∧(ec s i).cQ=true∧(ec s i).aQ=0)∧((ec s i).aQ≠0→(ec s i).up=true):=
 ⟨h.NW i hi,h.aQ i hi,h.bG i hi,h.up i hi⟩
theorem Na {c:aF} {s:aa} (h:bU c s) {o:cB} (ho:fc o=true) (hj:Iy o.kind=true→1≤o.a∧o.a≤s.jobs.length) (hn:Ai o.kind=true→o.a<s.nodes.length):(bV c s o).2=0→Step c s (bV c s o).1:=by
 obtain ⟨hkk,hka,hkb⟩:=wu ho
 have hlj:=h.jobs
 have sP:=h.len
 have hk:o.kind=1∨o.kind=2∨o.kind=3∨o.kind=4∨o.kind=5∨o.kind=6∨o.kind=7∨o.kind=8∨o.kind=9∨o.kind=10∨o.kind=11∨o.kind=12∨o.kind=13∨o.kind=14∨o.kind=15∨o.kind=16∨o.kind=17∨o.kind=18∨o.kind=19∨o.kind=20∨o.kind=21:=by omega
 have J:Iy o.kind=true→∃ k:Nat,o.a=k+1∧(o.a-1).toNat=k∧k<s.jobs.length∧eC s o.a=dR s k∧xq c (dR s k):=fun hq=>by
  obtain ⟨k,a1,a2,a3,a4⟩:=PC h (hj hq)
  exact ⟨k,a1,a2,a3,a4,h.num k a3⟩
 have N:Ai o.kind=true→∃ i:Nat,o.a=i∧o.a.toNat=i∧i<s.nodes.length∧dh s o.a=ec s i:=fun hq=>Kk ⟨hka.1,hn hq⟩
 rcases hk with hk | hk | hk | hk | hk | hk | hk | hk | hk | hk | hk | hk | hk | hk | hk | hk | hk | hk | hk | hk | hk
 ·rw [show bV c s o=j3 c s o by simp only [bV,hk,Int.reduceEq,if_true,if_false]]
  unfold j3
  split
  ·intro e; cases e
  split
  ·intro e; cases e
  rename_i ha h24
  intro _
  exact .more ⟨by omega,⟨by simpa using ha,by simp [nK],by simp [nK],by simp [nK],by simp [nK],by simp [nK]⟩,rfl,rfl⟩
 ·rw [show bV c s o=k9 s o by simp only [bV,hk,Int.reduceEq,if_true,if_false]]
  obtain ⟨k,a1,a2,a3,a4,a5⟩:=J (by rw [hk]; rfl)
  unfold k9
  rw [a4]
  split
  ·intro e; cases e
  rename_i hp
  intro _
  rw [a1]
  exact oL h a3 (.inr rfl) hp
 ·rw [show bV c s o=kU s o by simp only [bV,hk,Int.reduceEq,if_true,if_false]]
  unfold kU
  split
  ·intro e; cases e
  rename_i hp
  intro _
  exact .num ⟨y5 hp,Mg h,by decide,by have:=h.term; omega⟩
 ·rw [show bV c s o=iG s (s.mode==0) 1 by simp only [bV,hk,Int.reduceEq,if_true,if_false]]
  unfold iG
  split
  ·intro _; exact .num ⟨h.goal,h.prior,by decide,by have:=h.term; omega⟩
  ·intro e; cases e
 ·rw [show bV c s o=iG s (s.mode==1) 0 by simp only [bV,hk,Int.reduceEq,if_true,if_false]]
  unfold iG
  split
  ·intro _; exact .num ⟨h.goal,h.prior,by decide,by have:=h.term; omega⟩
  ·intro e; cases e
 ·rw [show bV c s o=iG s (s.mode !=2) 2 by simp only [bV,hk,Int.reduceEq,if_true,if_false]]
  unfold iG
  split
  ·intro _; exact .num ⟨h.goal,h.prior,by decide,by have:=h.term; omega⟩
  ·intro e; cases e
 ·rw [show bV c s o=sY s o by simp only [bV,hk,Int.reduceEq,if_true,if_false]]
  obtain ⟨i,b1,b2,b3,b4⟩:=N (by rw [hk]; rfl)
  obtain ⟨n1,n2,n3,n4⟩:=jS h b3
  unfold sY
  rw [b4]
  split
  ·intro e; cases e
  intro _
  dsimp only
  by_cases hz:(ec s i).aQ=0
  ·rw [if_neg (by simp [hz]),b4]
   refine rL b2 ⟨b3,n1,rfl,fun _=>rfl,fun e=>(by cases e),fun e=>absurd hz e⟩
  ·rw [if_pos hz]
   obtain ⟨k,hkj⟩:∃ k:Nat,(ec s i).aQ=k+1:=⟨((ec s i).aQ-1).toNat,by omega⟩
   have hkl:k<s.jobs.length:=by omega
   have acu:=(h.link i k b3 hkl).2 hkj
   have hph:(dR s k).phase≠4:=fun e=>by
    have:=h.idle k hkl (by rw [e]; rfl)
    rw [this,q_] at acu; cases acu
   have hst:=uC h hkl (p:=0) (.inl rfl) hph
   have hr:=h.Av hst
   rw [hkj,zJ]
   have hna:dh { s with nodes:=s.nodes.mapIdx (lets (k+1)),jobs:=s.jobs.set k { dR s k with phase:=0,nodes:=0,since:=0,til:=0 } } o.a=lets (k+1) i (ec s i):=by
    unfold dh; rw [b2]; exact mX _ _ _ _ b3
   have ab9:ec { s with nodes:=s.nodes.mapIdx (lets (k+1)),jobs:=s.jobs.set k { dR s k with phase:=0,nodes:=0,since:=0,til:=0 } } i=lets (k+1) i (ec s i):=mX _ _ _ _ b3
   have aas:lets (k+1) i (ec s i) = { ec s i with aQ:=0 }:=by unfold lets; rw [if_pos hkj]
   rw [hna,aas]
   unfold ki
   rw [b2]
   refine .both hst ⟨by simpa using b3,n1,by rw [ab9,aas],fun _=>by rw [ab9,aas],fun e=>(by cases e),fun e=>absurd rfl e⟩
 ·rw [show bV c s o=RJ s o by simp only [bV,hk,Int.reduceEq,if_true,if_false]]
  obtain ⟨i,b1,b2,b3,b4⟩:=N (by rw [hk]; rfl)
  obtain ⟨n1,n2,n3,n4⟩:=jS h b3
  unfold RJ
  rw [b4]
  split
  ·intro e; cases e
  split
  ·intro e; cases e
  rename_i hv hu
  intro _
  refine rL b2 ⟨b3,y5 hv,rfl,fun e=>absurd (n4 e) hu,fun e=>absurd (n3 e).1 hu,fun e=>rfl⟩
 ·rw [show bV c s o=pT s o by simp only [bV,hk,Int.reduceEq,if_true,if_false]]
  obtain ⟨k,a1,a2,a3,a4,a5⟩:=J (by rw [hk]; rfl)
  unfold pT
  rw [a4]
  split
  ·intro e; cases e
  split
  ·intro e; cases e
  rename_i hp hf
  intro _
  have hp:(dR s k).phase=0:=by simpa using hp
  have hst:=MG h a3 hp (b:=o.b) (by cases hq:mZ s.nodes (dR s k) o.b mq with | true=>rfl | false=>exact absurd (.inl hq) hf) (by omega)
  unfold gr
  rw [a2,a1]
  exact .aQ hst
 ·rw [show bV c s o=oI s o by simp only [bV,hk,Int.reduceEq,if_true,if_false]]
  obtain ⟨k,a1,a2,a3,a4,a5⟩:=J (by rw [hk]; rfl)
  unfold oI
  rw [a4]
  split
  ·intro e; cases e
  rename_i hp
  have hp:(dR s k).phase=1:=by simpa using hp
  intro _
  exact DG a2 (tN h a3 _ ⟨a5.asked,by dsimp only; omega,a5.inc,hkb,a5.til,a5.epoch⟩ ⟨rfl,rfl,rfl,rfl,rfl,rfl⟩ ⟨Int.le_refl _,Int.le_refl _⟩ (by omega) rfl (by rw [hp]; rfl) (fun e=>by cases e))
 ·rw [show bV c s o=kT s o by simp only [bV,hk,Int.reduceEq,if_true,if_false]]
  obtain ⟨k,a1,a2,a3,a4,a5⟩:=J (by rw [hk]; rfl)
  unfold kT
  rw [a4]
  split
  ·intro e; cases e
  rename_i hp
  have hp:(dR s k).phase=1:=by simpa using hp
  intro _
  rw [a1]
  exact oL h a3 (.inl rfl) (by omega)
 ·rw [show bV c s o=nP c s o by simp only [bV,hk,Int.reduceEq,if_true,if_false]]
  obtain ⟨k,a1,a2,a3,a4,a5⟩:=J (by rw [hk]; rfl)
  unfold nP
  rw [a4]
  split
  ·intro e; cases e
  split
  ·intro e; cases e
  rename_i hp hq
  have hp:(dR s k).phase=2:=by simpa using hp
  intro _
  exact DG a2 (tN h a3 _ ⟨a5.asked,by dsimp only; omega,a5.inc,a5.since,hkb,a5.epoch⟩ ⟨rfl,rfl,rfl,rfl,rfl,rfl⟩ ⟨Int.le_refl _,Int.le_refl _⟩ (by omega) rfl (by rw [hp]; rfl) (fun e=>.inr (by omega)))
 ·rw [show bV c s o=kD s o by simp only [bV,hk,Int.reduceEq,if_true,if_false]]
  obtain ⟨k,a1,a2,a3,a4,a5⟩:=J (by rw [hk]; rfl)
  unfold kD
  rw [a4]
  split
  ·intro e; cases e
  split
  ·intro e; cases e
  rename_i hp hq
  have hp:(dR s k).phase≠4:=fun e=>by unfold ux at hp; rw [e] at hp; exact hp rfl
  intro _
  exact DG a2 (tN h a3 _ ⟨a5.asked,a5.phase,a5.inc,a5.since,a5.til,by dsimp only; omega⟩ ⟨rfl,rfl,rfl,rfl,rfl,rfl⟩ ⟨Int.le_refl _,by dsimp only; omega⟩ hp rfl rfl (fun e=>.inl e))
 ·rw [show bV c s o=pF s o by simp only [bV,hk,Int.reduceEq,if_true,if_false]]
  obtain ⟨k,a1,a2,a3,a4,a5⟩:=J (by rw [hk]; rfl)
  unfold pF
  rw [a4]
  split
  ·intro e; cases e
  rename_i hp
  have hp:(dR s k).phase=3:=by simpa using hp
  intro _
  rw [a1]
  exact oL h a3 (.inl rfl) (by omega)
 ·rw [show bV c s o=vz s o by simp only [bV,hk,Int.reduceEq,if_true,if_false]]
  obtain ⟨k,a1,a2,a3,a4,a5⟩:=J (by rw [hk]; rfl)
  unfold vz
  rw [a4]
  split
  ·intro e; cases e
  rename_i hp
  have hp:(dR s k).phase≠4:=fun e=>by unfold ux at hp; rw [e] at hp; exact hp rfl
  intro _
  rw [a1]
  exact oL h a3 (.inr rfl) hp
 ·rw [show bV c s o=nh s o by simp only [bV,hk,Int.reduceEq,if_true,if_false]]
  obtain ⟨i,b1,b2,b3,b4⟩:=N (by rw [hk]; rfl)
  obtain ⟨n1,n2,n3,n4⟩:=jS h b3
  unfold nh
  rw [b4]
  split
  ·intro e; cases e
  intro _
  refine rL b2 ⟨b3,n1,rfl,fun _=>rfl,fun e=>⟨(n3 e).1,rfl,(n3 e).2.2⟩,n4⟩
 ·rw [show bV c s o=iX s o by simp only [bV,hk,Int.reduceEq,if_true,if_false]]
  obtain ⟨i,b1,b2,b3,b4⟩:=N (by rw [hk]; rfl)
  obtain ⟨n1,n2,n3,n4⟩:=jS h b3
  unfold iX
  rw [b4]
  split
  ·intro e; cases e
  rename_i hq
  intro _
  refine rL b2 ⟨b3,n1,rfl,fun _=>rfl,fun e=>absurd (.inr e) hq,n4⟩
 ·rw [show bV c s o=xM s o by simp only [bV,hk,Int.reduceEq,if_true,if_false]]
  obtain ⟨i,b1,b2,b3,b4⟩:=N (by rw [hk]; rfl)
  obtain ⟨n1,n2,n3,n4⟩:=jS h b3
  unfold xM
  rw [b4]
  split
  ·intro e; cases e
  rename_i hq
  intro _
  have IP:(ec s i).up=true∧(ec s i).cQ=true∧(ec s i).aQ=0:=by
   simp only [not_or,Bool.not_eq_false,Bool.not_eq_true,Decidable.not_not] at hq
   exact ⟨hq.1,hq.2.1,hq.2.2.2⟩
  refine rL b2 ⟨b3,n1,rfl,fun _=>rfl,fun e=>IP,n4⟩
 ·rw [show bV c s o=nM s o by simp only [bV,hk,Int.reduceEq,if_true,if_false]]
  obtain ⟨i,b1,b2,b3,b4⟩:=N (by rw [hk]; rfl)
  obtain ⟨n1,n2,n3,n4⟩:=jS h b3
  unfold nM
  rw [b4]
  split
  ·intro e; cases e
  split
  ·intro e; cases e
  rename_i hv hm
  intro _
  have hm:(ec s i).bG=true:=by simpa using hm
  refine rL b2 ⟨b3,y5 hv,rfl,fun e=>absurd (n3 hm).2.2 e,fun e=>(by cases e),n4⟩
 ·rw [show bV c s o=gX s o by simp only [bV,hk,Int.reduceEq,if_true,if_false]]
  obtain ⟨k,a1,a2,a3,a4,a5⟩:=J (by rw [hk]; rfl)
  unfold gX
  split
  ·intro e; cases e
  rename_i yY
  obtain ⟨b,b1,b2,b3,b4⟩:=Kk (s:=s) (a:=o.b) (by omega)
  rw [a4,b4]
  split
  ·intro e; cases e
  split
  ·intro e; cases e
  rename_i hp hq
  have hp:(dR s k).phase=2:=by simpa using hp
  simp only [not_or,Decidable.not_not] at hq
  intro _
  have hst:=Fg h a3 b3 hp (by omega) (by omega)
  unfold ki gr
  rw [a2,b1]
  exact .aQ hst
 ·rw [show bV c s o=ey s by simp only [bV,hk,Int.reduceEq,if_true,if_false]]
  unfold ey
  split
  ·intro e; cases e
  intro _
  exact .num ⟨h.goal,h.prior,h.mode,by have:=h.term; omega⟩
theorem JN {c:aF} {s:aa} (h:bU c s) (o:cB):((aZ c s o).2=0→Step c s (aZ c s o).1)∧((aZ c s o).2≠0→(aZ c s o).1=s):=by
 have hr:=(d_ c s).2 h
 unfold aZ
 rw [if_neg (by simp [hr])]
 unfold Bq
 split
 ·exact ⟨fun e=>by (cases e),fun _=>rfl⟩
 split
 ·exact ⟨fun e=>by (cases e),fun _=>rfl⟩
 split
 ·exact ⟨fun e=>by (cases e),fun _=>rfl⟩
 rename_i h1 h2 h3
 exact ⟨Na h (by simpa using h1) (fun e=>by by_cases hq:o.a<1∨(s.jobs.length:Int)<o.a; exact absurd ⟨e,hq⟩ h2; omega) (fun e=>by by_cases hq:(s.nodes.length:Int)≤o.a; exact absurd ⟨e,hq⟩ h3; omega),GH c s o⟩
theorem ye {c:aF} {s:aa} (h:bU c s) (o:cB):bU c (aZ c s o).1:=by
 have:=JN h o
 by_cases e:(aZ c s o).2=0
 ·exact (this.1 e).right h
 ·rw [this.2 e]; exact h
end Dv
