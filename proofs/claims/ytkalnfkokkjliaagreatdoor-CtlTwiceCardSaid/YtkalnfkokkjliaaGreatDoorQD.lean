/- part -/
import Derived.Test.YtkalnfkokkjliaaGreatDoorQB
import Derived.Test.YtkalnfkokkjliaaGreatDoorCE
import Derived.Test.YtkalnfkokkjliaaGreatDoorQC
set_option linter.all false
namespace Dv
open Go Go.Proofs
structure Reads (l:List Int) (j:jx) (q:Option (List Int×Int)) (bs:List (List Int)):Prop where
 len:l.length=j.n
 KJ:bI l
 Ka:BB j q bs
 eW:ny l j.n=q
 ops:tf l j.n=bs
 jn:∀ s,iq l j.n s = { j with s:=IntKind.i64.wrap (s+1) }
theorem BB.reads {j:jx} {q:Option (List Int×Int)} {bs:List (List Int)} (h:BB j q bs):Reads j.l j q bs:=⟨h.ok.len,h.ok.KJ,h,(h.opn 0).1,(h.opn 0).2.1,fun s=>(h.opn s).2.2⟩
end Dv
namespace Dv
open Go Go.Proofs
theorem Zn {p:Prop} [Decidable p] {a b:aa×Int} {t:Int} (ha:p→a.1.term=t) (hb:¬ p→b.1.term=t):(if p then a else b).1.term=t:=by
 split
 ·exact ha ‹_›
 ·exact hb ‹_›
theorem Zm {p:Prop} [Decidable p] {a b:aa} {t:Int} (ha:a.term=t) (hb:b.term=t):(if p then a else b).term=t:=by
 split
 ·exact ha
 ·exact hb
theorem MT {c:aC} {s:aa} {o:cA} (hk:o.kind≠21) (hr:1≤o.kind∧o.kind≤21):(bS c s o).1.term=s.term:=by
 unfold bS
 simp only [jV,kX,kQ,iy,sK,Rr,pM,oz,kP,nG,ku,oV,u7,mT,iR,xl,nC,gP,eo,j8,gm]
 repeat' first | rfl | (exfalso; omega) | refine Zn (fun _=>?_) (fun _=>?_) | refine Zm ?_ ?_
theorem Jv {c:aC} {s:aa} (h:bR c s) {o:cA} (hk:o.kind≠21):(bE c s o).1.term=s.term:=by
 unfold bE AV
 rw [if_neg (by rw [(ez c s).2 h]; decide)]
 split
 ·rfl
 rename_i h0
 have:=rM (o:=o) (by simpa using h0)
 split
 ·rfl
 split
 ·rfl
 exact MT hk this
theorem ov {s:aa} {r:List dA} {up:Bool} {o:cA} : ∀ (l:List bp) (i:Nat),lJ s r up l i=some o→o.kind≠21
 | [],i,h=>by cases h
 | n::l,i,h=>by
   unfold lJ at h
   split at h
   ·split at h
    ·rename_i p hp
     cases h
     unfold EM at hp
     split at hp
     ·cases hp
     split at hp
     ·cases hp; show (8:Int)≠21; decide
     split at hp
     ·cases hp; show (19:Int)≠21; decide
     ·cases hp
    ·exact ov l (i+1) h
   ·exact ov l (i+1) h
theorem yW {s:aa} {r:List dA} {now:Int} {o:cA} : ∀ (l:List bP) (k:Nat),su s r now l k=some o→o.kind≠21
 | [],k,h=>by cases h
 | j::l,k,h=>by
   unfold su at h
   split at h
   ·rename_i p hp
    cases h
    unfold NT at hp
    split at hp
    ·cases hp
     unfold CF
     split
     ·show (10:Int)≠21; decide
     split
     ·show (15:Int)≠21; decide
     split
     ·show (if j.epoch<j.inc then (⟨13,(k:Int)+1,j.inc,0,0,0,0⟩:cA) else ⟨14,(k:Int)+1,0,0,0,0,0⟩).kind≠21
      split
      ·show (13:Int)≠21; decide
      ·show (14:Int)≠21; decide
     ·show (0:Int)≠21; decide
    ·cases hp
   ·exact yW l (k+1) h
theorem IQ {s:aa} {r:List dA} {now:Int} {o:cA} (h:nE s r now=some o):o.kind≠21:=by
 unfold nE at h
 split at h
 ·rename_i p hp; cases h; exact ov _ _ hp
 split at h
 ·rename_i p hp; cases h; exact ov _ _ hp
 ·exact yW _ _ h
theorem LP {x:aO} {now:Int} {u:Option cA} {o:cA} (h:x.jE now (nE x.s (x.pS x.lines.length) now) (pJ x.c x.s now)=some o):o.kind≠21:=by
 unfold aO.jE at h
 split at h
 ·cases h; show (7:Int)≠21; decide
 split at h
 ·rename_i p hp; cases h; exact IQ hp
 ·have:=LF h
  unfold V0 at this
  have:=of_decide_eq_true this
  omega
structure gA (c:aC) (n k:Nat) (x:aO):Prop where
 fi:gM c k x
 du:∃ q bs,Dur x q bs
 ct:x.j.cnt≤k
 tm:x.term≤x.s.term
 sz:x.j.n=n
 t0:0≤x.s.term∧x.s.term≤1000000
theorem gA.more {c:aC} {n k k':Nat} {x:aO} (h:gA c n k x) (hk:k≤k'):gA c n k' x:=⟨h.fi.more hk,h.du,by have:=h.ct; omega,h.tm,h.sz,h.t0⟩
theorem zJ (x:aO) (o:cA) (now:Int):(x.bQ o now).j.n=x.j.n:=by
 have h1:(x.fm o).n=x.j.n:=by
  unfold aO.fm aO.Kb
  split
  ·rfl
  split
  ·rfl
  ·exact jx.DA _ _
 unfold aO.bQ
 split
 ·exact h1
 ·exact h1
theorem oJ (x:aO) (o:cA) (now:Int):(x.bQ o now).term=x.term:=by unfold aO.bQ; split <;> rfl
theorem yw {x:aO} {o:cA} {now:Int} : (x.bQ o now).s=if x.ek o=0 then (bE x.c x.s o).1 else x.s:=by unfold aO.bQ; split <;> rfl
theorem Cb {x:aO} (hx:CX x) {o:cA} (hk:o.kind≠21) (now:Int):(x.bQ o now).s.term=x.s.term:=by
 rw [yw]; split
 ·exact Jv hx.right hk
 ·rfl
theorem gA.note {c:aC} {n k:Nat} {x:aO} (h:gA c n k x) (hk:k≤1000) {o:cA} (ho:o.kind≠21) {now:Int} (hn:0≤now∧now≤1000000):gA c n (k+1) (x.bQ o now):=by
 obtain ⟨q,bs,hd⟩:=h.du
 have hc:=h.ct
 obtain ⟨q',bs',h1,h2⟩:=hd.note h.fi.ok o now (by omega)
 have ht:=Cb h.fi.ok ho now
 exact ⟨h.fi.note hk o hn,⟨q',bs',h1⟩,by omega,by rw [oJ,ht]; exact h.tm,by rw [zJ]; exact h.sz,by rw [ht]; exact h.t0⟩
theorem SB {c:aC} {n k:Nat} {x:aO} (h:gA c n k x) (hk:k≤1000) (o:cA) {now:Int} (hn:0≤now∧now≤1000000):∃ e y,bw Tryz.prog eE 43 [.ptr 0 0,tO o,.int now] (bX x) (.int e) (bX y)∧gA c n (k+1) y:=by
 refine ⟨_,_,bw.up (VH x h.fi.ok h.fi.dn o now) nM,?_⟩
 unfold aO.doX
 split
 ·exact h.note hk (by omega) hn
 ·exact h.more (Nat.le_succ _)
theorem G_ (x:aO) (q:Option dA) (now:Int) (l:mY):∀ m∈(lK x q now l).2.toList,m.term=x.s.term:=by
 unfold lK
 split
 ·intro m hm; cases hm
 ·split
  ·intro m hm; simp at hm; rw [hm]
  split
  ·intro m hm; cases hm
  ·intro m hm; simp at hm; rw [hm]
theorem yV (y:aO) (had:Int→Int) (now:Int):∀ j,∀ m∈(cT y had now j).2,m.term=y.s.term
 | 0,m,h=>by cases h
 | j+1,m,h=>by
   change m∈(cT y had now j).2++_ at h
   rcases List.mem_append.1 h with h | h
   ·exact yV y had now j m h
   ·rw [G_ _ _ _ _ m h,(nL y had now j).s]
theorem gA.JH {c:aC} {n k:Nat} {y:aO} (h:gA c n k y) (had:Int→Int) (now:Int) (j:Nat):gA c n k (cT y had now j).1:=by
 have ht:=nL y had now j
 obtain ⟨q,bs,hd⟩:=h.du
 exact ⟨h.fi.JH had now j,⟨q,bs,by rw [ht.j]; exact hd.Ka,by rw [ht.c,ht.s]; exact hd.rd⟩,by rw [ht.j]; exact h.ct,by rw [ht.term,ht.s]; exact h.tm,by rw [ht.j]; exact h.sz,by rw [ht.s]; exact h.t0⟩
theorem FM {c:aC} {n k:Nat} {x:aO} (h:gA c n k x) (hk:k≤1000) {now:Int} (hn:0≤now∧now≤1000000):∃ o y ms,bw Tryz.prog eE 44 [.ptr 0 0,.int now] (bX x) (.dJ [tO o,iT ms]) (bX y)∧gA c n (k+1) y∧y.s.term=x.s.term∧y.term=x.term∧ms.length≤6∧∀ m∈ms,m.term=x.s.term:=by
 have we:=h.fi.ok.lines
 have EB:=h.fi.ok.right.len
 have hlj:=h.fi.ok.right.jobs
 have hA:gA c n (k+1) (x.kZ now (nE x.s (x.pS x.lines.length) now) (pJ x.c x.s now))∧(x.kZ now (nE x.s (x.pS x.lines.length) now) (pJ x.c x.s now)).s.term=x.s.term∧(x.kZ now (nE x.s (x.pS x.lines.length) now) (pJ x.c x.s now)).term=x.term:=by
  unfold aO.kZ
  split
  ·rename_i o ho
   have hk2:=LP (u:=none) ho
   exact ⟨h.note hk hk2 hn,Cb h.fi.ok hk2 now,oJ _ _ _⟩
  ·exact ⟨h.more (Nat.le_succ _),rfl,rfl⟩
 obtain ⟨hA,hAt,hAu⟩:=hA
 have hT:=VM x h.fi.ok h.fi.dn now hn h.fi.hr (nE x.s (x.pS x.lines.length) now) (pJ x.c x.s now) (Bv x.s _ now (by omega) (by omega)) (Oo x.c x.s h.fi.ok.right now hn) (fun _=>0) (fun i hi=>by
  have hr:=hA.fi.ok.right
  have adS:=hr.jobs
  refine LK _ _ hr _ i (by rw [← hA.fi.ok.lines]; exact hi) _ _ _ _ (fun j hj=>?_)
  exact Qs _ (by omega) _ _ _ _ hA.fi.ok.sh hA.fi.sz (fun e he=>(hr.num e he).epoch.1) j hj)
 refine ⟨_,_,_,hT,hA.JH _ now x.lines.length,?_,?_,?_,fun m hm=>?_⟩
 ·rw [(nL _ _ _ _).s]; exact hAt
 ·rw [(nL _ _ _ _).term]; exact hAu
 ·have:=vG (x.kZ now (nE x.s (x.pS x.lines.length) now) (pJ x.c x.s now)) (fun _=>0) now x.lines.length; omega
 ·rw [yV _ _ _ _ m hm]; exact hAt
theorem gA.aaf {c:aC} {n k:Nat} {x:aO} (h:gA c n k x) (m:dA) {now:Int} (hn:0≤now∧now≤1000000):gA c n k (x.kJ m now)∧(x.kJ m now).s=x.s∧(x.kJ m now).term=x.term:=by
 obtain ⟨h1,h2,h3⟩:=h.fi.aaf m hn
 obtain ⟨q,bs,hd⟩:=h.du
 have e1:(x.kJ m now).j=x.j:=by unfold aO.kJ; split <;> rfl
 have e2:(x.kJ m now).c=x.c:=by unfold aO.kJ; split <;> rfl
 have e3:(x.kJ m now).term=x.term:=by unfold aO.kJ; split <;> rfl
 exact ⟨⟨h1,⟨q,bs,by rw [e1]; exact hd.Ka,by rw [e2,h2]; exact hd.rd⟩,by rw [e1]; exact h.ct,by rw [e3,h2]; exact h.tm,by rw [e1]; exact h.sz,by rw [h2]; exact h.t0⟩,h2,e3⟩
theorem FO {sh:List kO} (hl:sh.length=25) (h:∀ i,i<25→sh.getD i ic=ic) (jobs:List bP):∀ k,∀ i,i<25→(jQ jobs sh k).getD i ic=ic
 | 0,i,hi=>h i hi
 | k+1,i,hi=>by
   have ih:=FO hl h jobs k
   show (zX (jQ jobs sh k) k (jobs.getD k az)).getD i ic=ic
   unfold zX
   split
   ·exact RM ih _ i hi
   split
   ·by_cases hk:k+1<25
    ·rw [ih _ hk,KH]; exact RM ih _ i hi
    ·rw [List.set_eq_of_length_le (by rw [oO]; omega)]; exact ih i hi
   ·exact ih i hi
theorem H8 {c:aC} (h:gJ c=true) {n:Nat} (hn:64≤n∧n≤65536) (room:Int):gA c n 1 (MY c n 0 room 0 (List.replicate 25 ic) 0 0):=by
 have h0:gA c n 0 (nH c n 0 room 0 (List.replicate 25 ic) 0 0):=by
  have hz:(dF c).term=0:=by unfold dF; rw [if_pos h]
  have hok:=En h hn 0 room 0 (List.replicate 25 ic) (by rw [List.length_replicate]) 0 0
  refine ⟨⟨hok,rfl,rfl,?_,?_,⟨Int.le_refl _,Int.le_refl _⟩⟩,⟨none,[],⟨hok.jn,zQ _ _ _ (by show 0+2*(n / 4)≤n; omega),rfl,rfl,Int.le_refl _,by show (0:Int)≤_; omega,?_,rfl,fun r hr=>(by cases hr),fun r hr=>(by cases hr),fun r hr=>(by cases hr)⟩,rfl⟩,Int.le_refl _,by show (0:Int)≤(dF c).term; omega,rfl,by show 0≤(dF c).term∧(dF c).term≤1000000; omega⟩
  ·intro l hl
   change l∈List.replicate _ (HZ 0) at hl
   rw [List.eq_of_mem_replicate hl]
   exact ⟨Int.le_refl _,by show (0:Int)≤_; omega⟩
  ·intro i hi
   show (List.replicate 25 ic).getD i ic=ic
   rw [List.getD,List.getElem?_replicate,if_pos hi]
   rfl
  ·show qj (List.replicate n 0) (2*(n / 4)) (n-2*(n / 4))=[]++List.replicate (n-2*(n / 4)-0) 0
   unfold qj
   rw [List.drop_replicate,List.take_replicate,Nat.min_self]; rfl
 obtain ⟨q,bs,hd⟩:=h0.du
 have hE:=IJ h hn 0 room 0 (List.replicate 25 ic) 0 0
 obtain ⟨q',bs',h1,h2⟩:=hd.note h0.fi.ok bN 0 (by show (0:Int)+1≤_; omega)
 have hs:((nH c n 0 room 0 (List.replicate 25 ic) 0 0).bQ bN 0).s = { dF c with term:=1 }:=by
  rw [yw,if_pos hE]; show (bE c (dF c) bN).1=_; rw [yU h]
 have ht:(MY c n 0 room 0 (List.replicate 25 ic) 0 0).term=1:=by
  show (if _>_ then _ else _)=_
  rw [oJ,hs]
  exact if_pos (show (1:Int)>0 by decide)
 refine ⟨IP h hn room,⟨q',bs',h1.Ka,h1.rd⟩,?_,?_,?_,?_⟩
 ·show ((nH c n 0 room 0 (List.replicate 25 ic) 0 0).bQ bN 0).j.cnt≤_
  have:(nH c n 0 room 0 (List.replicate 25 ic) 0 0).j.cnt=0:=rfl
  omega
 ·rw [ht]; show (1:Int)≤((nH c n 0 room 0 (List.replicate 25 ic) 0 0).bQ bN 0).s.term; rw [hs]; exact Int.le_refl _
 ·show ((nH c n 0 room 0 (List.replicate 25 ic) 0 0).bQ bN 0).j.n=n
  rw [zJ]; rfl
 ·show 0≤((nH c n 0 room 0 (List.replicate 25 ic) 0 0).bQ bN 0).s.term∧((nH c n 0 room 0 (List.replicate 25 ic) 0 0).bQ bN 0).s.term≤1000000
  rw [hs]; exact ⟨by show (0:Int)≤1; decide,by show (1:Int)≤1000000; decide⟩
theorem Jm {c:aC} {n k:Nat} {l:List Int} {j:jx} {q:Option (List Int×Int)} {bs:List (List Int)} {t:aa} (hR:Reads l j q bs) (hrd:kH c (ta q) bs=some t) (hjn:j.n=n) (hct:j.cnt≤k) (s room term:Int) (sh:List kO) (wr:Int) (hs:sh.length=25) (hz:∀ i,i<25→sh.getD i ic=ic) (Mm:term≤t.term) (ht0:0≤t.term∧t.term≤1000000) (hm:gJ c=true) (hk:k≤1001) {now:Int} (hn:0≤now∧now≤1000000) :
  ∃ e y,bw Tryz.prog eE 37 [fV c,.ptr 0 0,.ptr 2 0,.int now] (dM l s++gu room term sh wr) (.dJ [if e=0 then .ptr 3 0 else qM,.int e]) (if e=0 then pQ y else dM y.j.l y.j.s++gu y.room y.term y.sh y.wr)∧
  gA c n (k+1) y∧(e=0∨e=3)∧(e=0→bE c t bN=({ t with term:=t.term+1 },0)∧y.s = { t with term:=t.term+1 }∧y.term=y.s.term∧y.er=1)∧(e≠0→y.s=t):=by
 have hsz:=hR.Ka.ok.size
 have hB:=Ra c hm j.n hsz l hR.len hR.KJ s room term sh hs wr now hn
 have hX:CX (fK c (iq l j.n s) room term sh wr now t):=GB (wY hm hrd) (JT _ hsz hR.len hR.KJ) hs
 have hF:gM c 0 (fK c (iq l j.n s) room term sh wr now t):=⟨hX,rfl,rfl,fun l hl=>by
  change l∈List.replicate _ (HZ now) at hl
  rw [List.eq_of_mem_replicate hl]; exact hn,hz,⟨Int.le_refl _,Int.le_refl _⟩⟩
 have hD:Dur (fK c (iq l j.n s) room term sh wr now t) q bs:=⟨by show BB (iq l j.n s) q bs; rw [hR.jn]; exact hR.Ka.sync _,hrd⟩
 have hcn:(fK c (iq l j.n s) room term sh wr now t).j.cnt=j.cnt:=by show (iq l j.n s).cnt=_; rw [hR.jn]
 have adg:(fK c (iq l j.n s) room term sh wr now t).j.n=n:=by show (iq l j.n s).n=n; rw [OD]; exact hjn
 have hxs:(fK c (iq l j.n s) room term sh wr now t).s=t:=rfl
 have hxt:(fK c (iq l j.n s) room term sh wr now t).term=term:=rfl
 have hxo:(fK c (iq l j.n s) room term sh wr now t).er=0:=rfl
 have hst:gu room term sh wr=gu (fK c (iq l j.n s) room term sh wr now t).room (fK c (iq l j.n s) room term sh wr now t).term (fK c (iq l j.n s) room term sh wr now t).sh (fK c (iq l j.n s) room term sh wr now t).wr:=rfl
 unfold KK at hB
 rw [hR.eW,hR.ops,hrd] at hB
 dsimp only at hB
 generalize fK c (iq l j.n s) room term sh wr now t=X at *
 have hN:=hF.note (by omega) bN hn
 obtain ⟨q',bs',hd2,F6⟩:=hD.note hX bN now (by omega)
 have hc3:(X.bQ bN now).j.cnt≤((k+1:Nat):Int):=by omega
 have hn3:(X.bQ bN now).j.n=n:=by rw [zJ]; exact adg
 have hut:=oJ X bN now
 have hxc:=hF.cf
 rcases Y8 hX with he | he
 ·rw [if_pos he] at hB
  have hS:=Y7 hX he
  rw [hxc,hxs] at hS
  have U3:(X.bQ bN now).s = { t with term:=t.term+1 }:=by rw [yw,if_pos he,hxc,hxs,hS]
  have hno:(X.bQ bN now).er=1:=by unfold aO.bQ; rw [if_pos he]; show IntKind.i64.wrap (X.er+1)=1; rw [hxo]; rfl
  have hle:t.term+1≤1000000:=by
   have:=(qW he).1
   rw [rq ((ez _ _).2 hX.right) (by decide) (by decide) (by decide)] at this
   change (eu X.s).2=0 at this
   unfold eu at this
   rw [hxs] at this
   split at this
   ·cases this
   ·omega
  have hfd:(X.bQ bN now).KM.term=t.term+1:=by
   show (if (X.bQ bN now).s.term>(X.bQ bN now).term then (X.bQ bN now).s.term else (X.bQ bN now).term)=_
   rw [hut,hxt,U3,if_pos (show t.term+1>term by omega)]
  refine ⟨0,_,bw.up hB nM,⟨⟨⟨hN.ok.right,hN.ok.jn,?_,hN.ok.lines⟩,hN.cf,hN.dn,hN.hr,FO hN.ok.sh hN.sz _ _,⟨hN.nt.1,by show (X.bQ bN now).er≤_; rw [hno]; omega⟩⟩,⟨q',bs',hd2.Ka,hd2.rd⟩,hc3,?_,hn3,?_⟩,.inl rfl,fun _=>⟨hS,U3,?_,hno⟩,fun h=>absurd rfl h⟩
  ·show (jQ _ _ _).length=25
   rw [oO]; exact hN.ok.sh
  ·rw [hfd]; show _≤(X.bQ bN now).s.term; rw [U3]; exact Int.le_refl _
  ·show 0≤(X.bQ bN now).s.term∧(X.bQ bN now).s.term≤1000000; rw [U3]; exact ⟨by show 0≤t.term+1; omega,hle⟩
  ·rw [hfd]; show _=(X.bQ bN now).s.term; rw [U3]
 ·rw [if_neg (by rw [he]; decide),he] at hB
  have hE:¬ X.ek bN=0:=by rw [he]; decide
  have U3:(X.bQ bN now).s=t:=by rw [yw,if_neg hE]; exact hxs
  have hYs:gu (X.bQ bN now).room (X.bQ bN now).term (X.bQ bN now).sh (X.bQ bN now).wr=gu X.room X.term X.sh X.wr:=by unfold aO.bQ; rw [if_neg hE]
  refine ⟨3,_,?_,⟨hN.more (by omega),⟨q',bs',hd2⟩,hc3,by rw [hut,U3,hxt]; exact Mm,hn3,by rw [U3]; exact ht0⟩,.inr rfl,fun h=>(by cases h),fun _=>U3⟩
  rw [if_neg (by decide),if_neg (by decide),hYs,← hst]
  exact bw.up hB nM
theorem Cm {c:aC} {n k:Nat} {x:aO} (h:gA c n k x) (hm:gJ c=true) (hk:k≤1001) {now:Int} (hn:0≤now∧now≤1000000):∃ e y,bw Tryz.prog eE 37 [fV c,.ptr 0 0,.ptr 2 0,.int now] (dM x.j.l x.j.s++gu x.room x.term x.sh x.wr) (.dJ [if e=0 then .ptr 3 0 else qM,.int e]) (if e=0 then pQ y else dM y.j.l y.j.s++gu y.room y.term y.sh y.wr)∧
  gA c n (k+1) y∧(e=0∨e=3)∧(e=0→bE c x.s bN=({ x.s with term:=x.s.term+1 },0)∧y.s = { x.s with term:=x.s.term+1 }∧y.term=y.s.term∧y.er=1)∧(e≠0→y.s=x.s):=by
 obtain ⟨q,bs,hd⟩:=h.du
 exact Jm hd.Ka.reads (by have:=hd.rd; rw [h.fi.cf] at this; exact this) h.sz h.ct x.j.s x.room x.term x.sh x.wr h.fi.ok.sh h.fi.sz h.tm h.t0 hm hk hn
end Dv
