/- part -/
import Derived.Test.YtkalnfkokkjliaaGreatDoorQB
import Derived.Test.YtkalnfkokkjliaaGreatDoorCE
import Derived.Test.YtkalnfkokkjliaaGreatDoorQC
set_option linter.all false
namespace Dv
open Go Go.Proofs
theorem LW {p:List Int} (h:1≤(cH p).length):1≤p.length∧p.length≤4000:=by
 unfold cH at h
 split at h
 ·simp at h
 ·omega
theorem MP (pre p:List Int) (hpre:bB pre) (hp:bB p) (h:1≤p.length∧p.length≤4000) (m z:Nat) (hm:m<(cH p).length):(dw (pre++((cH p).take m++List.replicate z 0)) pre.length).2.2≠1:=by
 intro hw
 have hbF:bB ((cH p).take m):=fun c hc=>lU hp c (List.mem_of_mem_take hc)
 have hb:bB (pre++((cH p).take m++List.replicate z 0)):=hpre.cat (hbF.cat (jf _))
 obtain ⟨p',h1,h2,h3⟩:=Jb hb hw
 have h4:=(AM (fun c hc=>(hb c hc).1) hw).1
 rw [h1] at h4
 dsimp only at h4
 have h5:=LW (p:=p') (by omega)
 have hl':=lV h5
 have hl:=lV h
 rw [List.drop_left] at h2
 have CQ:(cH p').getD ((cH p').length-1) 0=1:=by
  have e:cH p'=(bw p'.length++(p'++nB (gB 0 p')))++[1]:=by rw [rR h5]; simp only [List.append_assoc]
  have el:(bw p'.length++(p'++nB (gB 0 p'))).length=(cH p').length-1:=by have:=congrArg List.length e; simp only [List.length_append,List.length_cons,List.length_nil] at this ⊢; omega
  rw [← el]
  conv=>lhs; arg 1; rw [e]
  have:=vm (a:=bw p'.length++(p'++nB (gB 0 p'))) (b:=[1]) 0
  simpa using this
 have hLm:(cH p').length≤m:=by
  refine Nat.le_of_not_lt fun hlt=>?_
  generalize (cH p').length=L' at *
  rw [h2] at CQ
  have e1:(((cH p).take m++List.replicate z 0).take L').getD (L'-1) 0=((cH p).take m++List.replicate z 0).getD (L'-1) 0:=by
   simp only [List.getD]; rw [List.getElem?_take_of_lt (by omega)]
  rw [e1] at CQ
  have e3:((cH p).take m).length=m:=by rw [List.length_take]; omega
  rw [show L'-1=((cH p).take m).length+(L'-1-m) by omega,vm] at CQ
  simp only [List.getD,List.getElem?_replicate] at CQ
  split at CQ <;> simp at CQ
 have abY:cH p'=(cH p).take (cH p').length:=by
  conv=>lhs; rw [h2]
  rw [List.take_append_of_le_length (by rw [List.length_take]; omega),List.take_take,Nat.min_eq_left hLm]
 have hsplit:cH p=cH p'++(cH p).drop (cH p').length:=by
  conv=>rhs; arg 1; rw [abY]
  rw [List.take_append_drop]
 have hn1:f_ (cH p) 0=some ((p.length:Int),(bw p.length).length):=by
  have:=oh [] (p++nB (gB 0 p)++[1]) p.length (qW (by omega) (by omega))
  rw [rR h]; simpa using this
 have hn2:f_ (cH p) 0=some ((p'.length:Int),(bw p'.length).length):=by
  have:=oh [] ((p'++nB (gB 0 p')++[1])++(cH p).drop (cH p').length) p'.length (qW (by omega) (by omega))
  rw [hsplit]
  conv=>lhs; arg 1; arg 1; rw [rR h5]
  simpa using this
 rw [hn1] at hn2
 simp only [Option.some.injEq,Prod.mk.injEq] at hn2
 have:p.length=p'.length:=by omega
 rw [← this] at hl'
 omega
structure Reads (l:List Int) (j:gP) (q:Option (List Int×Int)) (bs:List (List Int)):Prop where
 len:l.length=j.n
 Hp:bB l
 F2:By j q bs
 eZ:lZ l j.n=q
 ops:qP l j.n=bs
 jn:∀ s,g_ l j.n s = { j with s:=IntKind.i64.wrap (s+1) }
theorem By.reads {j:gP} {q:Option (List Int×Int)} {bs:List (List Int)} (h:By j q bs):Reads j.l j q bs:=⟨h.ok.len,h.ok.Hp,h,(h.opn 0).1,(h.opn 0).2.1,fun s=>(h.opn s).2.2⟩
theorem H_ {l x z:List Int} {a:Nat} (h:x.length≤z.length) (ha:a+z.length≤l.length):bF (bF l a x) a z=bF l a z:=by
 unfold bF
 have e:(l.take a++x++l.drop (a+x.length)).take a=l.take a:=by
  rw [List.append_assoc,List.take_append_of_le_length (by rw [List.length_take]; omega),List.take_take,Nat.min_self]
 have e2:(l.take a++x++l.drop (a+x.length)).drop (a+z.length)=l.drop (a+z.length):=by
  rw [List.drop_append,List.drop_eq_nil_of_le (by simp only [List.length_append,List.length_take]; omega),List.nil_append,List.drop_drop]
  congr 1
  simp only [List.length_append,List.length_take]; omega
 rw [e,e2]
theorem By.Lr {j:gP} {q:Option (List Int×Int)} {bs:List (List Int)} (h:By j q bs) {p:List Int} (hp:bB p) (hr:j.room p.length=true) (hc:j.cnt+1≤1000000000) (m:Nat) (hm:m≤(eY j.cnt p).length) :
  Reads (bF j.l (2*(j.n / 4)+j.us) ((eY j.cnt p).take m)) j q bs∨Reads (bF j.l (2*(j.n / 4)+j.us) ((eY j.cnt p).take m)) (j.add p) q (bs++[p]):=by
 have hfit:=gP.uA hr
 have hlen:=h.ok.len
 have hsz:=h.ok.size
 have Vq:=h.cnt
 have hhi:=h.hi
 by_cases hm2:m=(eY j.cnt p).length
 ·right
  have:=(h.add hp hr hc).reads
  rw [hm2,List.take_of_length_le (Nat.le_refl _)]
  exact this
 left
 have qZ:1≤(bw j.cnt++p).length∧(bw j.cnt++p).length≤4000:=by
  unfold gP.room mS qI at hr
  rw [Bool.and_eq_true,decide_eq_true_eq,decide_eq_true_eq] at hr
  rw [List.length_append]; omega
 have hbF:bB (eY j.cnt p):=lU ((jx _).cat hp)
 have hbT:bB ((eY j.cnt p).take m):=fun c hc=>hbF c (List.mem_of_mem_take hc)
 have htl:((eY j.cnt p).take m).length=m:=by rw [List.length_take]; omega
 have sQ:(bF j.l (2*(j.n / 4)+j.us) ((eY j.cnt p).take m)).length=j.n:=by rw [dB (by omega),hlen]
 have Qk:Dv.iI (bF j.l (2*(j.n / 4)+j.us) ((eY j.cnt p).take m)) (2*(j.n / 4)) (j.n-2*(j.n / 4))=(gu (eL q) bs,j.us):=by
  have yX:∀ r∈gu (eL q) bs,bB r∧1≤r.length∧r.length≤4000:=fun r hr=>⟨wm bs _ h.Hp r hr,h.rcs r hr⟩
  have hle:=tK h.rcs
  have RK:=h.us
  have hH:∀ pre,bB pre→(dw (pre++((eY j.cnt p).take m++List.replicate (j.n-2*(j.n / 4)-j.us-m) 0)) pre.length).2.2≠1:=fun pre hpre=>MP pre _ hpre ((jx _).cat hp) qZ m _ (by unfold eY at hm hm2; omega)
  have:=Br _ (hbT.cat (jf _)) hH (gu (eL q) bs) [] (j.n-2*(j.n / 4)+1) [] (fun c hc=>by cases hc) yX (by omega)
  unfold Dv.iI
  rw [qz (by omega) (by omega) (by omega),h.seg,Nat.add_sub_cancel_left]
  have e:bF (frames (gu (eL q) bs)++List.replicate (j.n-2*(j.n / 4)-j.us) 0) j.us ((eY j.cnt p).take m)=frames (gu (eL q) bs)++((eY j.cnt p).take m++List.replicate (j.n-2*(j.n / 4)-j.us-m) 0):=by
   conv=>lhs; arg 2; rw [h.us]
   rw [tE (by omega),htl,List.append_assoc]
  rw [e]
  simp only [List.nil_append,List.length_nil,Nat.zero_add] at this
  rw [this,← RK]
 have hL:Dv.ko (bF j.l (2*(j.n / 4)+j.us) ((eY j.cnt p).take m)) j.n=j.l:=by
  unfold Dv.ko
  rw [Qk]
  show bF (bF _ _ _) _ (List.replicate (j.n-2*(j.n / 4)-j.us) 0)=_
  rw [H_ (by rw [htl,List.length_replicate]; omega) (by rw [List.length_replicate]; omega)]
  have:=h.ko
  unfold Dv.ko at this
  rw [h.iI] at this
  exact this
 have hQ:lZ (bF j.l (2*(j.n / 4)+j.us) ((eY j.cnt p).take m)) j.n=q:=by unfold lZ; rw [hL]; exact h.load
 have hR:yq (bF j.l (2*(j.n / 4)+j.us) ((eY j.cnt p).take m)) j.n=gu (eL q) bs:=by unfold yq; rw [Qk]
 have hO:qP (bF j.l (2*(j.n / 4)+j.us) ((eY j.cnt p).take m)) j.n=bs:=by unfold qP; rw [hQ,hR]; exact tL bs _ h.lo (by omega) h.one
 have hE:L6 (bF j.l (2*(j.n / 4)+j.us) ((eY j.cnt p).take m)) j.n=false:=by unfold L6; rw [hQ,hR]; exact AW bs _ h.lo (by omega)
 refine ⟨sQ,jQ h.ok.Hp hbT,h,hQ,hO,fun s=>?_⟩
 unfold g_
 rw [hE,if_neg (by decide),hL,hQ,hO,Qk,← h.cnt,← h.cv]
end Dv
namespace Dv
open Go Go.Proofs
theorem ZK {p:Prop} [Decidable p] {a b:aa×Int} {t:Int} (ha:p→a.1.term=t) (hb:¬ p→b.1.term=t):(if p then a else b).1.term=t:=by
 split
 ·exact ha ‹_›
 ·exact hb ‹_›
theorem ZJ {p:Prop} [Decidable p] {a b:aa} {t:Int} (ha:a.term=t) (hb:b.term=t):(if p then a else b).term=t:=by
 split
 ·exact ha
 ·exact hb
theorem M_ {c:aF} {s:aa} {o:cB} (hk:o.kind≠21) (hr:1≤o.kind∧o.kind≤21):(bV c s o).1.term=s.term:=by
 unfold bV
 simp only [j3,k9,kU,iG,sY,RJ,pT,oI,kT,nP,kD,pF,vz,nh,iX,xM,nM,gX,eu,ki,gr]
 repeat' first | rfl | (exfalso; omega) | refine ZK (fun _=>?_) (fun _=>?_) | refine ZJ ?_ ?_
theorem Bp {c:aF} {s:aa} (h:bU c s) {o:cB} (hk:o.kind≠21):(aZ c s o).1.term=s.term:=by
 unfold aZ Bq
 rw [if_neg (by rw [(d_ c s).2 h]; decide)]
 split
 ·rfl
 rename_i h0
 have:=rU (o:=o) (by simpa using h0)
 split
 ·rfl
 split
 ·rfl
 exact M_ hk this
theorem oG {s:aa} {r:List dL} {up:Bool} {o:cB} : ∀ (l:List br) (i:Nat),lM s r up l i=some o→o.kind≠21
 | [],i,h=>by cases h
 | n::l,i,h=>by
   unfold lM at h
   split at h
   ·split at h
    ·rename_i p hp
     cases h
     unfold Fa at hp
     split at hp
     ·cases hp
     split at hp
     ·cases hp; show (8:Int)≠21; decide
     split at hp
     ·cases hp; show (19:Int)≠21; decide
     ·cases hp
    ·exact oG l (i+1) h
   ·exact oG l (i+1) h
theorem zn {s:aa} {r:List dL} {now:Int} {o:cB} : ∀ (l:List bQ) (k:Nat),sF s r now l k=some o→o.kind≠21
 | [],k,h=>by cases h
 | j::l,k,h=>by
   unfold sF at h
   split at h
   ·rename_i p hp
    cases h
    unfold Oi at hp
    split at hp
    ·cases hp
     unfold CX
     split
     ·show (10:Int)≠21; decide
     split
     ·show (15:Int)≠21; decide
     split
     ·show (if j.epoch<j.inc then (⟨13,(k:Int)+1,j.inc,0,0,0,0⟩:cB) else ⟨14,(k:Int)+1,0,0,0,0,0⟩).kind≠21
      split
      ·show (13:Int)≠21; decide
      ·show (14:Int)≠21; decide
     ·show (0:Int)≠21; decide
    ·cases hp
   ·exact zn l (k+1) h
theorem Jj {s:aa} {r:List dL} {now:Int} {o:cB} (h:nO s r now=some o):o.kind≠21:=by
 unfold nO at h
 split at h
 ·rename_i p hp; cases h; exact oG _ _ hp
 split at h
 ·rename_i p hp; cases h; exact oG _ _ hp
 ·exact zn _ _ h
theorem Ma {x:aN} {now:Int} {u:Option cB} {o:cB} (h:x.jH now (nO x.s (x.pY x.lines.length) now) (pQ x.c x.s now)=some o):o.kind≠21:=by
 unfold aN.jH at h
 split at h
 ·cases h; show (7:Int)≠21; decide
 split at h
 ·rename_i p hp; cases h; exact Jj hp
 ·have:=LX h
  unfold Ww at this
  have:=of_decide_eq_true this
  omega
structure gw (c:aF) (n k:Nat) (x:aN):Prop where
 fi:gQ c k x
 du:∃ q bs,Dur x q bs
 ct:x.j.cnt≤k
 tm:x.term≤x.s.term
 sz:x.j.n=n
 t0:0≤x.s.term∧x.s.term≤1000000
theorem gw.more {c:aF} {n k k':Nat} {x:aN} (h:gw c n k x) (hk:k≤k'):gw c n k' x:=⟨h.fi.more hk,h.du,by have:=h.ct; omega,h.tm,h.sz,h.t0⟩
theorem Ag (x:aN) (o:cB) (now:Int):(x.bR o now).j.n=x.j.n:=by
 have h1:(x.bH o).n=x.j.n:=by
  unfold aN.bH aN.EP
  split
  ·rfl
  split
  ·rfl
  ·exact gP.tC _ _
 unfold aN.bR
 split
 ·exact h1
 ·exact h1
theorem oU (x:aN) (o:cB) (now:Int):(x.bR o now).term=x.term:=by unfold aN.bR; split <;> rfl
theorem yS {x:aN} {o:cB} {now:Int} : (x.bR o now).s=if x.dK o=0 then (aZ x.c x.s o).1 else x.s:=by unfold aN.bR; split <;> rfl
theorem Cv {x:aN} (hx:BW x) {o:cB} (hk:o.kind≠21) (now:Int):(x.bR o now).s.term=x.s.term:=by
 rw [yS]; split
 ·exact Bp hx.right hk
 ·rfl
theorem gw.note {c:aF} {n k:Nat} {x:aN} (h:gw c n k x) (hk:k≤1000) {o:cB} (ho:o.kind≠21) {now:Int} (hn:0≤now∧now≤1000000):gw c n (k+1) (x.bR o now):=by
 obtain ⟨q,bs,hd⟩:=h.du
 have hc:=h.ct
 obtain ⟨q',bs',h1,h2⟩:=hd.note h.fi.ok o now (by omega)
 have ht:=Cv h.fi.ok ho now
 exact ⟨h.fi.note hk o hn,⟨q',bs',h1⟩,by omega,by rw [oU,ht]; exact h.tm,by rw [Ag]; exact h.sz,by rw [ht]; exact h.t0⟩
theorem SQ {c:aF} {n k:Nat} {x:aN} (h:gw c n k x) (hk:k≤1000) (o:cB) {now:Int} (hn:0≤now∧now≤1000000):∃ e y,bu Tryz.prog eB 43 [.ptr 0 0,tF o,.int now] (bT x) (.int e) (bT y)∧gw c n (k+1) y:=by
 refine ⟨_,_,bu.up (Wa x h.fi.ok h.fi.dn o now) gU,?_⟩
 unfold aN.doX
 split
 ·exact h.note hk (by omega) hn
 ·exact h.more (Nat.le_succ _)
theorem HA (x:aN) (q:Option dL) (now:Int) (l:ny):∀ m∈(lN x q now l).2.toList,m.term=x.s.term:=by
 unfold lN
 split
 ·intro m hm; cases hm
 ·split
  ·intro m hm; simp at hm; rw [hm]
  split
  ·intro m hm; cases hm
  ·intro m hm; simp at hm; rw [hm]
theorem zm (y:aN) (had:Int→Int) (now:Int):∀ j,∀ m∈(c_ y had now j).2,m.term=y.s.term
 | 0,m,h=>by cases h
 | j+1,m,h=>by
   change m∈(c_ y had now j).2++_ at h
   rcases List.mem_append.1 h with h | h
   ·exact zm y had now j m h
   ·rw [HA _ _ _ _ m h,(nW y had now j).s]
theorem gw.JX {c:aF} {n k:Nat} {y:aN} (h:gw c n k y) (had:Int→Int) (now:Int) (j:Nat):gw c n k (c_ y had now j).1:=by
 have ht:=nW y had now j
 obtain ⟨q,bs,hd⟩:=h.du
 exact ⟨h.fi.JX had now j,⟨q,bs,by rw [ht.j]; exact hd.F2,by rw [ht.c,ht.s]; exact hd.rd⟩,by rw [ht.j]; exact h.ct,by rw [ht.term,ht.s]; exact h.tm,by rw [ht.j]; exact h.sz,by rw [ht.s]; exact h.t0⟩
theorem PB {c:aF} {n k:Nat} {x:aN} (h:gw c n k x) (hk:k≤1000) {now:Int} (hn:0≤now∧now≤1000000):∃ o y ms,bu Tryz.prog eB 44 [.ptr 0 0,.int now] (bT x) (.dM [tF o,jI ms]) (bT y)∧gw c n (k+1) y∧y.s.term=x.s.term∧y.term=x.term∧ms.length≤6∧∀ m∈ms,m.term=x.s.term:=by
 have wI:=h.fi.ok.lines
 have ET:=h.fi.ok.right.len
 have hlj:=h.fi.ok.right.jobs
 have hA:gw c n (k+1) (x.lq now (nO x.s (x.pY x.lines.length) now) (pQ x.c x.s now))∧(x.lq now (nO x.s (x.pY x.lines.length) now) (pQ x.c x.s now)).s.term=x.s.term∧(x.lq now (nO x.s (x.pY x.lines.length) now) (pQ x.c x.s now)).term=x.term:=by
  unfold aN.lq
  split
  ·rename_i o ho
   have hk2:=Ma (u:=none) ho
   exact ⟨h.note hk hk2 hn,Cv h.fi.ok hk2 now,oU _ _ _⟩
  ·exact ⟨h.more (Nat.le_succ _),rfl,rfl⟩
 obtain ⟨hA,hAt,hAu⟩:=hA
 have hT:=Wg x h.fi.ok h.fi.dn now hn h.fi.hr (nO x.s (x.pY x.lines.length) now) (pQ x.c x.s now) (BN x.s _ now (by omega) (by omega)) (OI x.c x.s h.fi.ok.right now hn) (fun _=>0) (fun i hi=>by
  have hr:=hA.fi.ok.right
  have ad4:=hr.jobs
  refine L5 _ _ hr _ i (by rw [← hA.fi.ok.lines]; exact hi) _ _ _ _ (fun j hj=>?_)
  exact QN _ (by omega) _ _ _ _ hA.fi.ok.sh hA.fi.sz (fun e he=>(hr.num e he).epoch.1) j hj)
 refine ⟨_,_,_,hT,hA.JX _ now x.lines.length,?_,?_,?_,fun m hm=>?_⟩
 ·rw [(nW _ _ _ _).s]; exact hAt
 ·rw [(nW _ _ _ _).term]; exact hAu
 ·have:=vX (x.lq now (nO x.s (x.pY x.lines.length) now) (pQ x.c x.s now)) (fun _=>0) now x.lines.length; omega
 ·rw [zm _ _ _ _ m hm]; exact hAt
theorem gw.aay {c:aF} {n k:Nat} {x:aN} (h:gw c n k x) (m:dL) {now:Int} (hn:0≤now∧now≤1000000):gw c n k (x.kP m now)∧(x.kP m now).s=x.s∧(x.kP m now).term=x.term:=by
 obtain ⟨h1,h2,h3⟩:=h.fi.aay m hn
 obtain ⟨q,bs,hd⟩:=h.du
 have e1:(x.kP m now).j=x.j:=by unfold aN.kP; split <;> rfl
 have e2:(x.kP m now).c=x.c:=by unfold aN.kP; split <;> rfl
 have e3:(x.kP m now).term=x.term:=by unfold aN.kP; split <;> rfl
 exact ⟨⟨h1,⟨q,bs,by rw [e1]; exact hd.F2,by rw [e2,h2]; exact hd.rd⟩,by rw [e1]; exact h.ct,by rw [e3,h2]; exact h.tm,by rw [e1]; exact h.sz,by rw [h2]; exact h.t0⟩,h2,e3⟩
theorem F4 {sh:List lz} (hl:sh.length=25) (h:∀ i,i<25→sh.getD i iB=iB) (jobs:List bQ):∀ k,∀ i,i<25→(jV jobs sh k).getD i iB=iB
 | 0,i,hi=>h i hi
 | k+1,i,hi=>by
   have ih:=F4 hl h jobs k
   show (Aw (jV jobs sh k) k (jobs.getD k az)).getD i iB=iB
   unfold Aw
   split
   ·exact R5 ih _ i hi
   split
   ·by_cases hk:k+1<25
    ·rw [ih _ hk,KY]; exact R5 ih _ i hi
    ·rw [List.set_eq_of_length_le (by rw [o_]; omega)]; exact ih i hi
   ·exact ih i hi
theorem Iu {c:aF} (h:gH c=true) {n:Nat} (hn:64≤n∧n≤65536) (room:Int):gw c n 1 (Nf c n 0 room 0 (List.replicate 25 iB) 0 0):=by
 have h0:gw c n 0 (nQ c n 0 room 0 (List.replicate 25 iB) 0 0):=by
  have hz:(dN c).term=0:=by unfold dN; rw [if_pos h]
  have hok:=EE h hn 0 room 0 (List.replicate 25 iB) (by rw [List.length_replicate]) 0 0
  refine ⟨⟨hok,rfl,rfl,?_,?_,⟨Int.le_refl _,Int.le_refl _⟩⟩,⟨none,[],⟨hok.jn,An _ _ _ (by show 0+2*(n / 4)≤n; omega),rfl,rfl,Int.le_refl _,by show (0:Int)≤_; omega,?_,rfl,fun r hr=>(by cases hr),fun r hr=>(by cases hr),fun r hr=>(by cases hr)⟩,rfl⟩,Int.le_refl _,by show (0:Int)≤(dN c).term; omega,rfl,by show 0≤(dN c).term∧(dN c).term≤1000000; omega⟩
  ·intro l hl
   change l∈List.replicate _ (Ip 0) at hl
   rw [List.eq_of_mem_replicate hl]
   exact ⟨Int.le_refl _,by show (0:Int)≤_; omega⟩
  ·intro i hi
   show (List.replicate 25 iB).getD i iB=iB
   rw [List.getD,List.getElem?_replicate,if_pos hi]
   rfl
  ·show qA (List.replicate n 0) (2*(n / 4)) (n-2*(n / 4))=[]++List.replicate (n-2*(n / 4)-0) 0
   unfold qA
   rw [List.drop_replicate,List.take_replicate,Nat.min_self]; rfl
 obtain ⟨q,bs,hd⟩:=h0.du
 have hE:=Je h hn 0 room 0 (List.replicate 25 iB) 0 0
 obtain ⟨q',bs',h1,h2⟩:=hd.note h0.fi.ok bI 0 (by show (0:Int)+1≤_; omega)
 have hs:((nQ c n 0 room 0 (List.replicate 25 iB) 0 0).bR bI 0).s = { dN c with term:=1 }:=by
  rw [yS,if_pos hE]; show (aZ c (dN c) bI).1=_; rw [zl h]
 have ht:(Nf c n 0 room 0 (List.replicate 25 iB) 0 0).term=1:=by
  show (if _>_ then _ else _)=_
  rw [oU,hs]
  exact if_pos (show (1:Int)>0 by decide)
 refine ⟨Ji h hn room,⟨q',bs',h1.F2,h1.rd⟩,?_,?_,?_,?_⟩
 ·show ((nQ c n 0 room 0 (List.replicate 25 iB) 0 0).bR bI 0).j.cnt≤_
  have:(nQ c n 0 room 0 (List.replicate 25 iB) 0 0).j.cnt=0:=rfl
  omega
 ·rw [ht]; show (1:Int)≤((nQ c n 0 room 0 (List.replicate 25 iB) 0 0).bR bI 0).s.term; rw [hs]; exact Int.le_refl _
 ·show ((nQ c n 0 room 0 (List.replicate 25 iB) 0 0).bR bI 0).j.n=n
  rw [Ag]; rfl
 ·show 0≤((nQ c n 0 room 0 (List.replicate 25 iB) 0 0).bR bI 0).s.term∧((nQ c n 0 room 0 (List.replicate 25 iB) 0 0).bR bI 0).s.term≤1000000
  rw [hs]; exact ⟨by show (0:Int)≤1; decide,by show (1:Int)≤1000000; decide⟩
theorem mB {c:aF} {n k:Nat} {l:List Int} {j:gP} {q:Option (List Int×Int)} {bs:List (List Int)} {t:aa} (hR:Reads l j q bs) (hrd:kN c (tB q) bs=some t) (hjn:j.n=n) (hct:j.cnt≤k) (s room term:Int) (sh:List lz) (wr:Int) (hs:sh.length=25) (hz:∀ i,i<25→sh.getD i iB=iB) (II:term≤t.term) (ht0:0≤t.term∧t.term≤1000000) (hm:gH c=true) (hk:k≤1001) {now:Int} (hn:0≤now∧now≤1000000) :
  ∃ e y,bu Tryz.prog eB 37 [fN c,.ptr 0 0,.ptr 2 0,.int now] (cU l s++iu room term sh wr) (.dM [if e=0 then .ptr 3 0 else sL,.int e]) (if e=0 then rD y else cU y.j.l y.j.s++iu y.room y.term y.sh y.wr)∧
  gw c n (k+1) y∧(e=0∨e=3)∧(e=0→aZ c t bI=({ t with term:=t.term+1 },0)∧y.s = { t with term:=t.term+1 }∧y.term=y.s.term∧y.ew=1)∧(e≠0→y.s=t):=by
 have hsz:=hR.F2.ok.size
 have hB:=Ru c hm j.n hsz l hR.len hR.Hp s room term sh hs wr now hn
 have hX:BW (fL c (g_ l j.n s) room term sh wr now t):=GR (xF hm hrd) (Kf _ hsz hR.len hR.Hp) hs
 have hF:gQ c 0 (fL c (g_ l j.n s) room term sh wr now t):=⟨hX,rfl,rfl,fun l hl=>by
  change l∈List.replicate _ (Ip now) at hl
  rw [List.eq_of_mem_replicate hl]; exact hn,hz,⟨Int.le_refl _,Int.le_refl _⟩⟩
 have hD:Dur (fL c (g_ l j.n s) room term sh wr now t) q bs:=⟨by show By (g_ l j.n s) q bs; rw [hR.jn]; exact hR.F2.sync _,hrd⟩
 have Vq:(fL c (g_ l j.n s) room term sh wr now t).j.cnt=j.cnt:=by show (g_ l j.n s).cnt=_; rw [hR.jn]
 have adv:(fL c (g_ l j.n s) room term sh wr now t).j.n=n:=by show (g_ l j.n s).n=n; rw [OU]; exact hjn
 have hxs:(fL c (g_ l j.n s) room term sh wr now t).s=t:=rfl
 have hxt:(fL c (g_ l j.n s) room term sh wr now t).term=term:=rfl
 have hxo:(fL c (g_ l j.n s) room term sh wr now t).ew=0:=rfl
 have hst:iu room term sh wr=iu (fL c (g_ l j.n s) room term sh wr now t).room (fL c (g_ l j.n s) room term sh wr now t).term (fL c (g_ l j.n s) room term sh wr now t).sh (fL c (g_ l j.n s) room term sh wr now t).wr:=rfl
 unfold K6 at hB
 rw [hR.eZ,hR.ops,hrd] at hB
 dsimp only at hB
 generalize fL c (g_ l j.n s) room term sh wr now t=X at *
 have hN:=hF.note (by omega) bI hn
 obtain ⟨q',bs',hd2,Gk⟩:=hD.note hX bI now (by omega)
 have hc3:(X.bR bI now).j.cnt≤((k+1:Nat):Int):=by omega
 have hn3:(X.bR bI now).j.n=n:=by rw [Ag]; exact adv
 have hut:=oU X bI now
 have hxc:=hF.cf
 rcases Zu hX with he | he
 ·rw [if_pos he] at hB
  have hS:=Zt hX he
  rw [hxc,hxs] at hS
  have Ve:(X.bR bI now).s = { t with term:=t.term+1 }:=by rw [yS,if_pos he,hxc,hxs,hS]
  have hno:(X.bR bI now).ew=1:=by unfold aN.bR; rw [if_pos he]; show IntKind.i64.wrap (X.ew+1)=1; rw [hxo]; rfl
  have hle:t.term+1≤1000000:=by
   have:=(mm he).1
   rw [rF ((d_ _ _).2 hX.right) (by decide) (by decide) (by decide)] at this
   change (ey X.s).2=0 at this
   unfold ey at this
   rw [hxs] at this
   split at this
   ·cases this
   ·omega
  have hfd:(X.bR bI now).K8.term=t.term+1:=by
   show (if (X.bR bI now).s.term>(X.bR bI now).term then (X.bR bI now).s.term else (X.bR bI now).term)=_
   rw [hut,hxt,Ve,if_pos (show t.term+1>term by omega)]
  refine ⟨0,_,bu.up hB gU,⟨⟨⟨hN.ok.right,hN.ok.jn,?_,hN.ok.lines⟩,hN.cf,hN.dn,hN.hr,F4 hN.ok.sh hN.sz _ _,⟨hN.nt.1,by show (X.bR bI now).ew≤_; rw [hno]; omega⟩⟩,⟨q',bs',hd2.F2,hd2.rd⟩,hc3,?_,hn3,?_⟩,.inl rfl,fun _=>⟨hS,Ve,?_,hno⟩,fun h=>absurd rfl h⟩
  ·show (jV _ _ _).length=25
   rw [o_]; exact hN.ok.sh
  ·rw [hfd]; show _≤(X.bR bI now).s.term; rw [Ve]; exact Int.le_refl _
  ·show 0≤(X.bR bI now).s.term∧(X.bR bI now).s.term≤1000000; rw [Ve]; exact ⟨by show 0≤t.term+1; omega,hle⟩
  ·rw [hfd]; show _=(X.bR bI now).s.term; rw [Ve]
 ·rw [if_neg (by rw [he]; decide),he] at hB
  have hE:¬ X.dK bI=0:=by rw [he]; decide
  have Ve:(X.bR bI now).s=t:=by rw [yS,if_neg hE]; exact hxs
  have hYs:iu (X.bR bI now).room (X.bR bI now).term (X.bR bI now).sh (X.bR bI now).wr=iu X.room X.term X.sh X.wr:=by unfold aN.bR; rw [if_neg hE]
  refine ⟨3,_,?_,⟨hN.more (by omega),⟨q',bs',hd2⟩,hc3,by rw [hut,Ve,hxt]; exact II,hn3,by rw [Ve]; exact ht0⟩,.inr rfl,fun h=>(by cases h),fun _=>Ve⟩
  rw [if_neg (by decide),if_neg (by decide),hYs,← hst]
  exact bu.up hB gU
theorem Mn {c:aF} {n k:Nat} {x:aN} (h:gw c n k x) (hm:gH c=true) (hk:k≤1001) {now:Int} (hn:0≤now∧now≤1000000):∃ e y,bu Tryz.prog eB 37 [fN c,.ptr 0 0,.ptr 2 0,.int now] (cU x.j.l x.j.s++iu x.room x.term x.sh x.wr) (.dM [if e=0 then .ptr 3 0 else sL,.int e]) (if e=0 then rD y else cU y.j.l y.j.s++iu y.room y.term y.sh y.wr)∧
  gw c n (k+1) y∧(e=0∨e=3)∧(e=0→aZ c x.s bI=({ x.s with term:=x.s.term+1 },0)∧y.s = { x.s with term:=x.s.term+1 }∧y.term=y.s.term∧y.ew=1)∧(e≠0→y.s=x.s):=by
 obtain ⟨q,bs,hd⟩:=h.du
 exact mB hd.F2.reads (by have:=hd.rd; rw [h.fi.cf] at this; exact this) h.sz h.ct x.j.s x.room x.term x.sh x.wr h.fi.ok.sh h.fi.sz h.tm h.t0 hm hk hn
theorem Mm {c:aF} {n k:Nat} {x:aN} (h:gw c n k x) (hm:gH c=true) (hk:k≤1000) (o:cB) (keep:Int) {now:Int} (hn:0≤now∧now≤1000000):∃ t e y,(t=x.s∨(x.VU o=0∧t=(aZ c x.s o).1))∧
  bu Tryz.prog eB 37 [fN c,.ptr 0 0,.ptr 2 0,.int now] (cU (x.nU o keep).j.l (x.nU o keep).j.s++iu x.room x.term x.sh x.wr) (.dM [if e=0 then .ptr 3 0 else sL,.int e]) (if e=0 then rD y else cU y.j.l y.j.s++iu y.room y.term y.sh y.wr)∧
  gw c n (k+1+1) y∧(e=0∨e=3)∧(e=0→aZ c t bI=({ t with term:=t.term+1 },0)∧y.s = { t with term:=t.term+1 }∧y.term=y.s.term∧y.ew=1)∧(e≠0→y.s=t)∧(x.nU o keep).j.l.length=n:=by
 obtain ⟨q,bs,hd⟩:=h.du
 have hcf:=h.fi.cf
 have hct:=h.ct
 have hx:=h.fi.ok
 have Hi:=hd.rd
 rw [hcf] at Hi
 unfold aN.nU aN.VU
 by_cases hkd:1≤o.kind∧o.kind≤6
 case neg=>
  simp only [if_neg hkd]
  obtain ⟨e,y,h1,h2,h3,h4,h5⟩:=mB hd.F2.reads Hi h.sz (show x.j.cnt≤((k+1:Nat):Int) by omega) x.j.s x.room x.term x.sh x.wr hx.sh h.fi.sz h.tm h.t0 hm (show k+1≤1001 by omega) hn
  exact ⟨x.s,e,y,.inl rfl,h1,h2,h3,h4,h5,by rw [hx.jn.len,h.sz]⟩
 simp only [if_pos hkd]
 obtain ⟨q1,bs1,hj1,IN⟩:=hd.fresh hx o
 have Vq:=AR x o
 have hjn:(x.bH o).n=n:=by rw [← h.sz]; unfold aN.bH aN.EP; split; · rfl
                           split; · rfl
                           ·exact gP.tC _ _
 rw [hcf] at IN
 have ht6:o.kind≠21:=by omega
 by_cases he:x.dK o=0
 case neg=>
  simp only [if_neg he]
  obtain ⟨e,y,h1,h2,h3,h4,h5⟩:=mB hj1.reads IN hjn (show (x.bH o).cnt≤((k+1:Nat):Int) by omega) (x.bH o).s x.room x.term x.sh x.wr hx.sh h.fi.sz h.tm h.t0 hm (show k+1≤1001 by omega) hn
  exact ⟨x.s,e,y,.inl rfl,h1,h2,h3,h4,h5,by rw [hj1.ok.len,hjn]⟩
 simp only [if_pos he]
 obtain ⟨g1,g2,_⟩:=mm he
 have hlo:0≤x.j.cnt:=by have:=hd.F2.cnt; have:=hd.F2.lo; omega
 have hkl:gC keep (eY (x.bH o).cnt (fh o))≤(eY (x.bH o).cnt (fh o)).length:=by unfold gC; omega
 unfold gP.Lr
 dsimp only
 rcases hj1.Lr (zQ o) g2 (by omega) _ hkl with hR | hR
 ·obtain ⟨e,y,h1,h2,h3,h4,h5⟩:=mB hR IN hjn (show (x.bH o).cnt≤((k+1:Nat):Int) by omega) (x.bH o).s x.room x.term x.sh x.wr hx.sh h.fi.sz h.tm h.t0 hm (show k+1≤1001 by omega) hn
  exact ⟨x.s,e,y,.inl rfl,h1,h2,h3,h4,h5,by rw [hR.len,hjn]⟩
 ·have hap:=Bp hx.right ht6
  rw [hcf] at hap g1
  have yX:=zL (WB (by rw [← hcf]; exact hx.right) g1) IN g1
  have II:=h.tm
  have ht0:=h.t0
  obtain ⟨e,y,h1,h2,h3,h4,h5⟩:=mB hR yX hjn (show ((x.bH o).add (fh o)).cnt≤((k+1:Nat):Int) by show IntKind.i64.wrap ((x.bH o).cnt+1)≤_; rw [aO (by omega) (by omega)]; omega) (x.bH o).s x.room x.term x.sh x.wr hx.sh h.fi.sz (by rw [hap]; exact II) (by rw [hap]; exact ht0) hm (show k+1≤1001 by omega) hn
  exact ⟨_,e,y,.inr ⟨he,rfl⟩,h1,h2,h3,h4,h5,by rw [hR.len]; exact hjn⟩
end Dv
