/- part -/
import Derived.Test.YtkalnfkokkjliaaGreatDoorBA
import Derived.Test.YtkalnfkokkjliaaGreatDoorPB
import Derived.Test.YtkalnfkokkjliaaGreatDoorOB
import Derived.Test.YtkalnfkokkjliaaGreatDoorKA
import Derived.Test.YtkalnfkokkjliaaGreatDoorCA
set_option linter.all false
namespace Dv
open Go Go.Proofs
theorem L8 {n:Int} (h:isNum n=true) (h1:1≤n) (t:List Int):(bw n++t).getD 0 0≠0:=by
 rw [yR h]
 show (iM (7+1) n++t).getD 0 0≠0
 unfold iM
 split
 ·show n % 128+128≠0; omega
 ·show n≠0; omega
theorem rR {p:List Int} (h:1≤p.length∧p.length≤4000):cH p=bw p.length++(p++nB (gB 0 p)++[1]):=by
 unfold cH; rw [if_neg (by omega)]; simp only [List.append_assoc]
theorem vm {a b:List Int} (k:Nat):(a++b).getD (a.length+k) 0=b.getD k 0:=by
 simp only [List.getD]; rw [List.getElem?_append_right (by omega),Nat.add_sub_cancel_left]
theorem Gr (pre t p:List Int) (hpre:bB pre) (ht:bB t) (hp:bB p) (h:1≤p.length∧p.length≤4000):dw (pre++(cH p++t)) pre.length=(p,pre.length+(cH p).length,1):=by
 have hn:isNum (p.length:Int)=true:=by unfold isNum eV; exact decide_eq_true ⟨by omega,by omega⟩
 have hb:bB (pre++(cH p++t)):=hpre.cat ((lU hp).cat ht)
 have hl:=lV h
 have hne:=Ae hn
 have h0:(pre++(cH p++t)).getD pre.length 0≠0:=by
  rw [show pre.length=pre.length+0 from rfl,vm,rR h,List.append_assoc]
  exact L8 hn (by omega) _
 have hq:f_ (pre++(cH p++t)) pre.length=some ((p.length:Int),pre.length+(bw p.length).length):=by
  rw [rR h,List.append_assoc]
  exact oh pre _ _ hn
 have hlen:(pre++(cH p++t)).length=pre.length+((cH p).length+t.length):=by simp only [List.length_append]
 obtain ⟨_,_,h3⟩:=Gs hb (by omega) h0 hq
 have hd:p=((pre++(cH p++t)).drop (pre.length+(bw p.length).length)).take (p.length:Int).toNat:=by
  rw [← List.drop_drop,List.drop_left,rR h,List.append_assoc,List.drop_left,List.append_assoc,List.append_assoc,Int.toNat_natCast,List.take_left]
 obtain ⟨_,h4⟩:=h3 (by omega) (by omega) p hd
 rw [h4,if_neg]
 rw [List.drop_left,List.take_left]
 rintro (h5 | h5)
 ·omega
 ·exact h5 rfl
def frames (rs:List (List Int)):List Int:=rs.flatMap cH
theorem Jg {rs:List (List Int)} (h:∀ r∈rs,bB r):bB (frames rs):=fun c hc=>by
 obtain ⟨r,hr,hc⟩:=List.mem_flatMap.1 hc
 exact lU (h r hr) c hc
theorem tK:∀ {rs:List (List Int)},(∀ r∈rs,1≤r.length∧r.length≤4000)→rs.length≤(frames rs).length
 | [],_=>Nat.le_refl _
 | r::rs,h=>by
   have:=tK fun x hx=>h x (List.mem_cons_of_mem _ hx)
   have h2:=lV (h r (List.mem_cons_self ..))
   show rs.length+1≤(cH r++frames rs).length
   rw [List.length_append]; omega
theorem Br (t:List Int) (ht:bB t) (H:∀ pre,bB pre→(dw (pre++t) pre.length).2.2≠1):∀ (rs:List (List Int)) (pre:List Int) (f:Nat) (l:List (List Int)),bB pre→(∀ r∈rs,bB r∧1≤r.length∧r.length≤4000)→rs.length<f→
  vI (pre++(frames rs++t)) f l pre.length=(l++rs,pre.length+(frames rs).length)
 | [],pre,f+1,l,hp,_,_=>by
   unfold vI
   show (if (dw (pre++t) pre.length).2.2=1 then _ else _)=_
   rw [if_neg (H pre hp),List.append_nil]; rfl
 | r::rs,pre,f+1,l,hp,hr,hf=>by
   have h1:=hr r (List.mem_cons_self ..)
   have hfr:=Jg fun x hx=>(hr x (List.mem_cons_of_mem _ hx)).1
   have hg:=Gr pre (frames rs++t) r hp (hfr.cat ht) h1.1 h1.2
   have hx:pre++(frames (r::rs)++t)=pre++(cH r++(frames rs++t)):=by show pre++((cH r++frames rs)++t)=_; rw [List.append_assoc (cH r)]
   rw [hx]
   unfold vI
   rw [hg,if_pos rfl]
   have:=Br t ht H rs (pre++cH r) f (l++[r]) (hp.cat (lU h1.1)) (fun x hx=>hr x (List.mem_cons_of_mem _ hx)) (by simp only [List.length_cons] at hf; omega)
   rw [List.append_assoc,List.length_append,List.append_assoc] at this
   rw [this]
   show (_,_)=(_,pre.length+(cH r++frames rs).length)
   rw [List.length_append,Nat.add_assoc]; rfl
theorem Ja (pre:List Int) (m:Nat):(dw (pre++List.replicate m 0) pre.length).2.2≠1:=by
 unfold dw
 rw [if_neg (by rw [List.length_append]; omega)]
 by_cases hm:m=0
 ·subst hm
  rw [if_pos (.inl (by simp))]; show (0:Int)≠1; decide
 ·rw [if_pos (.inr (by rw [show pre.length=pre.length+0 from rfl,vm]; cases m with | zero=>exact absurd rfl hm | succ k=>rfl))]; show (0:Int)≠1; decide
def gu:Int→List (List Int)→List (List Int)
 | _,[]=>[]
 | a,b::bs=>(bw a++b)::gu (a+1) bs
theorem tv:∀ (bs:List (List Int)) (a:Int) (p:List Int),gu a (bs++[p])=gu a bs++[bw (a+bs.length)++p]
 | [],a,p=>by simp [gu]
 | b::bs,a,p=>by
   simp only [List.cons_append,gu,tv bs (a+1) p,List.length_cons]
   rw [show a+1+(bs.length:Int)=a+((bs.length+1:Nat):Int) by omega]
theorem wm:∀ (bs:List (List Int)) (a:Int),(∀ b∈bs,bB b)→∀ r∈gu a bs,bB r
 | [],_,_,r,hr=>by cases hr
 | b::bs,a,h,r,hr=>by
   rcases List.mem_cons.1 hr with rfl | hr
   ·exact (jx a).cat (h b (List.mem_cons_self ..))
   ·exact wm bs (a+1) (fun x hx=>h x (List.mem_cons_of_mem _ hx)) r hr
theorem qW {n:Int} (h:0≤n) (h2:n≤1000000000):isNum n=true:=by unfold isNum eV; exact decide_eq_true ⟨h,by omega⟩
theorem wP {a:Int} (h:isNum a=true) (b:List Int):f_ (bw a++b) 0=some (a,(bw a).length):=by
 have:=oh [] b a h
 simpa using this
theorem tL:∀ (bs:List (List Int)) (a:Int),0≤a→a+bs.length≤1000000000→(∀ b∈bs,1≤b.length)→vp (gu a bs) a=bs
 | [],_,_,_,_=>rfl
 | b::bs,a,h0,h1,hb=>by
   have hb1:=hb b (List.mem_cons_self ..)
   have hn:=wP (qW h0 (by simp only [List.length_cons] at h1; omega)) b
   show vp ((bw a++b)::gu (a+1) bs) a=_
   rw [wU,hn]
   dsimp only
   rw [if_neg (by omega),if_neg (by rw [List.length_append]; omega),List.drop_left,tL bs (a+1) (by omega) (by simp only [List.length_cons] at h1; omega) (fun x hx=>hb x (List.mem_cons_of_mem _ hx))]
theorem AW (bs:List (List Int)) (a:Int) (h0:0≤a) (h1:a+bs.length≤1000000000):EB (gu a bs) a=false:=by
 cases bs with
 | nil=>rfl
 | cons b bs=>
   have hn:=wP (qW h0 (by simp only [List.length_cons] at h1; omega)) b
   have he:Jm (bw a++b) a=true:=by unfold Jm; rw [hn]; exact decide_eq_true (Int.le_refl _)
   unfold EB
   show (_&&!(decide (AB a ((bw a++b)::gu (a+1) bs) 0≥0)))=false
   unfold AB
   rw [if_pos he]; simp
structure By (j:gP) (q:Option (List Int×Int)) (bs:List (List Int)):Prop where
 ok:vN j
 load:fJ j.l 0 (j.n / 4)=q
 cv:j.cv=Bt q
 cnt:j.cnt=eL q+bs.length
 lo:0≤eL q
 hi:j.cnt≤1000000000
 seg:qA j.l (2*(j.n / 4)) (j.n-2*(j.n / 4))=frames (gu (eL q) bs)++List.replicate (j.n-2*(j.n / 4)-j.us) 0
 us:j.us=(frames (gu (eL q) bs)).length
 rcs:∀ r∈gu (eL q) bs,1≤r.length∧r.length≤4000
 Hp:∀ b∈bs,bB b
 one:∀ b∈bs,1≤b.length
theorem H9 {l b:List Int} {a:Nat} (h:(l.drop a).take b.length=b):bF l a b=l:=by
 unfold bF
 rw [List.append_assoc]
 conv=>lhs; arg 2; arg 1; rw [← h]
 rw [← List.drop_drop,List.take_append_drop,List.take_append_drop]
theorem By.iI {j:gP} {q:Option (List Int×Int)} {bs:List (List Int)} (h:By j q bs):iI j.l (2*(j.n / 4)) (j.n-2*(j.n / 4))=(gu (eL q) bs,j.us):=by
 have hu:=h.ok.used
 have hr:∀ r∈gu (eL q) bs,bB r∧1≤r.length∧r.length≤4000:=fun r hr=>⟨wm bs _ h.Hp r hr,h.rcs r hr⟩
 have hle:=tK h.rcs
 have:=Br (List.replicate (j.n-2*(j.n / 4)-j.us) 0) (jf _) (fun pre _=>Ja pre _) (gu (eL q) bs) [] (j.n-2*(j.n / 4)+1) [] (fun c hc=>by cases hc) hr (by have:=h.us; omega)
 unfold Dv.iI
 rw [h.seg]
 simp only [List.nil_append,List.length_nil,Nat.zero_add] at this
 rw [this,h.us]
theorem By.ko {j:gP} {q:Option (List Int×Int)} {bs:List (List Int)} (h:By j q bs):ko j.l j.n=j.l:=by
 unfold Dv.ko
 rw [h.iI]
 apply H9
 have hs:=h.seg
 have hu:=h.ok.used
 unfold qA at hs
 have h2:(((j.l.drop (2*(j.n / 4))).take (j.n-2*(j.n / 4))).drop j.us).take (j.n-2*(j.n / 4)-j.us)=List.replicate (j.n-2*(j.n / 4)-j.us) 0:=by
  rw [hs,h.us,List.drop_left,List.take_of_length_le (by rw [List.length_replicate]; exact Nat.le_refl _)]
 rw [List.length_replicate,← List.drop_drop]
 rw [List.drop_take,List.take_take,Nat.min_self] at h2
 exact h2
theorem By.opn {j:gP} {q:Option (List Int×Int)} {bs:List (List Int)} (h:By j q bs) (s:Int):lZ j.l j.n=q∧qP j.l j.n=bs∧g_ j.l j.n s = { j with s:=IntKind.i64.wrap (s+1) }:=by
 have hQ:lZ j.l j.n=q:=by unfold lZ; rw [h.ko]; exact h.load
 have hR:yq j.l j.n=gu (eL q) bs:=by unfold yq; rw [h.iI]
 have hhi:=h.hi
 have Vq:=h.cnt
 have hO:qP j.l j.n=bs:=by unfold qP; rw [hQ,hR]; exact tL bs _ h.lo (by omega) h.one
 have hE:L6 j.l j.n=false:=by unfold L6; rw [hQ,hR]; exact AW bs _ h.lo (by omega)
 refine ⟨hQ,hO,?_⟩
 unfold g_
 rw [hE,if_neg (by decide),h.ko,hQ,hO,h.iI,← h.cnt,← h.cv]
end Dv
namespace Dv
open Go Go.Proofs
def nw2 (p0 p1:Option (List Int×Int)):Int×Int:=
 match p1 with
 | none=>(match p0 with
   | none=>(-1,-1)
   | some q=>if q.2 > -1 then (0,q.2) else (-1,-1))
 | some r=>if r.2>(match p0 with
   | none=>((-1,-1):Int×Int)
   | some q=>if q.2 > -1 then (0,q.2) else (-1,-1)).2 then (1,r.2) else (match p0 with
   | none=>(-1,-1)
   | some q=>if q.2 > -1 then (0,q.2) else (-1,-1))
theorem uO (l:List Int) (sz:Nat):mc l 0 sz 2=nw2 (iJ l 0 sz 0) (iJ l 0 sz 1):=rfl
theorem Ao {l l':List Int} {sz:Nat} (h:∀ k,k<2→eF l' 0 sz k=eF l 0 sz k):fJ l' 0 sz=fJ l 0 sz:=by
 have hp:∀ k,k<2→iJ l' 0 sz k=iJ l 0 sz k:=fun k hk=>by unfold iJ; rw [h k hk]
 have hn:mc l' 0 sz 2=mc l 0 sz 2:=by rw [uO,uO,hp 0 (by omega),hp 1 (by omega)]
 have hr:=uP l 0 sz 2
 unfold fJ
 rw [hn]
 split
 ·rfl
 ·exact hp _ (by omega)
theorem C_ {l b:List Int} {a k:Nat} (h:a≤l.length) (hk:k≤a):(bF l a b).drop k=bF (l.drop k) (a-k) b:=by
 unfold bF
 rw [List.append_assoc,List.drop_append_of_le_length (by rw [List.length_take]; omega),List.drop_take,List.append_assoc,List.drop_drop]
 rw [show k+(a-k+b.length)=a+b.length by omega]
theorem Lu {l b:List Int} {a k:Nat} (h:a≤l.length) (hk:k≤a):(bF l a b).take k=l.take k:=by
 unfold bF
 rw [List.append_assoc,List.take_append_of_le_length (by rw [List.length_take]; omega),List.take_take,Nat.min_eq_left hk]
theorem rK {l b:List Int} {a sz k:Nat} (h:a≤l.length) (hk:k*sz+sz≤a):eF (bF l a b) 0 sz k=eF l 0 sz k:=by
 unfold eF
 rw [C_ h (by omega),Lu (by rw [List.length_drop]; omega) (by omega)]
theorem xB {l b:List Int} {a sz k:Nat} (h:a+b.length≤l.length) (hk:a+b.length≤k*sz):eF (bF l a b) 0 sz k=eF l 0 sz k:=by
 unfold eF bF
 rw [List.drop_append,List.drop_eq_nil_of_le (by simp only [List.length_append,List.length_take]; omega),List.nil_append,List.drop_drop]
 congr 2
 simp only [List.length_append,List.length_take]; omega
theorem qz {l b:List Int} {a fr sz:Nat} (h:fr+sz≤l.length) (hf:fr≤a) (ha:a+b.length≤fr+sz):qA (bF l a b) fr sz=bF (qA l fr sz) (a-fr) b:=by
 unfold qA
 rw [C_ (by omega) hf]
 unfold bF
 rw [List.take_append,List.take_of_length_le (by simp only [List.length_append,List.length_take,List.length_drop]; omega),List.take_take,Nat.min_eq_left (by omega),List.drop_drop,List.drop_take,List.drop_drop]
 congr 2
 simp only [List.length_append,List.length_take,List.length_drop]; omega
theorem tE {fs b:List Int} {m:Nat} (h:b.length≤m):bF (fs++List.replicate m 0) fs.length b=(fs++b)++List.replicate (m-b.length) 0:=by
 unfold bF
 rw [List.take_left,← List.drop_drop,List.drop_left,List.drop_replicate]
theorem By.add {j:gP} {q:Option (List Int×Int)} {bs:List (List Int)} (h:By j q bs) {p:List Int} (hp:bB p) (hr:j.room p.length=true) (hc:j.cnt+1≤1000000000):By (j.add p) q (bs++[p]):=by
 have hfit:=gP.uA hr
 have qZ:1≤p.length∧1≤(bw j.cnt++p).length∧(bw j.cnt++p).length≤4000:=by
  unfold gP.room mS qI at hr
  rw [Bool.and_eq_true,decide_eq_true_eq,decide_eq_true_eq] at hr
  rw [List.length_append]; omega
 have hlen:=h.ok.len
 have hsz:=h.ok.size
 have Vq:=h.cnt
 have hlo:=h.lo
 have hw:IntKind.i64.wrap (j.cnt+1)=j.cnt+1:=aO (by omega) (by omega)
 have hfr:frames (gu (eL q) (bs++[p]))=frames (gu (eL q) bs)++eY j.cnt p:=by
  rw [tv,← Vq]; unfold frames; rw [List.flatMap_append]
  simp [eY]
 refine ⟨h.ok.add hp hr,?_,h.cv,?_,h.lo,?_,?_,?_,?_,?_,?_⟩
 ·show fJ (bF j.l (2*(j.n / 4)+j.us) (eY j.cnt p)) 0 (j.n / 4)=q
  rw [Ao (l:=j.l) fun k hk=>rK (by omega) (by have:k*(j.n / 4)≤1*(j.n / 4):=Nat.mul_le_mul_right _ (by omega); omega)]
  exact h.load
 ·show IntKind.i64.wrap (j.cnt+1)=_
  rw [hw,List.length_append,Vq]; simp only [List.length_cons,List.length_nil]; omega
 ·show IntKind.i64.wrap (j.cnt+1)≤_
  rw [hw]; exact hc
 ·show qA (bF j.l (2*(j.n / 4)+j.us) (eY j.cnt p)) (2*(j.n / 4)) (j.n-2*(j.n / 4))=_++List.replicate (j.n-2*(j.n / 4)-(j.us+(eY j.cnt p).length)) 0
  rw [qz (by omega) (by omega) (by omega),h.seg,Nat.add_sub_cancel_left,hfr,← Nat.sub_sub]
  conv=>lhs; arg 2; rw [h.us]
  exact tE (by omega)
 ·show j.us+(eY j.cnt p).length=_
  rw [hfr,List.length_append,h.us]
 ·rw [tv,← Vq]
  intro r yX
  rcases List.mem_append.1 yX with yX | yX
  ·exact h.rcs r yX
  ·rw [List.mem_singleton.1 yX]; exact qZ.2
 ·intro b hb
  rcases List.mem_append.1 hb with hb | hb
  ·exact h.Hp b hb
  ·rw [List.mem_singleton.1 hb]; exact hp
 ·intro b hb
  rcases List.mem_append.1 hb with hb | hb
  ·exact h.one b hb
  ·rw [List.mem_singleton.1 hb]; exact qZ.1
theorem DP {l:List Int} (hb:bB l) {sz k:Nat} {q:List Int×Int} (h:iJ l 0 sz k=some q):0≤q.2:=by
 have hs:∀ c∈eF l 0 sz k,0≤c∧c≤255:=fun c hc=>hb c (List.mem_of_mem_drop (List.mem_of_mem_take hc))
 have hg:=rj (eF l 0 sz k) 0
 unfold iJ at h
 split at h
 ·cases hq:f_ (dw (eF l 0 sz k) 0).1 0 with
  | none=>rw [hq] at h; cases h
  | some r=>
    rw [hq] at h; cases h
    exact (gv (fun c hc=>(hs c (hg.1 c hc)).1) (x:=r.1) (p':=r.2) hq).1
 ·cases h
theorem Mi {l eZ:List Int} {sz:Nat} {cv:Int} (hb:bB l) (hp:bB eZ) (hl:2*sz≤l.length) (hz:1≤sz) (hE:fm l 0 sz eZ cv=0) (hn:isNum cv=true):fJ (iY l 0 sz eZ cv) 0 sz=some (eZ,cv)∧(iY l 0 sz eZ cv).length=l.length:=by
 unfold fm at hE
 split at hE
 ·cases hE
 rename_i h1
 split at hE
 ·cases hE
 rename_i h2
 split at hE
 ·cases hE
 rename_i h3
 have hk:di l 0 sz<2:=by unfold di; split <;> omega
 have hks:di l 0 sz*sz≤1*sz:=Nat.mul_le_mul_right _ (by omega)
 have hlen:(bF l (di l 0 sz*sz) (List.replicate sz 0)).length=l.length:=dB (by rw [List.length_replicate]; omega)
 have mg:1≤(bw cv++eZ).length∧(bw cv++eZ).length≤4000:=by
  have:(gi eZ cv).length≠0:=fun e=>h3 (.inl e)
  unfold gi cH at this
  split at this
  ·exact absurd rfl this
  ·omega
 have yW:(gi eZ cv).length≤sz:=by omega
 have Qh:iY l 0 sz eZ cv=bF (bF l (di l 0 sz*sz) (List.replicate sz 0)) (di l 0 sz*sz) (gi eZ cv):=by unfold iY; rw [Nat.zero_add]
 have abN:eF (iY l 0 sz eZ cv) 0 sz (di l 0 sz)=gi eZ cv++List.replicate (sz-(gi eZ cv).length) 0:=by
  have h4:=qz (l:=bF l (di l 0 sz*sz) (List.replicate sz 0)) (b:=gi eZ cv) (a:=di l 0 sz*sz) (fr:=di l 0 sz*sz) (sz:=sz) (by omega) (Nat.le_refl _) (by omega)
  have h5:=qz (l:=l) (b:=List.replicate sz 0) (a:=di l 0 sz*sz) (fr:=di l 0 sz*sz) (sz:=sz) (by omega) (Nat.le_refl _) (by rw [List.length_replicate]; omega)
  rw [Qh]
  show (List.drop (0+di l 0 sz*sz) _).take sz=_
  rw [Nat.zero_add]
  show qA _ (di l 0 sz*sz) sz=_
  rw [h4,h5,Nat.sub_self]
  have h6:bF (qA l (di l 0 sz*sz) sz) 0 (List.replicate sz 0)=List.replicate sz 0:=by
   unfold bF
   rw [List.drop_eq_nil_of_le (by rw [uv (by omega),List.length_replicate]; omega)]; simp
  rw [h6]
  have:=tE (fs:=[]) (b:=gi eZ cv) (m:=sz) yW
  simpa using this
 have aap:∀ k,k<2→k≠di l 0 sz→eF (iY l 0 sz eZ cv) 0 sz k=eF l 0 sz k:=fun k hk2 hne=>by
  rw [Qh]
  by_cases hkk:k<di l 0 sz
  ·have hk0:k=0:=by omega
   have wJ:di l 0 sz=1:=by omega
   rw [wJ] at hlen
   rw [hk0,wJ]
   rw [rK (by omega) (by omega),rK (by omega) (by omega)]
  ·have hk0:di l 0 sz=0:=by omega
   have wJ:k=1:=by omega
   rw [hk0] at hlen
   rw [hk0,wJ]
   rw [xB (by omega) (by omega),xB (by rw [List.length_replicate]; omega) (by rw [List.length_replicate]; omega)]
 have hnew:iJ (iY l 0 sz eZ cv) 0 sz (di l 0 sz)=some (eZ,cv):=by
  have hg:=Gr [] (List.replicate (sz-(gi eZ cv).length) 0) (bw cv++eZ) (fun c hc=>by cases hc) (jf _) ((jx _).cat hp) mg
  simp only [List.nil_append,List.length_nil,Nat.zero_add] at hg
  unfold iJ
  rw [abN]
  unfold gi
  unfold gi at hg
  rw [hg,if_pos rfl,wP hn]
  show some (List.drop (bw cv).length (bw cv++eZ),cv)=_
  rw [List.drop_left]
 have hold:∀ k,k<2→k≠di l 0 sz→iJ (iY l 0 sz eZ cv) 0 sz k=iJ l 0 sz k:=fun k h4 h5=>by unfold iJ; rw [aap k h4 h5]
 have ad7:0≤cv:=by unfold isNum at hn; have:=of_decide_eq_true hn; omega
 have abR:=uP l 0 sz 2
 have Y2:∀ q,fJ l 0 sz=some q→q.2<cv:=fun q hq=>by
  rw [hq] at h2; unfold O0 at h2; simp at h2; exact h2
 refine ⟨?_,by rw [Qh,dB (by rw [hlen]; omega),hlen]⟩
 unfold fJ
 rcases Nat.lt_or_ge (di l 0 sz) 1 with hk0 | wJ
 ·have hk0:di l 0 sz=0:=by omega
  have hnw:(mc l 0 sz 2).1≠0:=fun e=>by unfold di at hk0; rw [if_pos e] at hk0; cases hk0
  rw [hk0] at hnew hold
  have yZ:=hold 1 (by omega) (by omega)
  have hQ:mc (iY l 0 sz eZ cv) 0 sz 2=(0,cv):=by
   rw [uO,hnew,yZ]
   have ha:cv > -1:=by omega
   unfold nw2
   cases hq:iJ l 0 sz 1 with
   | none=>simp only [if_pos ha]
   | some q=>
     have hq0:=DP hb hq
     have hn1:(mc l 0 sz 2).1=1:=by
      have:(mc l 0 sz 2).1 = -1∨(mc l 0 sz 2).1=1:=by omega
      rcases this with e | e
      ·exfalso
       rw [uO,hq] at e
       unfold nw2 at e
       cases hr:iJ l 0 sz 0 with
       | none=>rw [hr] at e; simp only [if_pos (show q.2 > -1 by omega)] at e; exact absurd e (by decide)
       | some r=>
         have Hi:=DP hb hr
         rw [hr] at e; simp only [if_pos (show r.2 > -1 by omega)] at e
         split at e
         ·exact absurd e (show (1:Int)≠-1 by decide)
         ·exact absurd e (show (0:Int)≠-1 by decide)
      ·exact e
     have:fJ l 0 sz=some q:=by unfold fJ; rw [hn1,if_neg (by decide)]; exact hq
     have:=Y2 q this
     simp only [if_pos ha,if_neg (show ¬ q.2>cv by omega)]
  rw [hQ,if_neg (show ¬ (0:Int)<0 by decide)]
  exact hnew
 ·have wJ:di l 0 sz=1:=by omega
  have hnw:(mc l 0 sz 2).1=0:=by unfold di at wJ; split at wJ; · assumption
                                 ·cases wJ
  rw [wJ] at hnew hold
  have h0':=hold 0 (by omega) (by omega)
  have aar:fJ l 0 sz=iJ l 0 sz 0:=by unfold fJ; rw [hnw,if_neg (by decide)]; rfl
  have hQ:mc (iY l 0 sz eZ cv) 0 sz 2=(1,cv):=by
   rw [uO,hnew,h0']
   unfold nw2
   cases hq:iJ l 0 sz 0 with
   | none=>simp only [if_pos (show cv > -1 by omega)]
   | some q=>
     have h7:=Y2 q (by rw [aar,hq])
     have hq0:=DP hb hq
     simp only [if_pos (show q.2 > -1 by omega),if_pos (show cv>q.2 by omega)]
  rw [hQ,if_neg (show ¬ (1:Int)<0 by decide)]
  exact hnew
theorem By.pack {j:gP} {q:Option (List Int×Int)} {bs:List (List Int)} (h:By j q bs) {eZ:List Int} (hp:bB eZ):j.pack eZ=j∨By (j.pack eZ) (some (eZ,j.cnt)) []:=by
 have hlen:=h.ok.len
 have hsz:=h.ok.size
 have hok:=h.ok.pack hp
 unfold gP.pack at *
 split
 ·exact .inl rfl
 rename_i hc
 right
 rw [if_neg hc] at hok
 have hE:fm j.l 0 (j.n / 4) eZ j.cnt=0:=Decidable.not_not.1 fun e=>hc (.inr e)
 have Vq:=h.cnt
 have hlo:=h.lo
 have hhi:=h.hi
 obtain ⟨h1,h2⟩:=Mi h.ok.Hp hp (by omega) (by omega) hE (qW (by omega) hhi)
 refine ⟨hok,?_,rfl,?_,?_,hhi,?_,rfl,?_,?_,?_⟩
 ·show fJ (ya j.n j.l eZ j.cnt) 0 (j.n / 4)=_
  unfold ya
  rw [Ao (l:=iY j.l 0 (j.n / 4) eZ j.cnt) fun k hk=>rK (by omega) (by have:k*(j.n / 4)≤1*(j.n / 4):=Nat.mul_le_mul_right _ (by omega); omega)]
  exact h1
 ·show j.cnt=j.cnt+((0:Nat):Int); omega
 ·show 0≤j.cnt; omega
 ·show qA (ya j.n j.l eZ j.cnt) (2*(j.n / 4)) (j.n-2*(j.n / 4))=[]++List.replicate (j.n-2*(j.n / 4)-0) 0
  unfold ya
  rw [qz (by omega) (Nat.le_refl _) (by rw [List.length_replicate]; omega),Nat.sub_self]
  unfold bF
  rw [List.drop_eq_nil_of_le (by rw [uv (by omega),List.length_replicate]; omega)]; simp
 ·intro r hr; cases hr
 ·intro r hr; cases hr
 ·intro r hr; cases hr
end Dv
namespace Dv
open Go Go.Proofs
theorem w8 {c:aF} {o:cB} (ho:fc o=true):∀ (bs:List (List Int)) (s:aa) {t:aa},w9 c s bs=some t→(aZ c t o).2=0→w9 c s (bs++[fh o])=some (aZ c t o).1
 | [],s,t,h,he=>by
   cases h
   show w9 c s [fh o]=_
   unfold w9
   rw [QV ho]
   dsimp only
   rw [if_pos he]; rfl
 | b::bs,s,t,h,he=>by
   rw [List.cons_append]
   unfold w9 at h ⊢
   cases hq:Et b with
   | none=>rw [hq] at h; cases h
   | some p=>
     rw [hq] at h
     dsimp only at h ⊢
     split at h
     ·rename_i h1
      rw [if_pos h1]
      exact w8 ho bs _ h he
     ·cases h
theorem zL {c:aF} {o:cB} (ho:fc o=true) {eZ:List Int} {bs:List (List Int)} {t:aa} (h:kN c eZ bs=some t) (he:(aZ c t o).2=0):kN c eZ (bs++[fh o])=some (aZ c t o).1:=by
 unfold kN at h ⊢
 split at h
 ·rename_i h1
  rw [if_pos h1]
  cases hg:vi c eZ with
  | none=>rw [hg] at h; cases h
  | some s=>rw [hg] at h; exact w8 ho bs s h he
 ·rename_i h1
  rw [if_neg h1]
  exact w8 ho bs _ h he
theorem WB {c:aF} {s:aa} {o:cB} (hr:bU c s) (h:(aZ c s o).2=0):fc o=true:=by
 cases hq:fc o with
 | true=>rfl
 | false=>
   unfold aZ Bq at h
   rw [if_neg (by rw [(d_ c s).2 hr]; decide),if_pos hq] at h
   cases h
structure Dur (x:aN) (q:Option (List Int×Int)) (bs:List (List Int)):Prop where
 F2:By x.j q bs
 rd:kN x.c (tB q) bs=some x.s
theorem LR {c:aF} {s:aa} (h:bU c s):kN c (jN s) []=some s:=by
 have hr:=(d_ c s).2 h
 obtain ⟨⟨h1,h2⟩,h3,h4,_⟩:=Fw hr
 unfold kN
 rw [if_pos (by omega),VE h1 h2 h3 hr]
 rfl
theorem Dur.fresh {x:aN} {q:Option (List Int×Int)} {bs:List (List Int)} (h:Dur x q bs) (hx:BW x) (o:cB):∃ q' bs',By (x.bH o) q' bs'∧kN x.c (tB q') bs'=some x.s:=by
 unfold aN.bH aN.EP
 split
 ·exact ⟨q,bs,h.F2,h.rd⟩
 split
 ·exact ⟨q,bs,h.F2,h.rd⟩
 ·rcases h.F2.pack (zR x.s) with e | e
  ·rw [e]; exact ⟨q,bs,h.F2,h.rd⟩
  ·exact ⟨_,_,e,LR hx.right⟩
theorem AR (x:aN) (o:cB):(x.bH o).cnt=x.j.cnt:=by
 unfold aN.bH aN.EP gP.pack
 split
 ·rfl
 split
 ·rfl
 split <;> rfl
theorem Dur.note {x:aN} {q:Option (List Int×Int)} {bs:List (List Int)} (h:Dur x q bs) (hx:BW x) (o:cB) (now:Int) (hc:x.j.cnt+1≤1000000000):∃ q' bs',Dur (x.bR o now) q' bs'∧(x.bR o now).j.cnt≤x.j.cnt+1:=by
 obtain ⟨q',bs',hj,hr⟩:=h.fresh hx o
 have Vq:=AR x o
 have hlo:0≤x.j.cnt:=by have:=h.F2.cnt; have:=h.F2.lo; omega
 unfold aN.bR
 by_cases he:x.dK o=0
 ·rw [if_pos he]
  obtain ⟨h1,h2,_⟩:=mm he
  refine ⟨q',bs'++[fh o],⟨hj.add (zQ o) h2 (by omega),?_⟩,?_⟩
  ·exact zL (WB hx.right h1) hr h1
  ·show IntKind.i64.wrap ((x.bH o).cnt+1)≤_
   rw [aO (by omega) (by omega)]; omega
 ·rw [if_neg he]
  exact ⟨q',bs',⟨hj,hr⟩,by show (x.bH o).cnt≤_; omega⟩
theorem By.sync {j:gP} {q:Option (List Int×Int)} {bs:List (List Int)} (h:By j q bs) (s:Int):By { j with s:=s } q bs:=⟨⟨h.ok.len,h.ok.size,h.ok.Hp,h.ok.used⟩,h.load,h.cv,h.cnt,h.lo,h.hi,h.seg,h.us,h.rcs,h.Hp,h.one⟩
theorem Zu {x:aN} (hx:BW x):x.dK bI=0∨x.dK bI=3:=by
 have hr:=(d_ x.c x.s).2 hx.right
 have ha:(aZ x.c x.s bI).2=0∨(aZ x.c x.s bI).2=3:=by
  rw [rF hr (by decide) (by decide) (by decide)]
  show (ey x.s).2=0∨(ey x.s).2=3
  unfold ey
  split
  ·exact .inr rfl
  ·exact .inl rfl
 unfold aN.dK
 split
 ·exact ha
 ·split
  ·exact .inl rfl
  ·exact .inr rfl
theorem Zt {x:aN} (hx:BW x) (h:x.dK bI=0):aZ x.c x.s bI=({ x.s with term:=x.s.term+1 },0):=by
 have hr:=(d_ x.c x.s).2 hx.right
 obtain ⟨h1,_⟩:=mm h
 rw [rF hr (by decide) (by decide) (by decide)] at h1 ⊢
 change (ey x.s).2=0 at h1
 show ey x.s=_
 unfold ey at h1 ⊢
 split at h1
 ·cases h1
 ·rename_i h2; rw [if_neg h2]
end Dv
