/- part -/
import Derived.Test.YtkalnfkokkjliaaGreatDoorBA
import Derived.Test.YtkalnfkokkjliaaGreatDoorPB
import Derived.Test.YtkalnfkokkjliaaGreatDoorOB
import Derived.Test.YtkalnfkokkjliaaGreatDoorKA
import Derived.Test.YtkalnfkokkjliaaGreatDoorCA
set_option linter.all false
namespace Dv
open Go Go.Proofs
theorem LM {n:Int} (h:isNum n=true) (h1:1≤n) (t:List Int):(bz n++t).getD 0 0≠0:=by
 rw [yu h]
 show (iF (7+1) n++t).getD 0 0≠0
 unfold iF
 split
 ·show n % 128+128≠0; omega
 ·show n≠0; omega
theorem Dy {p:List Int} (h:1≤p.length∧p.length≤4000):fc p=bz p.length++(p++rZ (jk 0 p)++[1]):=by
 unfold fc; rw [if_neg (by omega)]; simp only [List.append_assoc]
theorem Ge {a b:List Int} (k:Nat):(a++b).getD (a.length+k) 0=b.getD k 0:=by
 simp only [List.getD]; rw [List.getElem?_append_right (by omega),Nat.add_sub_cancel_left]
theorem Gb (pre t p:List Int) (hpre:bI pre) (ht:bI t) (hp:bI p) (h:1≤p.length∧p.length≤4000):dL (pre++(fc p++t)) pre.length=(p,pre.length+(fc p).length,1):=by
 have hn:isNum (p.length:Int)=true:=by unfold isNum eT; exact decide_eq_true ⟨by omega,by omega⟩
 have hb:bI (pre++(fc p++t)):=hpre.cat ((qD hp).cat ht)
 have hl:=qE h
 have hne:=zH hn
 have h0:(pre++(fc p++t)).getD pre.length 0≠0:=by
  rw [show pre.length=pre.length+0 from rfl,Ge,Dy h,List.append_assoc]
  exact LM hn (by omega) _
 have hq:gq (pre++(fc p++t)) pre.length=some ((p.length:Int),pre.length+(bz p.length).length):=by
  rw [Dy h,List.append_assoc]
  exact uS pre _ _ hn
 have hlen:(pre++(fc p++t)).length=pre.length+((fc p).length+t.length):=by simp only [List.length_append]
 obtain ⟨_,_,h3⟩:=QA hb (by omega) h0 hq
 have hd:p=((pre++(fc p++t)).drop (pre.length+(bz p.length).length)).take (p.length:Int).toNat:=by
  rw [← List.drop_drop,List.drop_left,Dy h,List.append_assoc,List.drop_left,List.append_assoc,List.append_assoc,Int.toNat_natCast,List.take_left]
 obtain ⟨_,h4⟩:=h3 (by omega) (by omega) p hd
 rw [h4,if_neg]
 rw [List.drop_left,List.take_left]
 rintro (h5 | h5)
 ·omega
 ·exact h5 rfl
def frames (rs:List (List Int)):List Int:=rs.flatMap fc
theorem IM {rs:List (List Int)} (h:∀ r∈rs,bI r):bI (frames rs):=fun c hc=>by
 obtain ⟨r,hr,hc⟩:=List.mem_flatMap.1 hc
 exact qD (h r hr) c hc
theorem Aq:∀ {rs:List (List Int)},(∀ r∈rs,1≤r.length∧r.length≤4000)→rs.length≤(frames rs).length
 | [],_=>Nat.le_refl _
 | r::rs,h=>by
   have:=Aq fun x hx=>h x (List.mem_cons_of_mem _ hx)
   have h2:=qE (h r (List.mem_cons_self ..))
   show rs.length+1≤(fc r++frames rs).length
   rw [List.length_append]; omega
theorem GK (t:List Int) (ht:bI t) (H:∀ pre,bI pre→(dL (pre++t) pre.length).2.2≠1):∀ (rs:List (List Int)) (pre:List Int) (f:Nat) (l:List (List Int)),bI pre→(∀ r∈rs,bI r∧1≤r.length∧r.length≤4000)→rs.length<f→
  vi (pre++(frames rs++t)) f l pre.length=(l++rs,pre.length+(frames rs).length)
 | [],pre,f+1,l,hp,_,_=>by
   unfold vi
   show (if (dL (pre++t) pre.length).2.2=1 then _ else _)=_
   rw [if_neg (H pre hp),List.append_nil]; rfl
 | r::rs,pre,f+1,l,hp,hr,hf=>by
   have h1:=hr r (List.mem_cons_self ..)
   have hfr:=IM fun x hx=>(hr x (List.mem_cons_of_mem _ hx)).1
   have hg:=Gb pre (frames rs++t) r hp (hfr.cat ht) h1.1 h1.2
   have hx:pre++(frames (r::rs)++t)=pre++(fc r++(frames rs++t)):=by show pre++((fc r++frames rs)++t)=_; rw [List.append_assoc (fc r)]
   rw [hx]
   unfold vi
   rw [hg,if_pos rfl]
   have:=GK t ht H rs (pre++fc r) f (l++[r]) (hp.cat (qD h1.1)) (fun x hx=>hr x (List.mem_cons_of_mem _ hx)) (by simp only [List.length_cons] at hf; omega)
   rw [List.append_assoc,List.length_append,List.append_assoc] at this
   rw [this]
   show (_,_)=(_,pre.length+(fc r++frames rs).length)
   rw [List.length_append,Nat.add_assoc]; rfl
theorem IF (pre:List Int) (m:Nat):(dL (pre++List.replicate m 0) pre.length).2.2≠1:=by
 unfold dL
 rw [if_neg (by rw [List.length_append]; omega)]
 by_cases hm:m=0
 ·subst hm
  rw [if_pos (.inl (by simp))]; show (0:Int)≠1; decide
 ·rw [if_pos (.inr (by rw [show pre.length=pre.length+0 from rfl,Ge]; cases m with | zero=>exact absurd rfl hm | succ k=>rfl))]; show (0:Int)≠1; decide
def jd:Int→List (List Int)→List (List Int)
 | _,[]=>[]
 | a,b::bs=>(bz a++b)::jd (a+1) bs
theorem s8:∀ (bs:List (List Int)) (a:Int) (p:List Int),jd a (bs++[p])=jd a bs++[bz (a+bs.length)++p]
 | [],a,p=>by simp [jd]
 | b::bs,a,p=>by
   simp only [List.cons_append,jd,s8 bs (a+1) p,List.length_cons]
   rw [show a+1+(bs.length:Int)=a+((bs.length+1:Nat):Int) by omega]
theorem BY:∀ (bs:List (List Int)) (a:Int),(∀ b∈bs,bI b)→∀ r∈jd a bs,bI r
 | [],_,_,r,hr=>by cases hr
 | b::bs,a,h,r,hr=>by
   rcases List.mem_cons.1 hr with rfl | hr
   ·exact (lW a).cat (h b (List.mem_cons_self ..))
   ·exact BY bs (a+1) (fun x hx=>h x (List.mem_cons_of_mem _ hx)) r hr
theorem zY {n:Int} (h:0≤n) (h2:n≤1000000000):isNum n=true:=by unfold isNum eT; exact decide_eq_true ⟨h,by omega⟩
theorem wm {a:Int} (h:isNum a=true) (b:List Int):gq (bz a++b) 0=some (a,(bz a).length):=by
 have:=uS [] b a h
 simpa using this
theorem As:∀ (bs:List (List Int)) (a:Int),0≤a→a+bs.length≤1000000000→(∀ b∈bs,1≤b.length)→uW (jd a bs) a=bs
 | [],_,_,_,_=>rfl
 | b::bs,a,h0,h1,hb=>by
   have hb1:=hb b (List.mem_cons_self ..)
   have hn:=wm (zY h0 (by simp only [List.length_cons] at h1; omega)) b
   show uW ((bz a++b)::jd (a+1) bs) a=_
   rw [wz,hn]
   dsimp only
   rw [if_neg (by omega),if_neg (by rw [List.length_append]; omega),List.drop_left,As bs (a+1) (by omega) (by simp only [List.length_cons] at h1; omega) (fun x hx=>hb x (List.mem_cons_of_mem _ hx))]
theorem IV (bs:List (List Int)) (a:Int) (h0:0≤a) (h1:a+bs.length≤1000000000):Ej (jd a bs) a=false:=by
 cases bs with
 | nil=>rfl
 | cons b bs=>
   have hn:=wm (zY h0 (by simp only [List.length_cons] at h1; omega)) b
   have he:IW (bz a++b) a=true:=by unfold IW; rw [hn]; exact decide_eq_true (Int.le_refl _)
   unfold Ej
   show (_&&!(decide (Ab a ((bz a++b)::jd (a+1) bs) 0≥0)))=false
   unfold Ab
   rw [if_pos he]; simp
structure BB (j:jx) (q:Option (List Int×Int)) (bs:List (List Int)):Prop where
 ok:vq j
 load:fI j.l 0 (j.n / 4)=q
 cc:j.cc=AW q
 cnt:j.cnt=fo q+bs.length
 lo:0≤fo q
 hi:j.cnt≤1000000000
 seg:qj j.l (2*(j.n / 4)) (j.n-2*(j.n / 4))=frames (jd (fo q) bs)++List.replicate (j.n-2*(j.n / 4)-j.us) 0
 us:j.us=(frames (jd (fo q) bs)).length
 rcs:∀ r∈jd (fo q) bs,1≤r.length∧r.length≤4000
 KJ:∀ b∈bs,bI b
 one:∀ b∈bs,1≤b.length
theorem HM {l b:List Int} {a:Nat} (h:(l.drop a).take b.length=b):bW l a b=l:=by
 unfold bW
 rw [List.append_assoc]
 conv=>lhs; arg 2; arg 1; rw [← h]
 rw [← List.drop_drop,List.take_append_drop,List.take_append_drop]
theorem BB.je {j:jx} {q:Option (List Int×Int)} {bs:List (List Int)} (h:BB j q bs):je j.l (2*(j.n / 4)) (j.n-2*(j.n / 4))=(jd (fo q) bs,j.us):=by
 have hu:=h.ok.used
 have hr:∀ r∈jd (fo q) bs,bI r∧1≤r.length∧r.length≤4000:=fun r hr=>⟨BY bs _ h.KJ r hr,h.rcs r hr⟩
 have hle:=Aq h.rcs
 have:=GK (List.replicate (j.n-2*(j.n / 4)-j.us) 0) (lH _) (fun pre _=>IF pre _) (jd (fo q) bs) [] (j.n-2*(j.n / 4)+1) [] (fun c hc=>by cases hc) hr (by have:=h.us; omega)
 unfold Dv.je
 rw [h.seg]
 simp only [List.nil_append,List.length_nil,Nat.zero_add] at this
 rw [this,h.us]
theorem BB.mE {j:jx} {q:Option (List Int×Int)} {bs:List (List Int)} (h:BB j q bs):mE j.l j.n=j.l:=by
 unfold Dv.mE
 rw [h.je]
 apply HM
 have hs:=h.seg
 have hu:=h.ok.used
 unfold qj at hs
 have h2:(((j.l.drop (2*(j.n / 4))).take (j.n-2*(j.n / 4))).drop j.us).take (j.n-2*(j.n / 4)-j.us)=List.replicate (j.n-2*(j.n / 4)-j.us) 0:=by
  rw [hs,h.us,List.drop_left,List.take_of_length_le (by rw [List.length_replicate]; exact Nat.le_refl _)]
 rw [List.length_replicate,← List.drop_drop]
 rw [List.drop_take,List.take_take,Nat.min_self] at h2
 exact h2
theorem BB.opn {j:jx} {q:Option (List Int×Int)} {bs:List (List Int)} (h:BB j q bs) (s:Int):ny j.l j.n=q∧tf j.l j.n=bs∧iq j.l j.n s = { j with s:=IntKind.i64.wrap (s+1) }:=by
 have hQ:ny j.l j.n=q:=by unfold ny; rw [h.mE]; exact h.load
 have hR:Bf j.l j.n=jd (fo q) bs:=by unfold Bf; rw [h.je]
 have hhi:=h.hi
 have hcn:=h.cnt
 have hO:tf j.l j.n=bs:=by unfold tf; rw [hQ,hR]; exact As bs _ h.lo (by omega) h.one
 have hE:Sh j.l j.n=false:=by unfold Sh; rw [hQ,hR]; exact IV bs _ h.lo (by omega)
 refine ⟨hQ,hO,?_⟩
 unfold iq
 rw [hE,if_neg (by decide),h.mE,hQ,hO,h.je,← h.cnt,← h.cc]
end Dv
namespace Dv
open Go Go.Proofs
def nw2 (p0 p1:Option (List Int×Int)):Int×Int:=
 match p1 with
 | none=>(match p0 with
   | none=>(-1,-1)
   | some q=>if q.2 > -1 then (0,q.2) else (-1,-1))
 | some r=>if r.2>(match p0 with
   | none=>((-1,-1):Int×Int)
   | some q=>if q.2 > -1 then (0,q.2) else (-1,-1)).2 then (1,r.2) else (match p0 with
   | none=>(-1,-1)
   | some q=>if q.2 > -1 then (0,q.2) else (-1,-1))
theorem uA (l:List Int) (sz:Nat):lV l 0 sz 2=nw2 (iA l 0 sz 0) (iA l 0 sz 1):=rfl
theorem zR {l l':List Int} {sz:Nat} (h:∀ k,k<2→eF l' 0 sz k=eF l 0 sz k):fI l' 0 sz=fI l 0 sz:=by
 have hp:∀ k,k<2→iA l' 0 sz k=iA l 0 sz k:=fun k hk=>by unfold iA; rw [h k hk]
 have hn:lV l' 0 sz 2=lV l 0 sz 2:=by rw [uA,uA,hp 0 (by omega),hp 1 (by omega)]
 have hr:=uB l 0 sz 2
 unfold fI
 rw [hn]
 split
 ·rfl
 ·exact hp _ (by omega)
theorem CJ {l b:List Int} {a k:Nat} (h:a≤l.length) (hk:k≤a):(bW l a b).drop k=bW (l.drop k) (a-k) b:=by
 unfold bW
 rw [List.append_assoc,List.drop_append_of_le_length (by rw [List.length_take]; omega),List.drop_take,List.append_assoc,List.drop_drop]
 rw [show k+(a-k+b.length)=a+b.length by omega]
theorem Ld {l b:List Int} {a k:Nat} (h:a≤l.length) (hk:k≤a):(bW l a b).take k=l.take k:=by
 unfold bW
 rw [List.append_assoc,List.take_append_of_le_length (by rw [List.length_take]; omega),List.take_take,Nat.min_eq_left hk]
theorem rC {l b:List Int} {a sz k:Nat} (h:a≤l.length) (hk:k*sz+sz≤a):eF (bW l a b) 0 sz k=eF l 0 sz k:=by
 unfold eF
 rw [CJ h (by omega),Ld (by rw [List.length_drop]; omega) (by omega)]
theorem wU {l b:List Int} {a sz k:Nat} (h:a+b.length≤l.length) (hk:a+b.length≤k*sz):eF (bW l a b) 0 sz k=eF l 0 sz k:=by
 unfold eF bW
 rw [List.drop_append,List.drop_eq_nil_of_le (by simp only [List.length_append,List.length_take]; omega),List.nil_append,List.drop_drop]
 congr 2
 simp only [List.length_append,List.length_take]; omega
theorem t_ {l b:List Int} {a fr sz:Nat} (h:fr+sz≤l.length) (hf:fr≤a) (ha:a+b.length≤fr+sz):qj (bW l a b) fr sz=bW (qj l fr sz) (a-fr) b:=by
 unfold qj
 rw [CJ (by omega) hf]
 unfold bW
 rw [List.take_append,List.take_of_length_le (by simp only [List.length_append,List.length_take,List.length_drop]; omega),List.take_take,Nat.min_eq_left (by omega),List.drop_drop,List.drop_take,List.drop_drop]
 congr 2
 simp only [List.length_append,List.length_take,List.length_drop]; omega
theorem zy {fs b:List Int} {m:Nat} (h:b.length≤m):bW (fs++List.replicate m 0) fs.length b=(fs++b)++List.replicate (m-b.length) 0:=by
 unfold bW
 rw [List.take_left,← List.drop_drop,List.drop_left,List.drop_replicate]
theorem BB.add {j:jx} {q:Option (List Int×Int)} {bs:List (List Int)} (h:BB j q bs) {p:List Int} (hp:bI p) (hr:j.room p.length=true) (hc:j.cnt+1≤1000000000):BB (j.add p) q (bs++[p]):=by
 have hfit:=jx.Fb hr
 have tn:1≤p.length∧1≤(bz j.cnt++p).length∧(bz j.cnt++p).length≤4000:=by
  unfold jx.room nO sy at hr
  rw [Bool.and_eq_true,decide_eq_true_eq,decide_eq_true_eq] at hr
  rw [List.length_append]; omega
 have hlen:=h.ok.len
 have hsz:=h.ok.size
 have hcn:=h.cnt
 have hlo:=h.lo
 have hw:IntKind.i64.wrap (j.cnt+1)=j.cnt+1:=aN (by omega) (by omega)
 have hfr:frames (jd (fo q) (bs++[p]))=frames (jd (fo q) bs)++nP j.cnt p:=by
  rw [s8,← hcn]; unfold frames; rw [List.flatMap_append]
  simp [nP]
 refine ⟨h.ok.add hp hr,?_,h.cc,?_,h.lo,?_,?_,?_,?_,?_,?_⟩
 ·show fI (bW j.l (2*(j.n / 4)+j.us) (nP j.cnt p)) 0 (j.n / 4)=q
  rw [zR (l:=j.l) fun k hk=>rC (by omega) (by have:k*(j.n / 4)≤1*(j.n / 4):=Nat.mul_le_mul_right _ (by omega); omega)]
  exact h.load
 ·show IntKind.i64.wrap (j.cnt+1)=_
  rw [hw,List.length_append,hcn]; simp only [List.length_cons,List.length_nil]; omega
 ·show IntKind.i64.wrap (j.cnt+1)≤_
  rw [hw]; exact hc
 ·show qj (bW j.l (2*(j.n / 4)+j.us) (nP j.cnt p)) (2*(j.n / 4)) (j.n-2*(j.n / 4))=_++List.replicate (j.n-2*(j.n / 4)-(j.us+(nP j.cnt p).length)) 0
  rw [t_ (by omega) (by omega) (by omega),h.seg,Nat.add_sub_cancel_left,hfr,← Nat.sub_sub]
  conv=>lhs; arg 2; rw [h.us]
  exact zy (by omega)
 ·show j.us+(nP j.cnt p).length=_
  rw [hfr,List.length_append,h.us]
 ·rw [s8,← hcn]
  intro r Cy
  rcases List.mem_append.1 Cy with Cy | Cy
  ·exact h.rcs r Cy
  ·rw [List.mem_singleton.1 Cy]; exact tn.2
 ·intro b hb
  rcases List.mem_append.1 hb with hb | hb
  ·exact h.KJ b hb
  ·rw [List.mem_singleton.1 hb]; exact hp
 ·intro b hb
  rcases List.mem_append.1 hb with hb | hb
  ·exact h.one b hb
  ·rw [List.mem_singleton.1 hb]; exact tn.1
theorem Dz {l:List Int} (hb:bI l) {sz k:Nat} {q:List Int×Int} (h:iA l 0 sz k=some q):0≤q.2:=by
 have hs:∀ c∈eF l 0 sz k,0≤c∧c≤255:=fun c hc=>hb c (List.mem_of_mem_drop (List.mem_of_mem_take hc))
 have hg:=qT (eF l 0 sz k) 0
 unfold iA at h
 split at h
 ·cases hq:gq (dL (eF l 0 sz k) 0).1 0 with
  | none=>rw [hq] at h; cases h
  | some r=>
    rw [hq] at h; cases h
    exact (gp (fun c hc=>(hs c (hg.1 c hc)).1) (x:=r.1) (p':=r.2) hq).1
 ·cases h
theorem LZ {l eW:List Int} {sz:Nat} {cc:Int} (hb:bI l) (hp:bI eW) (hl:2*sz≤l.length) (hz:1≤sz) (hE:ff l 0 sz eW cc=0) (hn:isNum cc=true):fI (iS l 0 sz eW cc) 0 sz=some (eW,cc)∧(iS l 0 sz eW cc).length=l.length:=by
 unfold ff at hE
 split at hE
 ·cases hE
 rename_i h1
 split at hE
 ·cases hE
 rename_i h2
 split at hE
 ·cases hE
 rename_i h3
 have hk:c_ l 0 sz<2:=by unfold c_; split <;> omega
 have hks:c_ l 0 sz*sz≤1*sz:=Nat.mul_le_mul_right _ (by omega)
 have hlen:(bW l (c_ l 0 sz*sz) (List.replicate sz 0)).length=l.length:=dN (by rw [List.length_replicate]; omega)
 have lZ:1≤(bz cc++eW).length∧(bz cc++eW).length≤4000:=by
  have:(ga eW cc).length≠0:=fun e=>h3 (.inl e)
  unfold ga fc at this
  split at this
  ·exact absurd rfl this
  ·omega
 have yA:(ga eW cc).length≤sz:=by omega
 have PO:iS l 0 sz eW cc=bW (bW l (c_ l 0 sz*sz) (List.replicate sz 0)) (c_ l 0 sz*sz) (ga eW cc):=by unfold iS; rw [Nat.zero_add]
 have aby:eF (iS l 0 sz eW cc) 0 sz (c_ l 0 sz)=ga eW cc++List.replicate (sz-(ga eW cc).length) 0:=by
  have h4:=t_ (l:=bW l (c_ l 0 sz*sz) (List.replicate sz 0)) (b:=ga eW cc) (a:=c_ l 0 sz*sz) (fr:=c_ l 0 sz*sz) (sz:=sz) (by omega) (Nat.le_refl _) (by omega)
  have h5:=t_ (l:=l) (b:=List.replicate sz 0) (a:=c_ l 0 sz*sz) (fr:=c_ l 0 sz*sz) (sz:=sz) (by omega) (Nat.le_refl _) (by rw [List.length_replicate]; omega)
  rw [PO]
  show (List.drop (0+c_ l 0 sz*sz) _).take sz=_
  rw [Nat.zero_add]
  show qj _ (c_ l 0 sz*sz) sz=_
  rw [h4,h5,Nat.sub_self]
  have h6:bW (qj l (c_ l 0 sz*sz) sz) 0 (List.replicate sz 0)=List.replicate sz 0:=by
   unfold bW
   rw [List.drop_eq_nil_of_le (by rw [uc (by omega),List.length_replicate]; omega)]; simp
  rw [h6]
  have:=zy (fs:=[]) (b:=ga eW cc) (m:=sz) yA
  simpa using this
 have Z6:∀ k,k<2→k≠c_ l 0 sz→eF (iS l 0 sz eW cc) 0 sz k=eF l 0 sz k:=fun k hk2 hne=>by
  rw [PO]
  by_cases hkk:k<c_ l 0 sz
  ·have hk0:k=0:=by omega
   have wg:c_ l 0 sz=1:=by omega
   rw [wg] at hlen
   rw [hk0,wg]
   rw [rC (by omega) (by omega),rC (by omega) (by omega)]
  ·have hk0:c_ l 0 sz=0:=by omega
   have wg:k=1:=by omega
   rw [hk0] at hlen
   rw [hk0,wg]
   rw [wU (by omega) (by omega),wU (by rw [List.length_replicate]; omega) (by rw [List.length_replicate]; omega)]
 have hnew:iA (iS l 0 sz eW cc) 0 sz (c_ l 0 sz)=some (eW,cc):=by
  have hg:=Gb [] (List.replicate (sz-(ga eW cc).length) 0) (bz cc++eW) (fun c hc=>by cases hc) (lH _) ((lW _).cat hp) lZ
  simp only [List.nil_append,List.length_nil,Nat.zero_add] at hg
  unfold iA
  rw [aby]
  unfold ga
  unfold ga at hg
  rw [hg,if_pos rfl,wm hn]
  show some (List.drop (bz cc).length (bz cc++eW),cc)=_
  rw [List.drop_left]
 have hold:∀ k,k<2→k≠c_ l 0 sz→iA (iS l 0 sz eW cc) 0 sz k=iA l 0 sz k:=fun k h4 h5=>by unfold iA; rw [Z6 k h4 h5]
 have adV:0≤cc:=by unfold isNum at hn; have:=of_decide_eq_true hn; omega
 have abC:=uB l 0 sz 2
 have YE:∀ q,fI l 0 sz=some q→q.2<cc:=fun q hq=>by
  rw [hq] at h2; unfold OJ at h2; simp at h2; exact h2
 refine ⟨?_,by rw [PO,dN (by rw [hlen]; omega),hlen]⟩
 unfold fI
 rcases Nat.lt_or_ge (c_ l 0 sz) 1 with hk0 | wg
 ·have hk0:c_ l 0 sz=0:=by omega
  have hnw:(lV l 0 sz 2).1≠0:=fun e=>by unfold c_ at hk0; rw [if_pos e] at hk0; cases hk0
  rw [hk0] at hnew hold
  have yC:=hold 1 (by omega) (by omega)
  have hQ:lV (iS l 0 sz eW cc) 0 sz 2=(0,cc):=by
   rw [uA,hnew,yC]
   have ha:cc > -1:=by omega
   unfold nw2
   cases hq:iA l 0 sz 1 with
   | none=>simp only [if_pos ha]
   | some q=>
     have hq0:=Dz hb hq
     have hn1:(lV l 0 sz 2).1=1:=by
      have:(lV l 0 sz 2).1 = -1∨(lV l 0 sz 2).1=1:=by omega
      rcases this with e | e
      ·exfalso
       rw [uA,hq] at e
       unfold nw2 at e
       cases hr:iA l 0 sz 0 with
       | none=>rw [hr] at e; simp only [if_pos (show q.2 > -1 by omega)] at e; exact absurd e (by decide)
       | some r=>
         have Mo:=Dz hb hr
         rw [hr] at e; simp only [if_pos (show r.2 > -1 by omega)] at e
         split at e
         ·exact absurd e (show (1:Int)≠-1 by decide)
         ·exact absurd e (show (0:Int)≠-1 by decide)
      ·exact e
     have:fI l 0 sz=some q:=by unfold fI; rw [hn1,if_neg (by decide)]; exact hq
     have:=YE q this
     simp only [if_pos ha,if_neg (show ¬ q.2>cc by omega)]
  rw [hQ,if_neg (show ¬ (0:Int)<0 by decide)]
  exact hnew
 ·have wg:c_ l 0 sz=1:=by omega
  have hnw:(lV l 0 sz 2).1=0:=by unfold c_ at wg; split at wg; · assumption
                                 ·cases wg
  rw [wg] at hnew hold
  have h0':=hold 0 (by omega) (by omega)
  have Z9:fI l 0 sz=iA l 0 sz 0:=by unfold fI; rw [hnw,if_neg (by decide)]; rfl
  have hQ:lV (iS l 0 sz eW cc) 0 sz 2=(1,cc):=by
   rw [uA,hnew,h0']
   unfold nw2
   cases hq:iA l 0 sz 0 with
   | none=>simp only [if_pos (show cc > -1 by omega)]
   | some q=>
     have h7:=YE q (by rw [Z9,hq])
     have hq0:=Dz hb hq
     simp only [if_pos (show q.2 > -1 by omega),if_pos (show cc>q.2 by omega)]
  rw [hQ,if_neg (show ¬ (1:Int)<0 by decide)]
  exact hnew
theorem BB.pack {j:jx} {q:Option (List Int×Int)} {bs:List (List Int)} (h:BB j q bs) {eW:List Int} (hp:bI eW):j.pack eW=j∨BB (j.pack eW) (some (eW,j.cnt)) []:=by
 have hlen:=h.ok.len
 have hsz:=h.ok.size
 have hok:=h.ok.pack hp
 unfold jx.pack at *
 split
 ·exact .inl rfl
 rename_i hc
 right
 rw [if_neg hc] at hok
 have hE:ff j.l 0 (j.n / 4) eW j.cnt=0:=Decidable.not_not.1 fun e=>hc (.inr e)
 have hcn:=h.cnt
 have hlo:=h.lo
 have hhi:=h.hi
 obtain ⟨h1,h2⟩:=LZ h.ok.KJ hp (by omega) (by omega) hE (zY (by omega) hhi)
 refine ⟨hok,?_,rfl,?_,?_,hhi,?_,rfl,?_,?_,?_⟩
 ·show fI (xH j.n j.l eW j.cnt) 0 (j.n / 4)=_
  unfold xH
  rw [zR (l:=iS j.l 0 (j.n / 4) eW j.cnt) fun k hk=>rC (by omega) (by have:k*(j.n / 4)≤1*(j.n / 4):=Nat.mul_le_mul_right _ (by omega); omega)]
  exact h1
 ·show j.cnt=j.cnt+((0:Nat):Int); omega
 ·show 0≤j.cnt; omega
 ·show qj (xH j.n j.l eW j.cnt) (2*(j.n / 4)) (j.n-2*(j.n / 4))=[]++List.replicate (j.n-2*(j.n / 4)-0) 0
  unfold xH
  rw [t_ (by omega) (Nat.le_refl _) (by rw [List.length_replicate]; omega),Nat.sub_self]
  unfold bW
  rw [List.drop_eq_nil_of_le (by rw [uc (by omega),List.length_replicate]; omega)]; simp
 ·intro r hr; cases hr
 ·intro r hr; cases hr
 ·intro r hr; cases hr
end Dv
namespace Dv
open Go Go.Proofs
theorem wF {c:aC} {o:cA} (ho:eY o=true):∀ (bs:List (List Int)) (s:aa) {t:aa},wG c s bs=some t→(bE c t o).2=0→wG c s (bs++[gC o])=some (bE c t o).1
 | [],s,t,h,he=>by
   cases h
   show wG c s [gC o]=_
   unfold wG
   rw [Qx ho]
   dsimp only
   rw [if_pos he]; rfl
 | b::bs,s,t,h,he=>by
   rw [List.cons_append]
   unfold wG at h ⊢
   cases hq:Ed b with
   | none=>rw [hq] at h; cases h
   | some p=>
     rw [hq] at h
     dsimp only at h ⊢
     split at h
     ·rename_i h1
      rw [if_pos h1]
      exact wF ho bs _ h he
     ·cases h
theorem HD {c:aC} {o:cA} (ho:eY o=true) {eW:List Int} {bs:List (List Int)} {t:aa} (h:kH c eW bs=some t) (he:(bE c t o).2=0):kH c eW (bs++[gC o])=some (bE c t o).1:=by
 unfold kH at h ⊢
 split at h
 ·rename_i h1
  rw [if_pos h1]
  cases hg:uT c eW with
  | none=>rw [hg] at h; cases h
  | some s=>rw [hg] at h; exact wF ho bs s h he
 ·rename_i h1
  rw [if_neg h1]
  exact wF ho bs _ h he
theorem aaZ {c:aC} {s:aa} {o:cA} (hr:bR c s) (h:(bE c s o).2=0):eY o=true:=by
 cases hq:eY o with
 | true=>rfl
 | false=>
   unfold bE AV at h
   rw [if_neg (by rw [(ez c s).2 hr]; decide),if_pos hq] at h
   cases h
structure Dur (x:aO) (q:Option (List Int×Int)) (bs:List (List Int)):Prop where
 Ka:BB x.j q bs
 rd:kH x.c (ta q) bs=some x.s
theorem LB {c:aC} {s:aa} (h:bR c s):kH c (jJ s) []=some s:=by
 have hr:=(ez c s).2 h
 obtain ⟨⟨h1,h2⟩,h3,h4,_⟩:=Fe hr
 unfold kH
 rw [if_pos (by omega),Vm h1 h2 h3 hr]
 rfl
theorem Dur.fresh {x:aO} {q:Option (List Int×Int)} {bs:List (List Int)} (h:Dur x q bs) (hx:CX x) (o:cA):∃ q' bs',BB (x.fm o) q' bs'∧kH x.c (ta q') bs'=some x.s:=by
 unfold aO.fm aO.Kb
 split
 ·exact ⟨q,bs,h.Ka,h.rd⟩
 split
 ·exact ⟨q,bs,h.Ka,h.rd⟩
 ·rcases h.Ka.pack (zn x.s) with e | e
  ·rw [e]; exact ⟨q,bs,h.Ka,h.rd⟩
  ·exact ⟨_,_,e,LB hx.right⟩
theorem IK (x:aO) (o:cA):(x.fm o).cnt=x.j.cnt:=by
 unfold aO.fm aO.Kb jx.pack
 split
 ·rfl
 split
 ·rfl
 split <;> rfl
theorem Dur.note {x:aO} {q:Option (List Int×Int)} {bs:List (List Int)} (h:Dur x q bs) (hx:CX x) (o:cA) (now:Int) (hc:x.j.cnt+1≤1000000000):∃ q' bs',Dur (x.bQ o now) q' bs'∧(x.bQ o now).j.cnt≤x.j.cnt+1:=by
 obtain ⟨q',bs',hj,hr⟩:=h.fresh hx o
 have hcn:=IK x o
 have hlo:0≤x.j.cnt:=by have:=h.Ka.cnt; have:=h.Ka.lo; omega
 unfold aO.bQ
 by_cases he:x.ek o=0
 ·rw [if_pos he]
  obtain ⟨h1,h2,_⟩:=qW he
  refine ⟨q',bs'++[gC o],⟨hj.add (Fk o) h2 (by omega),?_⟩,?_⟩
  ·exact HD (aaZ hx.right h1) hr h1
  ·show IntKind.i64.wrap ((x.fm o).cnt+1)≤_
   rw [aN (by omega) (by omega)]; omega
 ·rw [if_neg he]
  exact ⟨q',bs',⟨hj,hr⟩,by show (x.fm o).cnt≤_; omega⟩
theorem BB.sync {j:jx} {q:Option (List Int×Int)} {bs:List (List Int)} (h:BB j q bs) (s:Int):BB { j with s:=s } q bs:=⟨⟨h.ok.len,h.ok.size,h.ok.KJ,h.ok.used⟩,h.load,h.cc,h.cnt,h.lo,h.hi,h.seg,h.us,h.rcs,h.KJ,h.one⟩
theorem Y8 {x:aO} (hx:CX x):x.ek bN=0∨x.ek bN=3:=by
 have hr:=(ez x.c x.s).2 hx.right
 have ha:(bE x.c x.s bN).2=0∨(bE x.c x.s bN).2=3:=by
  rw [rq hr (by decide) (by decide) (by decide)]
  show (eu x.s).2=0∨(eu x.s).2=3
  unfold eu
  split
  ·exact .inr rfl
  ·exact .inl rfl
 unfold aO.ek
 split
 ·exact ha
 ·split
  ·exact .inl rfl
  ·exact .inr rfl
theorem Y7 {x:aO} (hx:CX x) (h:x.ek bN=0):bE x.c x.s bN=({ x.s with term:=x.s.term+1 },0):=by
 have hr:=(ez x.c x.s).2 hx.right
 obtain ⟨h1,_⟩:=qW h
 rw [rq hr (by decide) (by decide) (by decide)] at h1 ⊢
 change (eu x.s).2=0 at h1
 show eu x.s=_
 unfold eu at h1 ⊢
 split at h1
 ·cases h1
 ·rename_i h2; rw [if_neg h2]
end Dv
