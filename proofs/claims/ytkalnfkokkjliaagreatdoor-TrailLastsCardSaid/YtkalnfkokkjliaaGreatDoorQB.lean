/- part -/
import Derived.Test.YtkalnfkokkjliaaGreatDoorBA
import Derived.Test.YtkalnfkokkjliaaGreatDoorPB
import Derived.Test.YtkalnfkokkjliaaGreatDoorOB
import Derived.Test.YtkalnfkokkjliaaGreatDoorKA
import Derived.Test.YtkalnfkokkjliaaGreatDoorCA
set_option linter.all false
namespace Dv
open Go Go.Proofs
theorem Lg {n:Int} (h:isNum n=true) (h1:1≤n) (t:List Int):(br n++t).getD 0 0≠0:=by
 rw [xZ h]
 show (iw (7+1) n++t).getD 0 0≠0
 unfold iw
 split
 ·show n % 128+128≠0; omega
 ·show n≠0; omega
theorem CV {p:List Int} (h:1≤p.length∧p.length≤4000):eT p=br p.length++(p++rH (iX 0 p)++[1]):=by
 unfold eT; rw [if_neg (by omega)]; simp only [List.append_assoc]
theorem FE {a b:List Int} (k:Nat):(a++b).getD (a.length+k) 0=b.getD k 0:=by
 simp only [List.getD]; rw [List.getElem?_append_right (by omega),Nat.add_sub_cancel_left]
theorem FB (pre t p:List Int) (hpre:bE pre) (ht:bE t) (hp:bE p) (h:1≤p.length∧p.length≤4000):dJ (pre++(eT p++t)) pre.length=(p,pre.length+(eT p).length,1):=by
 have hn:isNum (p.length:Int)=true:=by unfold isNum eF; exact decide_eq_true ⟨by omega,by omega⟩
 have hb:bE (pre++(eT p++t)):=hpre.cat ((p9 hp).cat ht)
 have hl:=p_ h
 have hne:=zk hn
 have h0:(pre++(eT p++t)).getD pre.length 0≠0:=by
  rw [show pre.length=pre.length+0 from rfl,FE,CV h,List.append_assoc]
  exact Lg hn (by omega) _
 have hq:fZ (pre++(eT p++t)) pre.length=some ((p.length:Int),pre.length+(br p.length).length):=by
  rw [CV h,List.append_assoc]
  exact uJ pre _ _ hn
 have hlen:(pre++(eT p++t)).length=pre.length+((eT p).length+t.length):=by simp only [List.length_append]
 obtain ⟨_,_,h3⟩:=PR hb (by omega) h0 hq
 have hd:p=((pre++(eT p++t)).drop (pre.length+(br p.length).length)).take (p.length:Int).toNat:=by
  rw [← List.drop_drop,List.drop_left,CV h,List.append_assoc,List.drop_left,List.append_assoc,List.append_assoc,Int.toNat_natCast,List.take_left]
 obtain ⟨_,h4⟩:=h3 (by omega) (by omega) p hd
 rw [h4,if_neg]
 rw [List.drop_left,List.take_left]
 rintro (h5 | h5)
 ·omega
 ·exact h5 rfl
def frames (rs:List (List Int)):List Int:=rs.flatMap eT
theorem H8 {rs:List (List Int)} (h:∀ r∈rs,bE r):bE (frames rs):=fun c hc=>by
 obtain ⟨r,hr,hc⟩:=List.mem_flatMap.1 hc
 exact p9 (h r hr) c hc
theorem Af:∀ {rs:List (List Int)},(∀ r∈rs,1≤r.length∧r.length≤4000)→rs.length≤(frames rs).length
 | [],_=>Nat.le_refl _
 | r::rs,h=>by
   have:=Af fun x hx=>h x (List.mem_cons_of_mem _ hx)
   have h2:=p_ (h r (List.mem_cons_self ..))
   show rs.length+1≤(eT r++frames rs).length
   rw [List.length_append]; omega
theorem F9 (t:List Int) (ht:bE t) (H:∀ pre,bE pre→(dJ (pre++t) pre.length).2.2≠1):∀ (rs:List (List Int)) (pre:List Int) (f:Nat) (l:List (List Int)),bE pre→(∀ r∈rs,bE r∧1≤r.length∧r.length≤4000)→rs.length<f→
  u5 (pre++(frames rs++t)) f l pre.length=(l++rs,pre.length+(frames rs).length)
 | [],pre,f+1,l,hp,_,_=>by
   unfold u5
   show (if (dJ (pre++t) pre.length).2.2=1 then _ else _)=_
   rw [if_neg (H pre hp),List.append_nil]; rfl
 | r::rs,pre,f+1,l,hp,hr,hf=>by
   have h1:=hr r (List.mem_cons_self ..)
   have hfr:=H8 fun x hx=>(hr x (List.mem_cons_of_mem _ hx)).1
   have hg:=FB pre (frames rs++t) r hp (hfr.cat ht) h1.1 h1.2
   have hx:pre++(frames (r::rs)++t)=pre++(eT r++(frames rs++t)):=by show pre++((eT r++frames rs)++t)=_; rw [List.append_assoc (eT r)]
   rw [hx]
   unfold u5
   rw [hg,if_pos rfl]
   have:=F9 t ht H rs (pre++eT r) f (l++[r]) (hp.cat (p9 h1.1)) (fun x hx=>hr x (List.mem_cons_of_mem _ hx)) (by simp only [List.length_cons] at hf; omega)
   rw [List.append_assoc,List.length_append,List.append_assoc] at this
   rw [this]
   show (_,_)=(_,pre.length+(eT r++frames rs).length)
   rw [List.length_append,Nat.add_assoc]; rfl
theorem HX (pre:List Int) (m:Nat):(dJ (pre++List.replicate m 0) pre.length).2.2≠1:=by
 unfold dJ
 rw [if_neg (by rw [List.length_append]; omega)]
 by_cases hm:m=0
 ·subst hm
  rw [if_pos (.inl (by simp))]; show (0:Int)≠1; decide
 ·rw [if_pos (.inr (by rw [show pre.length=pre.length+0 from rfl,FE]; cases m with | zero=>exact absurd rfl hm | succ k=>rfl))]; show (0:Int)≠1; decide
def iT:Int→List (List Int)→List (List Int)
 | _,[]=>[]
 | a,b::bs=>(br a++b)::iT (a+1) bs
theorem sK:∀ (bs:List (List Int)) (a:Int) (p:List Int),iT a (bs++[p])=iT a bs++[br (a+bs.length)++p]
 | [],a,p=>by simp [iT]
 | b::bs,a,p=>by
   simp only [List.cons_append,iT,sK bs (a+1) p,List.length_cons]
   rw [show a+1+(bs.length:Int)=a+((bs.length+1:Nat):Int) by omega]
theorem BB:∀ (bs:List (List Int)) (a:Int),(∀ b∈bs,bE b)→∀ r∈iT a bs,bE r
 | [],_,_,r,hr=>by cases hr
 | b::bs,a,h,r,hr=>by
   rcases List.mem_cons.1 hr with rfl | hr
   ·exact (lE a).cat (h b (List.mem_cons_self ..))
   ·exact BB bs (a+1) (fun x hx=>h x (List.mem_cons_of_mem _ hx)) r hr
theorem zI {n:Int} (h:0≤n) (h2:n≤1000000000):isNum n=true:=by unfold isNum eF; exact decide_eq_true ⟨h,by omega⟩
theorem vU {a:Int} (h:isNum a=true) (b:List Int):fZ (br a++b) 0=some (a,(br a).length):=by
 have:=uJ [] b a h
 simpa using this
theorem Ah:∀ (bs:List (List Int)) (a:Int),0≤a→a+bs.length≤1000000000→(∀ b∈bs,1≤b.length)→uM (iT a bs) a=bs
 | [],_,_,_,_=>rfl
 | b::bs,a,h0,h1,hb=>by
   have hb1:=hb b (List.mem_cons_self ..)
   have hn:=vU (zI h0 (by simp only [List.length_cons] at h1; omega)) b
   show uM ((br a++b)::iT (a+1) bs) a=_
   rw [vY,hn]
   dsimp only
   rw [if_neg (by omega),if_neg (by rw [List.length_append]; omega),List.drop_left,Ah bs (a+1) (by omega) (by simp only [List.length_cons] at h1; omega) (fun x hx=>hb x (List.mem_cons_of_mem _ hx))]
theorem Ie (bs:List (List Int)) (a:Int) (h0:0≤a) (h1:a+bs.length≤1000000000):DC (iT a bs) a=false:=by
 cases bs with
 | nil=>rfl
 | cons b bs=>
   have hn:=vU (zI h0 (by simp only [List.length_cons] at h1; omega)) b
   have he:Ig (br a++b) a=true:=by unfold Ig; rw [hn]; exact decide_eq_true (Int.le_refl _)
   unfold DC
   show (_&&!(decide (zN a ((br a++b)::iT (a+1) bs) 0≥0)))=false
   unfold zN
   rw [if_pos he]; simp
structure Cu (j:jy) (q:Option (List Int×Int)) (bs:List (List Int)):Prop where
 ok:xJ j
 load:fu j.l 0 (j.n / 4)=q
 bz:j.bz=AJ q
 cnt:j.cnt=ew q+bs.length
 lo:0≤ew q
 hi:j.cnt≤1000000000
 seg:pS j.l (2*(j.n / 4)) (j.n-2*(j.n / 4))=frames (iT (ew q) bs)++List.replicate (j.n-2*(j.n / 4)-j.us) 0
 us:j.us=(frames (iT (ew q) bs)).length
 rcs:∀ r∈iT (ew q) bs,1≤r.length∧r.length≤4000
 My:∀ b∈bs,bE b
 one:∀ b∈bs,1≤b.length
theorem G3 {l b:List Int} {a:Nat} (h:(l.drop a).take b.length=b):bN l a b=l:=by
 unfold bN
 rw [List.append_assoc]
 conv=>lhs; arg 2; arg 1; rw [← h]
 rw [← List.drop_drop,List.take_append_drop,List.take_append_drop]
theorem Cu.iU {j:jy} {q:Option (List Int×Int)} {bs:List (List Int)} (h:Cu j q bs):iU j.l (2*(j.n / 4)) (j.n-2*(j.n / 4))=(iT (ew q) bs,j.us):=by
 have hu:=h.ok.used
 have hr:∀ r∈iT (ew q) bs,bE r∧1≤r.length∧r.length≤4000:=fun r hr=>⟨BB bs _ h.My r hr,h.rcs r hr⟩
 have hle:=Af h.rcs
 have:=F9 (List.replicate (j.n-2*(j.n / 4)-j.us) 0) (m_ _) (fun pre _=>HX pre _) (iT (ew q) bs) [] (j.n-2*(j.n / 4)+1) [] (fun c hc=>by cases hc) hr (by have:=h.us; omega)
 unfold Dv.iU
 rw [h.seg]
 simp only [List.nil_append,List.length_nil,Nat.zero_add] at this
 rw [this,h.us]
theorem Cu.me {j:jy} {q:Option (List Int×Int)} {bs:List (List Int)} (h:Cu j q bs):me j.l j.n=j.l:=by
 unfold Dv.me
 rw [h.iU]
 apply G3
 have hs:=h.seg
 have hu:=h.ok.used
 unfold pS at hs
 have h2:(((j.l.drop (2*(j.n / 4))).take (j.n-2*(j.n / 4))).drop j.us).take (j.n-2*(j.n / 4)-j.us)=List.replicate (j.n-2*(j.n / 4)-j.us) 0:=by
  rw [hs,h.us,List.drop_left,List.take_of_length_le (by rw [List.length_replicate]; exact Nat.le_refl _)]
 rw [List.length_replicate,← List.drop_drop]
 rw [List.drop_take,List.take_take,Nat.min_self] at h2
 exact h2
theorem Cu.opn {j:jy} {q:Option (List Int×Int)} {bs:List (List Int)} (h:Cu j q bs) (s:Int):ji j.l j.n=q∧ue j.l j.n=bs∧sP j.l j.n s = { j with s:=IntKind.i64.wrap (s+1) }:=by
 have hQ:ji j.l j.n=q:=by unfold ji; rw [h.me]; exact h.load
 have hR:AX j.l j.n=iT (ew q) bs:=by unfold AX; rw [h.iU]
 have hhi:=h.hi
 have QO:=h.cnt
 have hO:ue j.l j.n=bs:=by unfold ue; rw [hQ,hR]; exact Ah bs _ h.lo (by omega) h.one
 have hE:RF j.l j.n=false:=by unfold RF; rw [hQ,hR]; exact Ie bs _ h.lo (by omega)
 refine ⟨hQ,hO,?_⟩
 unfold sP
 rw [hE,if_neg (by decide),h.me,hQ,hO,h.iU,← h.cnt,← h.bz]
end Dv
namespace Dv
open Go Go.Proofs
def nw2 (p0 p1:Option (List Int×Int)):Int×Int:=
 match p1 with
 | none=>(match p0 with
   | none=>(-1,-1)
   | some q=>if q.2 > -1 then (0,q.2) else (-1,-1))
 | some r=>if r.2>(match p0 with
   | none=>((-1,-1):Int×Int)
   | some q=>if q.2 > -1 then (0,q.2) else (-1,-1)).2 then (1,r.2) else (match p0 with
   | none=>(-1,-1)
   | some q=>if q.2 > -1 then (0,q.2) else (-1,-1))
theorem uk (l:List Int) (sz:Nat):lD l 0 sz 2=nw2 (ic l 0 sz 0) (ic l 0 sz 1):=rfl
theorem zB {l l':List Int} {sz:Nat} (h:∀ k,k<2→eo l' 0 sz k=eo l 0 sz k):fu l' 0 sz=fu l 0 sz:=by
 have hp:∀ k,k<2→ic l' 0 sz k=ic l 0 sz k:=fun k hk=>by unfold ic; rw [h k hk]
 have hn:lD l' 0 sz 2=lD l 0 sz 2:=by rw [uk,uk,hp 0 (by omega),hp 1 (by omega)]
 have hr:=um l 0 sz 2
 unfold fu
 rw [hn]
 split
 ·rfl
 ·exact hp _ (by omega)
theorem Ch {l b:List Int} {a k:Nat} (h:a≤l.length) (hk:k≤a):(bN l a b).drop k=bN (l.drop k) (a-k) b:=by
 unfold bN
 rw [List.append_assoc,List.drop_append_of_le_length (by rw [List.length_take]; omega),List.drop_take,List.append_assoc,List.drop_drop]
 rw [show k+(a-k+b.length)=a+b.length by omega]
theorem KC {l b:List Int} {a k:Nat} (h:a≤l.length) (hk:k≤a):(bN l a b).take k=l.take k:=by
 unfold bN
 rw [List.append_assoc,List.take_append_of_le_length (by rw [List.length_take]; omega),List.take_take,Nat.min_eq_left hk]
theorem qP {l b:List Int} {a sz k:Nat} (h:a≤l.length) (hk:k*sz+sz≤a):eo (bN l a b) 0 sz k=eo l 0 sz k:=by
 unfold eo
 rw [Ch h (by omega),KC (by rw [List.length_drop]; omega) (by omega)]
theorem wD {l b:List Int} {a sz k:Nat} (h:a+b.length≤l.length) (hk:a+b.length≤k*sz):eo (bN l a b) 0 sz k=eo l 0 sz k:=by
 unfold eo bN
 rw [List.drop_append,List.drop_eq_nil_of_le (by simp only [List.length_append,List.length_take]; omega),List.nil_append,List.drop_drop]
 congr 2
 simp only [List.length_append,List.length_take]; omega
theorem tN {l b:List Int} {a fr sz:Nat} (h:fr+sz≤l.length) (hf:fr≤a) (ha:a+b.length≤fr+sz):pS (bN l a b) fr sz=bN (pS l fr sz) (a-fr) b:=by
 unfold pS
 rw [Ch (by omega) hf]
 unfold bN
 rw [List.take_append,List.take_of_length_le (by simp only [List.length_append,List.length_take,List.length_drop]; omega),List.take_take,Nat.min_eq_left (by omega),List.drop_drop,List.drop_take,List.drop_drop]
 congr 2
 simp only [List.length_append,List.length_take,List.length_drop]; omega
theorem zb {fs b:List Int} {m:Nat} (h:b.length≤m):bN (fs++List.replicate m 0) fs.length b=(fs++b)++List.replicate (m-b.length) 0:=by
 unfold bN
 rw [List.take_left,← List.drop_drop,List.drop_left,List.drop_replicate]
theorem Cu.add {j:jy} {q:Option (List Int×Int)} {bs:List (List Int)} (h:Cu j q bs) {p:List Int} (hp:bE p) (hr:j.room p.length=true) (hc:j.cnt+1≤1000000000):Cu (j.add p) q (bs++[p]):=by
 have hfit:=jy.Ew hr
 have sU:1≤p.length∧1≤(br j.cnt++p).length∧(br j.cnt++p).length≤4000:=by
  unfold jy.room nk rR at hr
  rw [Bool.and_eq_true,decide_eq_true_eq,decide_eq_true_eq] at hr
  rw [List.length_append]; omega
 have hlen:=h.ok.len
 have hsz:=h.ok.size
 have QO:=h.cnt
 have hlo:=h.lo
 have hw:IntKind.i64.wrap (j.cnt+1)=j.cnt+1:=aL (by omega) (by omega)
 have hfr:frames (iT (ew q) (bs++[p]))=frames (iT (ew q) bs)++nr j.cnt p:=by
  rw [sK,← QO]; unfold frames; rw [List.flatMap_append]
  simp [nr]
 refine ⟨h.ok.add hp hr,?_,h.bz,?_,h.lo,?_,?_,?_,?_,?_,?_⟩
 ·show fu (bN j.l (2*(j.n / 4)+j.us) (nr j.cnt p)) 0 (j.n / 4)=q
  rw [zB (l:=j.l) fun k hk=>qP (by omega) (by have:k*(j.n / 4)≤1*(j.n / 4):=Nat.mul_le_mul_right _ (by omega); omega)]
  exact h.load
 ·show IntKind.i64.wrap (j.cnt+1)=_
  rw [hw,List.length_append,QO]; simp only [List.length_cons,List.length_nil]; omega
 ·show IntKind.i64.wrap (j.cnt+1)≤_
  rw [hw]; exact hc
 ·show pS (bN j.l (2*(j.n / 4)+j.us) (nr j.cnt p)) (2*(j.n / 4)) (j.n-2*(j.n / 4))=_++List.replicate (j.n-2*(j.n / 4)-(j.us+(nr j.cnt p).length)) 0
  rw [tN (by omega) (by omega) (by omega),h.seg,Nat.add_sub_cancel_left,hfr,← Nat.sub_sub]
  conv=>lhs; arg 2; rw [h.us]
  exact zb (by omega)
 ·show j.us+(nr j.cnt p).length=_
  rw [hfr,List.length_append,h.us]
 ·rw [sK,← QO]
  intro r B7
  rcases List.mem_append.1 B7 with B7 | B7
  ·exact h.rcs r B7
  ·rw [List.mem_singleton.1 B7]; exact sU.2
 ·intro b hb
  rcases List.mem_append.1 hb with hb | hb
  ·exact h.My b hb
  ·rw [List.mem_singleton.1 hb]; exact hp
 ·intro b hb
  rcases List.mem_append.1 hb with hb | hb
  ·exact h.one b hb
  ·rw [List.mem_singleton.1 hb]; exact sU.1
theorem CW {l:List Int} (hb:bE l) {sz k:Nat} {q:List Int×Int} (h:ic l 0 sz k=some q):0≤q.2:=by
 have hs:∀ c∈eo l 0 sz k,0≤c∧c≤255:=fun c hc=>hb c (List.mem_of_mem_drop (List.mem_of_mem_take hc))
 have hg:=qz (eo l 0 sz k) 0
 unfold ic at h
 split at h
 ·cases hq:fZ (dJ (eo l 0 sz k) 0).1 0 with
  | none=>rw [hq] at h; cases h
  | some r=>
    rw [hq] at h; cases h
    exact (fW (fun c hc=>(hs c (hg.1 c hc)).1) (x:=r.1) (p':=r.2) hq).1
 ·cases h
theorem Ls {l eO:List Int} {sz:Nat} {bz:Int} (hb:bE l) (hp:bE eO) (hl:2*sz≤l.length) (hz:1≤sz) (hE:eX l 0 sz eO bz=0) (hn:isNum bz=true):fu (iL l 0 sz eO bz) 0 sz=some (eO,bz)∧(iL l 0 sz eO bz).length=l.length:=by
 unfold eX at hE
 split at hE
 ·cases hE
 rename_i h1
 split at hE
 ·cases hE
 rename_i h2
 split at hE
 ·cases hE
 rename_i h3
 have hk:cQ l 0 sz<2:=by unfold cQ; split <;> omega
 have hks:cQ l 0 sz*sz≤1*sz:=Nat.mul_le_mul_right _ (by omega)
 have hlen:(bN l (cQ l 0 sz*sz) (List.replicate sz 0)).length=l.length:=dR (by rw [List.length_replicate]; omega)
 have lZ:1≤(br bz++eO).length∧(br bz++eO).length≤4000:=by
  have:(fO eO bz).length≠0:=fun e=>h3 (.inl e)
  unfold fO eT at this
  split at this
  ·exact absurd rfl this
  ·omega
 have xF:(fO eO bz).length≤sz:=by omega
 have O_:iL l 0 sz eO bz=bN (bN l (cQ l 0 sz*sz) (List.replicate sz 0)) (cQ l 0 sz*sz) (fO eO bz):=by unfold iL; rw [Nat.zero_add]
 have abe:eo (iL l 0 sz eO bz) 0 sz (cQ l 0 sz)=fO eO bz++List.replicate (sz-(fO eO bz).length) 0:=by
  have h4:=tN (l:=bN l (cQ l 0 sz*sz) (List.replicate sz 0)) (b:=fO eO bz) (a:=cQ l 0 sz*sz) (fr:=cQ l 0 sz*sz) (sz:=sz) (by omega) (Nat.le_refl _) (by omega)
  have h5:=tN (l:=l) (b:=List.replicate sz 0) (a:=cQ l 0 sz*sz) (fr:=cQ l 0 sz*sz) (sz:=sz) (by omega) (Nat.le_refl _) (by rw [List.length_replicate]; omega)
  rw [O_]
  show (List.drop (0+cQ l 0 sz*sz) _).take sz=_
  rw [Nat.zero_add]
  show pS _ (cQ l 0 sz*sz) sz=_
  rw [h4,h5,Nat.sub_self]
  have h6:bN (pS l (cQ l 0 sz*sz) sz) 0 (List.replicate sz 0)=List.replicate sz 0:=by
   unfold bN
   rw [List.drop_eq_nil_of_le (by rw [tO (by omega),List.length_replicate]; omega)]; simp
  rw [h6]
  have:=zb (fs:=[]) (b:=fO eO bz) (m:=sz) xF
  simpa using this
 have Zw:∀ k,k<2→k≠cQ l 0 sz→eo (iL l 0 sz eO bz) 0 sz k=eo l 0 sz k:=fun k hk2 hne=>by
  rw [O_]
  by_cases hkk:k<cQ l 0 sz
  ·have hk0:k=0:=by omega
   have vS:cQ l 0 sz=1:=by omega
   rw [vS] at hlen
   rw [hk0,vS]
   rw [qP (by omega) (by omega),qP (by omega) (by omega)]
  ·have hk0:cQ l 0 sz=0:=by omega
   have vS:k=1:=by omega
   rw [hk0] at hlen
   rw [hk0,vS]
   rw [wD (by omega) (by omega),wD (by rw [List.length_replicate]; omega) (by rw [List.length_replicate]; omega)]
 have hnew:ic (iL l 0 sz eO bz) 0 sz (cQ l 0 sz)=some (eO,bz):=by
  have hg:=FB [] (List.replicate (sz-(fO eO bz).length) 0) (br bz++eO) (fun c hc=>by cases hc) (m_ _) ((lE _).cat hp) lZ
  simp only [List.nil_append,List.length_nil,Nat.zero_add] at hg
  unfold ic
  rw [abe]
  unfold fO
  unfold fO at hg
  rw [hg,if_pos rfl,vU hn]
  show some (List.drop (br bz).length (br bz++eO),bz)=_
  rw [List.drop_left]
 have hold:∀ k,k<2→k≠cQ l 0 sz→ic (iL l 0 sz eO bz) 0 sz k=ic l 0 sz k:=fun k h4 h5=>by unfold ic; rw [Zw k h4 h5]
 have adu:0≤bz:=by unfold isNum at hn; have:=of_decide_eq_true hn; omega
 have abi:=um l 0 sz 2
 have X8:∀ q,fu l 0 sz=some q→q.2<bz:=fun q hq=>by
  rw [hq] at h2; unfold N0 at h2; simp at h2; exact h2
 refine ⟨?_,by rw [O_,dR (by rw [hlen]; omega),hlen]⟩
 unfold fu
 rcases Nat.lt_or_ge (cQ l 0 sz) 1 with hk0 | vS
 ·have hk0:cQ l 0 sz=0:=by omega
  have hnw:(lD l 0 sz 2).1≠0:=fun e=>by unfold cQ at hk0; rw [if_pos e] at hk0; cases hk0
  rw [hk0] at hnew hold
  have vn:=hold 1 (by omega) (by omega)
  have hQ:lD (iL l 0 sz eO bz) 0 sz 2=(0,bz):=by
   rw [uk,hnew,vn]
   have ha:bz > -1:=by omega
   unfold nw2
   cases hq:ic l 0 sz 1 with
   | none=>simp only [if_pos ha]
   | some q=>
     have hq0:=CW hb hq
     have hn1:(lD l 0 sz 2).1=1:=by
      have:(lD l 0 sz 2).1 = -1∨(lD l 0 sz 2).1=1:=by omega
      rcases this with e | e
      ·exfalso
       rw [uk,hq] at e
       unfold nw2 at e
       cases hr:ic l 0 sz 0 with
       | none=>rw [hr] at e; simp only [if_pos (show q.2 > -1 by omega)] at e; exact absurd e (by decide)
       | some r=>
         have LN:=CW hb hr
         rw [hr] at e; simp only [if_pos (show r.2 > -1 by omega)] at e
         split at e
         ·exact absurd e (show (1:Int)≠-1 by decide)
         ·exact absurd e (show (0:Int)≠-1 by decide)
      ·exact e
     have:fu l 0 sz=some q:=by unfold fu; rw [hn1,if_neg (by decide)]; exact hq
     have:=X8 q this
     simp only [if_pos ha,if_neg (show ¬ q.2>bz by omega)]
  rw [hQ,if_neg (show ¬ (0:Int)<0 by decide)]
  exact hnew
 ·have vS:cQ l 0 sz=1:=by omega
  have hnw:(lD l 0 sz 2).1=0:=by unfold cQ at vS; split at vS; · assumption
                                 ·cases vS
  rw [vS] at hnew hold
  have h0':=hold 0 (by omega) (by omega)
  have ZC:fu l 0 sz=ic l 0 sz 0:=by unfold fu; rw [hnw,if_neg (by decide)]; rfl
  have hQ:lD (iL l 0 sz eO bz) 0 sz 2=(1,bz):=by
   rw [uk,hnew,h0']
   unfold nw2
   cases hq:ic l 0 sz 0 with
   | none=>simp only [if_pos (show bz > -1 by omega)]
   | some q=>
     have h7:=X8 q (by rw [ZC,hq])
     have hq0:=CW hb hq
     simp only [if_pos (show q.2 > -1 by omega),if_pos (show bz>q.2 by omega)]
  rw [hQ,if_neg (show ¬ (1:Int)<0 by decide)]
  exact hnew
theorem Cu.pack {j:jy} {q:Option (List Int×Int)} {bs:List (List Int)} (h:Cu j q bs) {eO:List Int} (hp:bE eO):j.pack eO=j∨Cu (j.pack eO) (some (eO,j.cnt)) []:=by
 have hlen:=h.ok.len
 have hsz:=h.ok.size
 have hok:=h.ok.pack hp
 unfold jy.pack at *
 split
 ·exact .inl rfl
 rename_i hc
 right
 rw [if_neg hc] at hok
 have hE:eX j.l 0 (j.n / 4) eO j.cnt=0:=Decidable.not_not.1 fun e=>hc (.inr e)
 have QO:=h.cnt
 have hlo:=h.lo
 have hhi:=h.hi
 obtain ⟨h1,h2⟩:=Ls h.ok.My hp (by omega) (by omega) hE (zI (by omega) hhi)
 refine ⟨hok,?_,rfl,?_,?_,hhi,?_,rfl,?_,?_,?_⟩
 ·show fu (xk j.n j.l eO j.cnt) 0 (j.n / 4)=_
  unfold xk
  rw [zB (l:=iL j.l 0 (j.n / 4) eO j.cnt) fun k hk=>qP (by omega) (by have:k*(j.n / 4)≤1*(j.n / 4):=Nat.mul_le_mul_right _ (by omega); omega)]
  exact h1
 ·show j.cnt=j.cnt+((0:Nat):Int); omega
 ·show 0≤j.cnt; omega
 ·show pS (xk j.n j.l eO j.cnt) (2*(j.n / 4)) (j.n-2*(j.n / 4))=[]++List.replicate (j.n-2*(j.n / 4)-0) 0
  unfold xk
  rw [tN (by omega) (Nat.le_refl _) (by rw [List.length_replicate]; omega),Nat.sub_self]
  unfold bN
  rw [List.drop_eq_nil_of_le (by rw [tO (by omega),List.length_replicate]; omega)]; simp
 ·intro r hr; cases hr
 ·intro r hr; cases hr
 ·intro r hr; cases hr
end Dv
namespace Dv
open Go Go.Proofs
theorem wg {c:aB} {o:bT} (ho:eP o=true):∀ (bs:List (List Int)) (s:aa) {t:aa},xH c s bs=some t→(bx c t o).2=0→xH c s (bs++[gw o])=some (bx c t o).1
 | [],s,t,h,he=>by
   cases h
   show xH c s [gw o]=_
   unfold xH
   rw [PM ho]
   dsimp only
   rw [if_pos he]; rfl
 | b::bs,s,t,h,he=>by
   rw [List.cons_append]
   unfold xH at h ⊢
   cases hq:A7 b with
   | none=>rw [hq] at h; cases h
   | some p=>
     rw [hq] at h
     dsimp only at h ⊢
     split at h
     ·rename_i h1
      rw [if_pos h1]
      exact wg ho bs _ h he
     ·cases h
theorem GR {c:aB} {o:bT} (ho:eP o=true) {eO:List Int} {bs:List (List Int)} {t:aa} (h:rT c eO bs=some t) (he:(bx c t o).2=0):rT c eO (bs++[gw o])=some (bx c t o).1:=by
 unfold rT at h ⊢
 split at h
 ·rename_i h1
  rw [if_pos h1]
  cases hg:sW c eO with
  | none=>rw [hg] at h; cases h
  | some s=>rw [hg] at h; exact wg ho bs s h he
 ·rename_i h1
  rw [if_neg h1]
  exact wg ho bs _ h he
theorem aaD {c:aB} {s:aa} {o:bT} (hr:bK c s) (h:(bx c s o).2=0):eP o=true:=by
 cases hq:eP o with
 | true=>rfl
 | false=>
   unfold bx AI at h
   rw [if_neg (by rw [(fq c s).2 hr]; decide),if_pos hq] at h
   cases h
structure Dur (x:aO) (q:Option (List Int×Int)) (bs:List (List Int)):Prop where
 Hs:Cu x.j q bs
 rd:rT x.c (rJ q) bs=some x.s
theorem K6 {c:aB} {s:aa} (h:bK c s):rT c (jD s) []=some s:=by
 have hr:=(fq c s).2 h
 obtain ⟨⟨h1,h2⟩,h3,h4,_⟩:=Ey hr
 unfold rT
 rw [if_pos (by omega),UK h1 h2 h3 hr]
 rfl
theorem Dur.fresh {x:aO} {q:Option (List Int×Int)} {bs:List (List Int)} (h:Dur x q bs) (hx:Gm x) (o:bT):∃ q' bs',Cu (x.eG o) q' bs'∧rT x.c (rJ q') bs'=some x.s:=by
 unfold aO.eG aO.Jz
 split
 ·exact ⟨q,bs,h.Hs,h.rd⟩
 split
 ·exact ⟨q,bs,h.Hs,h.rd⟩
 ·rcases h.Hs.pack (y5 x.s) with e | e
  ·rw [e]; exact ⟨q,bs,h.Hs,h.rd⟩
  ·exact ⟨_,_,e,K6 hx.right⟩
theorem Ac (x:aO) (o:bT):(x.eG o).cnt=x.j.cnt:=by
 unfold aO.eG aO.Jz jy.pack
 split
 ·rfl
 split
 ·rfl
 split <;> rfl
theorem Dur.note {x:aO} {q:Option (List Int×Int)} {bs:List (List Int)} (h:Dur x q bs) (hx:Gm x) (o:bT) (now:Int) (hc:x.j.cnt+1≤1000000000):∃ q' bs',Dur (x.dD o now) q' bs'∧(x.dD o now).j.cnt≤x.j.cnt+1:=by
 obtain ⟨q',bs',hj,hr⟩:=h.fresh hx o
 have QO:=Ac x o
 have hlo:0≤x.j.cnt:=by have:=h.Hs.cnt; have:=h.Hs.lo; omega
 unfold aO.dD
 by_cases he:x.fQ o=0
 ·rw [if_pos he]
  obtain ⟨h1,h2,_⟩:=Ab he
  refine ⟨q',bs'++[gw o],⟨hj.add (ED o) h2 (by omega),?_⟩,?_⟩
  ·exact GR (aaD hx.right h1) hr h1
  ·show IntKind.i64.wrap ((x.eG o).cnt+1)≤_
   rw [aL (by omega) (by omega)]; omega
 ·rw [if_neg he]
  exact ⟨q',bs',⟨hj,hr⟩,by show (x.eG o).cnt≤_; omega⟩
theorem Cu.sync {j:jy} {q:Option (List Int×Int)} {bs:List (List Int)} (h:Cu j q bs) (s:Int):Cu { j with s:=s } q bs:=⟨⟨h.ok.len,h.ok.size,h.ok.My,h.ok.used⟩,h.load,h.bz,h.cnt,h.lo,h.hi,h.seg,h.us,h.rcs,h.My,h.one⟩
end Dv
