/- part -/
import Derived.Test.YtkalnfkokkjliaaGreatDoorBA
import Derived.Test.YtkalnfkokkjliaaGreatDoorT22
import Derived.Test.YtkalnfkokkjliaaGreatDoorQD
import Derived.Test.YtkalnfkokkjliaaGreatDoorA3
set_option linter.all false
set_option maxHeartbeats 8000000
set_option maxRecDepth 100000
namespace Dv
open Go Go.Proofs
def aaX:=qx Tryz.f62
theorem Y2:aj Tryz.prog Tryz.f62=some aaX:=by kernel_rfl
def CB (c:aB) (eO:List Int):aa:=if eO.length>0 then (sW c eO).getD kO else dz c
def dB (bs:List (List Int)):List bT:=bs.map fun b=>(A7 b).getD cU
theorem BC {c:aB} {eO:List Int} {bs:List (List Int)} {t:aa} (h:rT c eO bs=some t):(eO.length>0→sW c eO=some (CB c eO))∧xH c (CB c eO) bs=some t:=by
 unfold rT at h
 unfold CB
 by_cases hp:eO.length>0
 ·rw [if_pos hp] at h
  simp only [if_pos hp]
  cases hg:sW c eO with
  | none=>rw [hg] at h; cases h
  | some s=>rw [hg] at h; exact ⟨fun _=>rfl,h⟩
 ·rw [if_neg hp] at h
  simp only [if_neg hp]
  exact ⟨fun h2=>absurd h2 hp,h⟩
theorem yH (c:aB) (s:aa) (o:bT) (l:List bT):∀ k,rI c s (o::l) (k+1)=rI c (bx c s o).1 l k
 | 0=>rfl
 | k+1=>by
   show (bx c (rI c s (o::l) (k+1)) ((o::l).getD (k+1) cU)).1=(bx c (rI c (bx c s o).1 l k) (l.getD k cU)).1
   rw [yH c s o l k]; rfl
theorem yc {c:aB} : ∀ {bs:List (List Int)} {s t:aa},xH c s bs=some t→(∀ k,k<bs.length→A7 (bs.getD k [])=some ((dB bs).getD k cU)∧(bx c (rI c s (dB bs) k) ((dB bs).getD k cU)).2=0)∧rI c s (dB bs) bs.length=t
 | [],s,t,h=>by cases h; exact ⟨fun k hk=>absurd hk (Nat.not_lt_zero k),rfl⟩
 | b::bs,s,t,h=>by
   unfold xH at h
   cases hq:A7 b with
   | none=>rw [hq] at h; cases h
   | some o=>
     rw [hq] at h
     dsimp only at h
     split at h
     ·rename_i he
      obtain ⟨h1,h2⟩:=yc h
      have e:dB (b::bs)=o::dB bs:=by unfold dB; rw [List.map_cons,hq]; rfl
      rw [e]
      refine ⟨fun k hk=>?_,?_⟩
      ·cases k with
       | zero=>exact ⟨hq,he⟩
       | succ k=>
         rw [yH]
         exact h1 k (Nat.lt_of_succ_lt_succ hk)
      ·show rI c s (o::dB bs) (bs.length+1)=t
       rw [yH]; exact h2
     ·cases h
theorem lB (bs:List (List Int)):(dB bs).length=bs.length:=List.length_map _
theorem U_ {c:aB} {bs:List (List Int)} {s t:aa} (h:xH c s bs=some t):OkT c s (dB bs):=fun k hk=>((yc h).1 k (by rw [lB] at hk; exact hk)).2
theorem Le {bs:List (List Int)} {k:Nat} (h:k<bs.length):(dB bs).take (k+1)=(dB bs).take k++[(dB bs).getD k cU]:=by
 rw [List.take_add_one,List.getD,List.getElem?_eq_getElem (by rw [lB]; exact h)]; rfl
def Kc:aC:=.box 33 [.int 0,.d (.val (.slice none 0 0)),.d (.val (.slice none 0 0)),.int 0,.int 0,.int 0,.int 0,.d (.val (.slice none 0 0))]
def tdS (c:aB) (l:List Int) (j:jy) (bz:Int) (s:aa) (bs:List (List Int)) (k:Nat):St:=⟨[(2,.ptr 0 0),(4,.ptr 1 0),(11,.ptr 8 0),(13,.ptr 9 0),(72,.d (.dK 1 (bR bs))),(73,.int bs.length),(74,.int k)],
 [some (mM c),some Kc,some (.box 150 [.sl 3 j.n 1 0 j.n,.d (.val (.slice none 0 0)),.int j.s]),some (.dat 5 1 (az j.l)),some (.dat 227 2 [[i64 0,.dK 1 (az l)]]),
  some (.box 160 [.ptr 2 0,.ptr 6 0,.ptr 7 0,.int j.cnt,.int j.bz]),some (.box 243 [.ptr 2 0,.int 0,.int ((j.n / 4:Nat):Int)]),some (.box 245 [.ptr 2 0,.int ((2*(j.n / 4):Nat):Int),.int ((j.n-2*(j.n / 4):Nat):Int),.int j.us]),
  some (.box 33 [.int bz,bS s.nodes,de s.jobs,.int s.goal,.int s.prior,.int s.mode,.int s.term,.sl 10 k 7 0 k]),some (yI (rI c s (dB bs) k)),some (.dat 37 7 (((dB bs).take k).map NY))]⟩
theorem Kz (c:aB) (hm:iq c=true) (n:Nat) (hn:64≤n∧n≤65536) (l:List Int) (hl:l.length=n) (hb:bE l) (t:aa) (ht:rT c (rJ (ji l n)) (ue l n)=some t) (hq0:0≤ew (ji l n)∧ew (ji l n)≤1000000000):bh Tryz.prog cR 62 [fN c,ak l] [] (.dH [kW (ew (ji l n)) (CB c (rJ (ji l n))) (dB (ue l n)),.int 0]) []:=by
 have hmay:=x_ (G:=cR) c
 rw [hm] at hmay
 have hdn:=w_ (G:=cR) n (by omega) (by omega)
 have hdw:=ga (G:=cR) (List.replicate n 0) 0 0 l (by rw [List.length_replicate]; omega) (by rw [List.length_replicate]; omega)
 have hds:=gK (G:=cR) (List.replicate n 0) 0 0 l (by rw [List.length_replicate]; omega) (by rw [List.length_replicate]; omega)
 have hov:bN (List.replicate n 0) 0 l=l:=by
  unfold bN
  rw [List.take_zero,List.nil_append,Nat.zero_add,List.drop_of_length_le (by rw [List.length_replicate]; omega),List.append_nil]
 rw [hov] at hds
 have hop:=LC (G:=cR) n l (IntKind.i64.wrap (0+1)) hn hl hb
 have hq:=RC hl hb
 have ho:=RD hl hb
 have hgt:=UH (G:=cR) c (rJ (ji l n)) hq.1 (by omega)
 have hnw:=Ju (G:=cR) c
 have QO:(sP l n (IntKind.i64.wrap (0+1))).cnt=ew (ji l n)+(ue l n).length:=by unfold sP; split <;> rfl
 have hjn:=YE l n (IntKind.i64.wrap (0+1))
 obtain ⟨hst,hap⟩:=BC ht
 obtain ⟨hat,_⟩:=yc hap
 have hjc:=Hw (G:=cR) n (sP l n (IntKind.i64.wrap (0+1))).l (sP l n (IntKind.i64.wrap (0+1))).s (sP l n (IntKind.i64.wrap (0+1))).cnt (sP l n (IntKind.i64.wrap (0+1))).bz (sP l n (IntKind.i64.wrap (0+1))).us
 have X1:¬ (rJ (ji l n)).length>0→CB c (rJ (ji l n))=dz c:=fun h=>by unfold CB; rw [if_neg h]
 generalize CB c (rJ (ji l n))=s at *
 generalize sP l n (IntKind.i64.wrap (0+1))=j at *
 generalize rJ (ji l n)=eO at *
 generalize ue l n=bs at *
 generalize ew (ji l n)=bz at *
 subst hjn
 have w1:IntKind.i64.wrap (j.cnt-(bs.length:Int))=bz:=by rw [QO,show bz+(bs.length:Int)-(bs.length:Int)=bz by omega]; exact aL (by omega) (by omega)
 have hcl:(bR bs).length=bs.length:=by simp [bR]
 generalize dz c=s0 at *
 simp only [eN,jK,vi,hl,hov,List.length_replicate,List.cons_append,List.nil_append] at hdn hdw hds hop
 simp only [jP,jnP,ak] at hop
 simp only [uy] at hjc
 simp only [ak] at hdw hgt
 refine cA Tryz.func62 (by decide) Y2 rfl ?_
 simp only [ak,aaX,go_sem]
 refine ax (hmay) rfl rfl rfl rfl ?_; simp only [go_sem]
 simp only [aA,hl,decide_eq_false (show ¬ ((j.n:Nat):Int)<64 by omega),decide_eq_false (show ¬ ((j.n:Nat):Int)>65536 by omega),go_sem]
 refine gu hdn rfl rfl rfl ?_
 simp only [go_sem]
 refine av [2,3] (hdw) rfl ?_ (by decide) ?_ ?_ (by simp) ?_ <;> simp only [ag,ah,go_sem]
 refine av [2,3,4] (hds) rfl ?_ (by decide) ?_ ?_ (by simp) ?_ <;> simp only [ag,ah,go_sem]
 refine av [2,3] (hop) rfl ?_ (by decide) ?_ ?_ (by simp) ?_ <;> simp only [ag,ah,go_sem]
 refine f_ [5,2,6,7,3] (hjc) rfl ?_ (by decide) ?_ ?_ ?_ <;> simp only [ag,ah,go_sem]
 simp only [hcl,w1,go_sem]
 refine aU (hnw) rfl rfl rfl rfl ?_; simp only [go_sem]
 refine an rfl ?_
 simp only [aA,go_sem]
 by_cases hp0:eO.length>0
 case' pos=>
  rw [hst hp0] at hgt
  simp only [wV,Option.getD,Option.isSome,aY] at hgt
  simp only [decide_eq_true (show ((eO.length:Nat):Int)>0 by omega),go_sem]
  refine ax (hgt) rfl rfl rfl rfl ?_; simp only [go_sem]
 case' neg=>
  obtain rfl:=X1 hp0
  simp only [decide_eq_false (show ¬ ((eO.length:Nat):Int)>0 by omega),go_sem]
 all_goals
  refine aR [2,4,11,13,72,73,74] [.b 8 7 37 7] (fun k:Nat=>k≤bs.length) (fun k=>bs.length-k) (tdS c l j bz s bs) 0 ?_ (Nat.zero_le _) (fun k hk=>?_)
  ·simp only [tdS,mM,Kc,yI,rI,hcl,Int.natCast_zero,go_sem]
  simp only [tdS,mM,Kc,yI,go_sem]
  by_cases hlt:k<bs.length
  case neg=>
   obtain rfl:k=bs.length:=by omega
   simp only [decide_eq_false (show ¬ ((bs.length:Nat):Int)<((bs.length:Nat):Int) by omega),go_sem]
   exact dZ [10] rfl (by simp [St.obj,au]) (by simp [St.obj,au,aP,St.get,aW,ah,ag,bB,kW,lz,LV.int,bS,de,lB,List.take_of_length_le])
  have hg:=aK (f:=fun b:List Int=>[DV.dK 1 (az b)]) [] hlt
  rw [show bs.map (fun b:List Int=>[DV.dK 1 (az b)])=bR bs from rfl] at hg
  have hm2:bs.getD k []∈bs:=by rw [List.getD_eq_getElem?_getD,List.getElem?_eq_getElem hlt]; exact List.getElem_mem hlt
  have Fo:=Od (bs.getD k []) (ho.1 _ hm2).1 (by have:=(ho.1 _ hm2).2; omega)
  obtain ⟨hak,hae⟩:=hat k hlt
  have hsc:rI c s (dB bs) (k+1)=(bx c (rI c s (dB bs) k) ((dB bs).getD k cU)).1:=rfl
  have htk:=Le hlt
  rw [hak] at Fo
  have ZP:=rC c (rI c s (dB bs) k) ((dB bs).getD k cU)
  have htl:((dB bs).take k).length=k:=by rw [List.length_take,lB]; omega
  have c1:(k+1)*56≤70368744177664:=by omega
  generalize bs.getD k []=b at *
  generalize (dB bs).getD k cU=o at *
  rw [hae,← hsc] at ZP
  obtain ⟨o1,o2,o3,o4,o5,o6,o7⟩:=o
  simp only [ak,Vr,Option.getD,Option.isSome,tA] at Fo
  simp only [aY,tA] at ZP
  simp only [decide_eq_true (show ((k:Nat):Int)<((bs.length:Nat):Int) by omega),hg,go_sem]
  refine ax (Fo) rfl rfl rfl rfl ?_; simp only [go_sem]
  refine ax (ZP) rfl rfl rfl rfl ?_; simp only [go_sem]
  simp only [bne_self_eq_false,List.length_append,htl,c1,go_sem]
  refine bg (k+1) ?_ ?_ (by omega) (by omega)
  ·simp only [go_sem]
  ·simp only [tdS,mM,Kc,yI,htk,List.map_append,aG (show k<9223372036854775807 by omega),go_sem]
end Dv
namespace Dv
open Go Go.Proofs
theorem zo {x:aO} (h:x.dA=x.j.cnt) (o:bT) (now:Int):(x.dD o now).dA=(x.dD o now).j.cnt:=by
 have hc:=Ac x o
 unfold aO.dD
 split
 ·show IntKind.i64.wrap (x.dA+1)=IntKind.i64.wrap ((x.eG o).cnt+1)
  rw [h,hc]
 ·show x.dA=(x.eG o).cnt
  rw [h,hc]
theorem Yw {c:aB} {n k:Nat} {x:aO} (h:jx c n k x) (hnt:x.dA=x.j.cnt) (hk:k≤1000) (o:bT) {now:Int} (hn:0≤now∧now≤1000000):∃ e y,bh Tryz.prog g_ 43 [.ptr 0 0,tA o,.int now] (bZ x) (.int e) (bZ y)∧jx c n (k+1) y∧y.dA=y.j.cnt:=by
 refine ⟨_,_,bh.up (U4 x h.fi.ok h.fi.dn o now) qO,?_⟩
 unfold aO.doX
 split
 ·exact ⟨h.note hk (by omega) hn,zo hnt o now⟩
 ·exact ⟨h.more (Nat.le_succ _),hnt⟩
theorem QZ {c:aB} {n k:Nat} {x:aO} (h:jx c n k x) (hnt:x.dA=x.j.cnt) (hk:k≤1000) {now:Int} (hn:0≤now∧now≤1000000):∃ o y ms,bh Tryz.prog g_ 44 [.ptr 0 0,.int now] (bZ x) (.dH [tA o,jr ms]) (bZ y)∧jx c n (k+1) y∧y.dA=y.j.cnt:=by
 have sV:=h.fi.ok.lines
 have DR:=h.fi.ok.right.len
 have hlj:=h.fi.ok.right.jobs
 have hA:jx c n (k+1) (x.lW now (oD x.s (x.pY x.lines.length) now) (qa x.c x.s now))∧(x.lW now (oD x.s (x.pY x.lines.length) now) (qa x.c x.s now)).dA=(x.lW now (oD x.s (x.pY x.lines.length) now) (qa x.c x.s now)).j.cnt:=by
  unfold aO.lW
  split
  ·rename_i o ho
   exact ⟨h.note hk (Ll (u:=none) ho) hn,zo hnt o now⟩
  ·exact ⟨h.more (Nat.le_succ _),hnt⟩
 obtain ⟨hA,hAn⟩:=hA
 have hT:=Vb x h.fi.ok h.fi.dn now hn h.fi.hr (oD x.s (x.pY x.lines.length) now) (qa x.c x.s now) (A8 x.s _ now (by omega) (by omega)) (NH x.c x.s h.fi.ok.right now hn) (fun _=>0) (fun i hi=>by
  have hr:=hA.fi.ok.right
  have ads:=hr.jobs
  refine Ld _ _ hr _ i (by rw [← hA.fi.ok.lines]; exact hi) _ _ _ _ (fun j hj=>?_)
  exact PG _ (by omega) _ _ _ _ hA.fi.ok.sh hA.fi.sz (fun e he=>(hr.num e he).epoch.1) j hj)
 refine ⟨_,_,_,hT,hA.IZ _ now x.lines.length,?_⟩
 rw [(pM _ _ _ _).dA,(pM _ _ _ _).j]; exact hAn
theorem Ky {c:aB} (h:iq c=true) {n:Nat} (hn:64≤n∧n≤65536) (room:Int):(FQ c n 0 room 0 (List.replicate 25 iP) 0 0).dA=(FQ c n 0 room 0 (List.replicate 25 iP) 0 0).j.cnt:=
 zo (x:=mj c n 0 room 0 (List.replicate 25 iP) 0 0) rfl fT 0
theorem M6 {c:aB} {n k:Nat} {x:aO} (h:jx c n k x) (hm:iq c=true) (hk:k≤1001) (hnt:x.dA=x.j.cnt):∃ bz s os,bh Tryz.prog g_ 62 [fN c,ak x.j.l] [] (.dH [kW bz s os,.int 0]) []∧bK c s∧OkT c s os∧rI c s os os.length=x.s∧0≤bz∧bz≤1001∧os.length≤1001∧bz+os.length=x.dA:=by
 obtain ⟨q,bs,hd⟩:=h.du
 obtain ⟨h1,h2,h3⟩:=hd.Hs.opn 0
 have hrd:=hd.rd
 have hct:=h.ct
 have QO:=hd.Hs.cnt
 have hlo:=hd.Hs.lo
 have vm:=hd.Hs.ok.len
 have hsz:=hd.Hs.ok.size
 have hby:=hd.Hs.ok.My
 rw [h.fi.cf] at hrd
 have hR:=Kz c hm x.j.n hsz x.j.l vm hby x.s (by rw [h1,h2]; exact hrd) (by rw [h1]; omega)
 rw [h1,h2] at hR
 obtain ⟨g1,g2⟩:=BC hrd
 refine ⟨_,_,_,bh.up hR qO,?_,U_ g2,by rw [lB]; exact (yc g2).2,hlo,by omega,by rw [lB]; omega,by rw [lB,hnt,QO]⟩
 unfold CB
 split
 ·rename_i hp
  have:=g1 hp
  unfold CB at this
  rw [if_pos hp] at this
  exact HW this
 ·exact oq hm
end Dv
namespace Dv
open Go Go.Proofs
def abb:=qx Tryz.f12
theorem Zg:aj Tryz.prog Tryz.f12=some abb:=by kernel_rfl
def tlS (c:aB) (l:List bT) (q:Nat×aO):St:=⟨[(1,lz l),(2,.ptr 0 0),(4,.bool false),(5,.ptr 1 0),(6,.ptr 4 0),(7,.int 0),(8,.int q.1)],(wQ c q.2).map some⟩
def Q_ (c:aB) (x:aO) (bz:Int) (s:aa) (os:List bT) (k:Nat):St:=⟨[(2,.ptr 0 0),(4,.bool false),(6,.ptr 4 0),(9,.ptr 9 0),(11,.ptr 10 0),(12,.bool true),(13,.int k)],((wQ c x)++[mL bz s os,uY (rI c s os k)]).map some⟩
theorem Qr {c:aB} {bz:Int} {s:aa} {l:List bT} {k:Nat} (h:k≤l.length):atV c bz s l (bz+k)=.dH [aY (rI c s l k),.bool true]:=by
 unfold atV
 rw [if_pos ⟨by omega,by omega⟩,show (bz+(k:Int)-bz).toNat=k by omega]
theorem yy (c:aB) (l:List bT):bh Tryz.prog tK 12 [fN c,lz l] [] (.bool true) []:=by
 refine bn Tryz.func12 (by decide) Zg rfl rfl ?_
 simp only [abb,go_sem]
 refine ax (F_) rfl rfl rfl rfl ?_; simp only [go_sem]
 refine ax (Oz c) rfl rfl rfl rfl ?_; simp only [go_sem]
 cases hm:iq c with
 | false=>simp only [go_sem]
 | true=>
 simp only [lz,go_sem]
 by_cases h0:c.gX>4000
 ·simp only [decide_eq_true h0,go_sem]
 simp only [decide_eq_false h0,go_sem]
 by_cases h1:(l.length:Int)>60
 ·simp only [decide_eq_true h1,go_sem]
 simp only [decide_eq_false h1,go_sem]
 have hdk:2000≤c.gX:=by
  unfold iq at hm
  simp only [Bool.and_eq_true] at hm
  exact (aX hm.2).1
 obtain ⟨n,hn⟩:∃ n:Nat,c.gX=n:=⟨c.gX.toNat,by omega⟩
 have hdn:=w_ (G:=tK) n (by omega) (by omega)
 have X1:=CC (G:=tK) c.room
 have hb:=bh.up (MB c hm n (by omega) 0 (if c.room>0 then c.room else 0) 0 (List.replicate 25 iP) (by rw [List.length_replicate]) 0 0 (by decide)) vw
 have hok:=Hq hm (n:=n) (by omega) (if c.room>0 then c.room else 0)
 have hnt:=Ky hm (n:=n) (by omega) (if c.room>0 then c.room else 0)
 generalize FQ c n 0 (if c.room>0 then c.room else 0) 0 (List.replicate 25 iP) 0 0=x0 at *
 generalize hsh:List.replicate 25 iP=sh at *
 generalize (if c.room>0 then c.room else 0)=room at *
 simp only [eN,List.length_replicate] at hdn hb
 simp only [kP,F1,J_,List.cons_append,List.nil_append] at X1 hb
 rw [← hn] at hdn
 refine gu hdn rfl rfl rfl ?_
 simp only [go_sem]
 refine jf X1 rfl rfl rfl ?_
 simp only [bL,cu,go_sem]
 refine ei [1,2,3] (hb) rfl ?_ (by decide) ?_ ?_ (by simp) ?_ <;> simp only [ag,ah,go_sem,bL,cu,aZ,bF]
 refine an rfl ?_
 simp only [go_sem]
 refine aR [1,2,4,5,6,7,8] [] (fun q:Nat×aO=>q.1≤l.length∧jx c n (2*q.1+1) q.2∧q.2.dA=q.2.j.cnt) (fun q=>l.length-q.1) (tlS c l) (0,x0) ?_ ⟨Nat.zero_le _,hok,hnt⟩ ?_
 ·simp only [tlS,wQ,AF,As,bC,lz,Int.natCast_zero,go_sem]
 rintro ⟨i,x⟩ ⟨hi,hx,hxn⟩
 dsimp only at hi hx hxn
 simp only [tlS,wQ,AF,As,bC,lz,go_sem]
 by_cases hlt:i<l.length
 case pos=>
  have hg:=aK (f:=NY) cU hlt
  generalize l.getD i cU=o at *
  obtain ⟨o1,o2,o3,o4,o5,o6,o7⟩:=o
  simp only [NY] at hg
  obtain ⟨e,y,hdo,hy,hyn⟩:=Yw hx hxn (by omega) ⟨o1,o2,o3,o4,o5,o6,o7⟩ (now:=0) (by decide)
  obtain ⟨o,z,ms,hact,hz,hzn⟩:=QZ hy hyn (by omega) (now:=0) (by decide)
  have hdo:=bh.up hdo nh
  have hact:=bh.up hact nh
  simp only [bZ,eU,bC,tA,List.cons_append,List.nil_append] at hdo hact
  simp only [decide_eq_true (show ((i:Nat):Int)<((l.length:Nat):Int) by omega),hlt,hg,go_sem]
  refine av [4,6,1,7,8,2,3,5] (hdo) rfl ?_ (by decide) ?_ ?_ (by simp) ?_ <;> simp only [ag,ah,go_sem,bL,cu,aZ,bF]
  refine av [4,6,1,7,8,2,3,5] (hact) rfl ?_ (by decide) ?_ ?_ (by simp) ?_ <;> simp only [ag,ah,go_sem,bL,cu,aZ,bF]
  refine bg (i+1,z) ?_ ?_ ⟨show i+1≤l.length by omega,hz,hzn⟩ (show l.length-(i+1)<l.length-i by omega)
  ·simp only [aZ,bF,go_sem]
  ·simp only [aG (show i<9223372036854775807 by omega),tlS,wQ,AF,As,bC,lz,go_sem]
 case neg=>
  obtain ⟨bz,s,os,hR,zP,hoT,hst,ha0,ha1,hol,hsum⟩:=M6 hx hm (by omega) hxn
  have hxl:x.j.l.length=x.j.n:=hx.fi.ok.jn.len
  have hxs:=hx.fi.ok.jn.size
  have hby:=iu (G:=tK) x.j.l x.j.s (by omega)
  have hR:=bh.up hR nh
  have hnd:=Ir (G:=tK) x
  have hA:=fun q=>bh.up (U8 c bz s os q zP hoT (by omega) (by omega)) vw
  have hT:=fun s (o:bT)=>bh.up (rC c s o) vw
  have hS:=fun s (h:bK c s)=>KT (G:=tK) s s (by have:=h.len; omega) (by have:=h.jobs; omega)
  have hcs:=Io (G:=tK) x hx.fi.dn (by have:=hx.fi.ok.right.len; omega) (by have:=hx.fi.ok.right.jobs; omega)
  simp only [eN,hxl] at hby
  simp only [ak,kW,lz] at hby hR
  simp only [bZ,eU,bC,List.cons_append,List.nil_append] at hnd hcs
  simp only [decide_eq_false (show ¬ ((i:Nat):Int)<((l.length:Nat):Int) by omega),bne_self_eq_false,go_sem]
  refine f_ [1,2] (hby) rfl ?_ (by decide) ?_ ?_ ?_ <;> simp only [ag,ah,go_sem,bL,cu,aZ,bF]
  refine aU (hR) rfl rfl rfl rfl ?_; simp only [go_sem]
  refine an rfl ?_
  simp only [bne_self_eq_false,go_sem]
  have hw:IntKind.i64.wrap (bz+(os.length:Int))=x.dA:=by rw [hsum]; have:=hx.fi.nt; exact aL (by omega) (by omega)
  have hA0:bh Tryz.prog tK 18 [fN c,kW bz s os,.int bz] [] (.dH [aY s,.bool true]) []:=by
   have h1:=hA bz
   have h2:=Qr (c:=c) (bz:=bz) (s:=s) (l:=os) (k:=0) (Nat.zero_le _)
   rw [show bz+((0:Nat):Int)=bz by omega] at h2
   rw [h2] at h1
   exact h1
  have hcl:(os.map NY).length=os.length:=List.length_map _
  refine f_ [4,6,1,7,8,2,3,5] (hnd) rfl ?_ (by decide) ?_ ?_ ?_ <;> simp only [ag,ah,go_sem,hw,bne_self_eq_false,bL,cu,aZ,bF]
  simp only [kW,lz] at hA0
  refine ax (hA0) rfl rfl rfl rfl ?_; simp only [go_sem]
  refine aR [2,4,6,9,11,12,13] [] (fun k:Nat=>k≤os.length) (fun k=>os.length-k) (Q_ c x bz s os) 0 ?_ (Nat.zero_le _) (fun k hk=>?_)
  ·simp only [Q_,wQ,AF,As,bC,mL,uY,i_,lz,rI,Int.natCast_zero,go_sem]
  simp only [Q_,wQ,AF,As,bC,mL,uY,i_,lz,go_sem]
  by_cases hlk:k<os.length
  case neg=>
   obtain rfl:k=os.length:=by omega
   have hss:=hS x.s (by have:=hx.fi.ok.right; rwa [hx.fi.cf] at this)
   rw [hst]
   simp only [aY] at hss hcs
   simp only [hcl,decide_eq_false (show ¬ ((os.length:Nat):Int)<((os.length:Nat):Int) by omega),go_sem]
   refine f_ [4,6,1,7,8,2,3,5] (hcs) rfl ?_ (by decide) ?_ ?_ ?_ <;> simp only [ag,ah,go_sem,bL,cu,aZ,bF]
   refine aU (hss) rfl rfl rfl rfl ?_; simp only [go_sem]
  case pos=>
   have hg:=aK (f:=NY) cU hlk
   have hap:=hoT k hlk
   have hsk:rI c s os (k+1)=(bx c (rI c s os k) (os.getD k cU)).1:=rfl
   have hT1:=hT (rI c s os k) (os.getD k cU)
   have hA1:=hA (bz+((k+1:Nat):Int))
   rw [Qr (show k+1≤os.length by omega)] at hA1
   have hss:=hS (rI c s os (k+1)) (vz zP os (k+1))
   rw [hap,← hsk] at hT1
   have w1:IntKind.i64.wrap (IntKind.i64.wrap (bz+(k:Int))+1)=bz+((k+1:Nat):Int):=by rw [aL (n:=bz+(k:Int)) (by omega) (by omega),aL (by omega) (by omega)]; omega
   generalize hv:rI c s os (k+1)=v at hT1 hA1 hss ⊢
   generalize rI c s os k=u at *
   generalize os.getD k cU=o at *
   obtain ⟨o1,o2,o3,o4,o5,o6,o7⟩:=o
   simp only [NY] at hg
   simp only [aY,tA] at hT1
   simp only [aY,kW,lz] at hA1
   simp only [aY] at hss
   simp only [hcl,decide_eq_true (show ((k:Nat):Int)<((os.length:Nat):Int) by omega),hlk,hg,go_sem]
   refine aU (hT1) rfl rfl rfl rfl ?_; simp only [go_sem]
   refine an rfl ?_
   simp only [w1,bne_self_eq_false,go_sem]
   refine ax (hA1) rfl rfl rfl rfl ?_; simp only [go_sem]
   refine ax (hss) rfl rfl rfl rfl ?_; simp only [go_sem]
   refine bg (k+1) ?_ ?_ (show k+1≤os.length by omega) (show os.length-(k+1)<os.length-k by omega)
   ·simp only [aZ,bF,go_sem]
   ·subst hv
    simp only [aG (show k<9223372036854775807 by omega),Q_,wQ,AF,As,bC,mL,uY,i_,lz,go_sem]
end Dv
