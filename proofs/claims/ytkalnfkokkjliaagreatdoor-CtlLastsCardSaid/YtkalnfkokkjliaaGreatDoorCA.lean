/- part -/
import Derived.Test.YtkalnfkokkjliaaGreatDoorNA
import Derived.Test.YtkalnfkokkjliaaGreatDoorPB
import Derived.Test.YtkalnfkokkjliaaGreatDoorOA
import Derived.Test.YtkalnfkokkjliaaGreatDoorD7
import Derived.Test.YtkalnfkokkjliaaGreatDoorDD
import Derived.Test.YtkalnfkokkjliaaGreatDoorQ9
import Derived.Test.YtkalnfkokkjliaaGreatDoorDA
import Derived.Test.YtkalnfkokkjliaaGreatDoorI9
set_option linter.all false
set_option maxHeartbeats 2000000
set_option maxRecDepth 100000
namespace Dv
open Go Go.Proofs
variable {G:Nat→Option (List DV)}
def bB (l:List Int):Prop:=∀ c∈l,0≤c∧c≤255
theorem bB.cat {a b:List Int} (ha:bB a) (hb:bB b):bB (a++b):=fun c hc=>(List.mem_append.1 hc).elim (ha c) (hb c)
theorem GG:∀ (f:Nat) (m:Int),0≤m→m<256*128 ^ f→bB (iM f m)
 | 0,m,h,h2=>by
   intro c hc
   unfold iM at hc
   simp only [List.mem_singleton] at hc
   subst hc
   omega
 | f+1,m,h,h2=>by
   intro c hc
   unfold iM at hc
   split at hc
   ·rcases List.mem_cons.1 hc with rfl | hc
    ·omega
    ·refine GG f _ (by omega) ?_ c hc
     rw [Int.pow_succ] at h2
     omega
   ·simp only [List.mem_singleton] at hc; subst hc; omega
theorem jx (n:Int):bB (bw n):=by
 unfold bw
 split
 ·rename_i h
  unfold isNum eV at h
  rw [decide_eq_true_eq] at h
  exact GG 8 n h.1 (by omega)
 ·intro c hc; cases hc
theorem CD (l:List Int):bB (jJ l):=by
 unfold jJ
 split
 ·refine bB.cat (jx _) (fun c hc=>?_)
  obtain ⟨x,_,hx⟩:=List.mem_flatMap.1 hc
  exact jx x c hx
 ·intro c hc; cases hc
theorem Zp (n:Int):0≤IntKind.u8.wrap n∧IntKind.u8.wrap n≤255:=by
 show 0≤n % 256∧n % 256≤255
 omega
theorem Od (n:Int):bB (nB n):=by
 intro c hc
 simp only [nB,List.mem_cons,List.not_mem_nil,or_false] at hc
 rcases hc with rfl | rfl | rfl | rfl <;> exact Zp _
theorem lU {p:List Int} (h:bB p):bB (cH p):=by
 unfold cH
 split
 ·intro c hc; cases hc
 ·exact (((jx _).cat h).cat (Od _)).cat (fun c hc=>by simp only [List.mem_singleton] at hc; subst hc; omega)
theorem jQ {l:List Int} {a:Nat} {b:List Int} (hl:bB l) (hb:bB b):bB (bF l a b):=
 bB.cat (bB.cat (fun c hc=>hl c (List.mem_of_mem_take hc)) hb) (fun c hc=>hl c (List.mem_of_mem_drop hc))
theorem jf (n:Nat):bB (List.replicate n 0):=fun c hc=>by rw [List.eq_of_mem_replicate hc]; omega
theorem zQ (o:cB):bB (fh o):=by
 unfold fh
 split
 ·exact CD _
 ·intro c hc; cases hc
theorem zR (s:aa):bB (jN s):=by
 unfold jN
 split
 ·exact CD _
 ·intro c hc; cases hc
theorem FX (l:List Int):(jJ l).length≤9*l.length+9:=by
 unfold jJ
 split
 ·have h1:=KR l
  have h2:=iQ (l.length:Int)
  rw [List.length_append]; omega
 ·simp
theorem Sn (o:cB):(fh o).length≤90:=by
 unfold fh
 split
 ·have h1:=FX (o.kind::(cL o).take (ej o.kind))
  have h3:(o.kind::(cL o).take (ej o.kind)).length≤7:=by rw [List.length_cons,List.length_take]; simp [cL]; omega
  omega
 ·simp
theorem Sq (s:aa):(jN s).length≤3000:=by
 unfold jN
 split
 ·rename_i h
  have h1:=FX (fZ s)
  have h2:(fZ s).length≤320:=by
   unfold fZ
   rw [List.length_append,wv s (Nat.le_refl _)]
   simp only [List.length_cons,List.length_nil]
   omega
  omega
 ·simp
theorem LL {l:List Int} {fr sz:Nat} {b:List Int} {cv:Int} (hl:bB l) (hb:bB b):bB (iY l fr sz b cv):=
 jQ (jQ hl (jf _)) (lU ((jx _).cat hb))
theorem Nk {n:Nat} {l eZ:List Int} {cnt:Int} (hl:bB l) (hb:bB eZ):bB (ya n l eZ cnt):=jQ (LL hl hb) (jf _)
structure gP where
 n:Nat
 l:List Int
 s:Int
 cnt:Int
 cv:Int
 us:Nat
def jO (j:gP):List aG:=xQ j.n j.l j.s j.cnt j.cv j.us
structure vN (j:gP):Prop where
 len:j.l.length=j.n
 size:64≤j.n∧j.n≤65536
 Hp:bB j.l
 used:j.us≤j.n-2*(j.n / 4)
def gP.room (j:gP) (k:Nat):Bool:=mS j.n j.us j.cnt k
def gP.add (j:gP) (p:List Int):gP:={ j with l:=bF j.l (2*(j.n / 4)+j.us) (eY j.cnt p),s:=IntKind.i64.wrap (j.s+1),cnt:=IntKind.i64.wrap (j.cnt+1),us:=j.us+(eY j.cnt p).length }
def gP.OK (j:gP) (eZ:List Int):Int:=if j.cv=j.cnt∨fm j.l 0 (j.n / 4) eZ j.cnt≠0 then 3 else 0
def gP.pack (j:gP) (eZ:List Int):gP:=if j.cv=j.cnt∨fm j.l 0 (j.n / 4) eZ j.cnt≠0 then j else { j with l:=ya j.n j.l eZ j.cnt,s:=IntKind.i64.wrap (IntKind.i64.wrap (IntKind.i64.wrap (j.s+1)+1)+1),cv:=j.cnt,us:=0 }
theorem CH (j:gP) (h:vN j) (k:Nat) (hk:k≤900000):bu Tryz.prog G 183 [.ptr 0 0,.int k] (jO j) (.bool (j.room k)) (jO j):=Cj j.n j.l j.s j.cnt j.cv j.us k h.len h.size.2 h.used hk
theorem PF (j:gP) (h:vN j) (p:List Int) (hr:j.room p.length=true):bu Tryz.prog G 33 [.ptr 0 0,aq p] (jO j) (.int 0) (jO (j.add p)):=F5 j.n j.l j.s j.cnt j.cv j.us p h.len (by have:=h.size; omega) h.used hr
theorem Mu (j:gP) (h:vN j) (eZ:List Int) (hp:eZ.length≤90000):bu Tryz.prog G 31 [.ptr 0 0,aq eZ] (jO j) (.int (j.OK eZ)) (jO (j.pack eZ)):=by
 obtain ⟨n,l,s,cnt,cv,us⟩:=j
 unfold gP.OK gP.pack
 dsimp only
 by_cases h1:cv=cnt
 ·rw [if_pos (.inl h1),if_pos (.inl h1)]
  subst h1
  exact yz n l s cv us eZ
 by_cases h2:fm l 0 (n / 4) eZ cnt=0
 ·rw [if_neg (by simp [h1,h2]),if_neg (by simp [h1,h2])]
  exact GJ n l s cnt cv us eZ h.len h.size h.Hp hp h1 h2
 ·rw [if_pos (.inr h2),if_pos (.inr h2)]
  exact Ba n l s cnt cv us eZ h.len h.size h.Hp hp h1 h2
theorem gP.uA {j:gP} {p:List Int} (hr:j.room p.length=true):j.us+(eY j.cnt p).length≤j.n-2*(j.n / 4):=by
 unfold gP.room mS qI at hr
 rw [Bool.and_eq_true,decide_eq_true_eq,decide_eq_true_eq] at hr
 have hrl:(bw j.cnt++p).length=p.length+(bw j.cnt).length:=by rw [List.length_append,Nat.add_comm]
 unfold eY
 rw [lV (by omega),hrl]
 omega
theorem vN.add {j:gP} (h:vN j) {p:List Int} (hp:bB p) (hr:j.room p.length=true):vN (j.add p):=by
 have hf:=gP.uA hr
 have hs:=h.size
 have hlen:=h.len
 refine ⟨?_,h.size,jQ h.Hp (lU ((jx _).cat hp)),hf⟩
 show (bF j.l (2*(j.n / 4)+j.us) (eY j.cnt p)).length=j.n
 rw [dB (by omega),h.len]
theorem vN.pack {j:gP} (h:vN j) {eZ:List Int} (hp:bB eZ):vN (j.pack eZ):=by
 have hs:=h.size
 have hlen:=h.len
 unfold gP.pack
 split
 ·exact h
 ·rename_i hc
  refine ⟨?_,h.size,Nk h.Hp hp,by show 0≤_; omega⟩
  show (bF (iY j.l 0 (j.n / 4) eZ j.cnt) (2*(j.n / 4)) (List.replicate (j.n-2*(j.n / 4)) 0)).length=j.n
  have yW:=Ce (l:=j.l) (sz:=j.n / 4) (b:=eZ) (cv:=j.cnt) (by omega) (by simp at hc; exact hc.2)
  rw [dB (by rw [List.length_replicate]; omega),yW,hlen]
theorem gP.acE (j:gP) (p:List Int):(j.add p).n=j.n:=rfl
theorem gP.tC (j:gP) (p:List Int):(j.pack p).n=j.n:=by unfold gP.pack; split <;> rfl
end Dv
namespace Dv
open Go Go.Proofs
variable {G:Nat→Option (List DV)}
structure ny where
 gen:Int
 has:Bool
 order:dL
 sent:Int
 heard:Int
 report:dL
def mU (l:ny):List DV:=[i64 l.gen,bl l.has]++(nL l.order++([i64 l.sent,i64 l.heard]++nL l.report))
structure aN where
 c:aF
 s:aa
 j:gP
 room:Int
 term:Int
 sh:List lz
 wr:Int
 lines:List ny
 down:Bool
 ew:Int
def dS (x:aN):aG:=.box 195 [.int x.c.nodes,.int x.c.bL,.int x.c.cE,.int x.c.gT,.int x.c.cc,.int x.c.eG,.int x.c.deadline,.int x.c.room,.int x.c.ga,.ptr 2 0,.ptr 1 0,.ptr 6 0,bS x.s.nodes,cZ x.s.jobs,.int x.s.goal,.int x.s.prior,.int x.s.mode,.int x.s.term,.sl 7 x.lines.length 26 0 x.lines.length,.bool x.down,.int x.ew]
def aR (l:List ny):aG:=.dat 197 26 (l.map mU)
def bT (x:aN):List aG:=[dS x,.box 160 [.ptr 2 0,.ptr 3 0,.ptr 4 0,.int x.j.cnt,.int x.j.cv],.box 150 [.sl 5 x.j.n 1 0 x.j.n,.d (.val (.slice none 0 0)),.int x.j.s],.box 243 [.ptr 2 0,.int 0,.int ((x.j.n / 4:Nat):Int)],.box 245 [.ptr 2 0,.int ((2*(x.j.n / 4):Nat):Int),.int ((x.j.n-2*(x.j.n / 4):Nat):Int),.int x.j.us],.dat 5 1 (aB x.j.l),.box 190 ([.int x.room,.int x.term]++(x.sh.flatMap sy++[.int x.wr])),aR x.lines]
theorem ck (k:Nat) (hk:8≤k) (x:aN):(bT x).all (dW k)=true:=by
 have h:∀ i,i<8→i<k:=fun i hi=>by omega
 simp [bT,dS,aR,List.all_cons,List.all_nil,dW,Bool.and_true,aK,aP,eE,eN,LV.int,LV.bool,bS,cZ,h]
theorem Ni (s:aa) (hn:s.nodes.length≤1000) (hj:s.jobs.length≤1000):bu Tryz.prog G 73 [aX s] [] (aX s) []:=by
 refine cI Tryz.func73 (by decide) PN rfl ?_
 simp only [aab,go_sem]
 refine kA (Bb s.nodes hn) rfl rfl rfl ?_
 simp only [go_sem]
 refine kA (Bc s.jobs hj) rfl rfl rfl ?_
 simp only [go_sem]
 refine ay rfl ?_
 simp only [go_sem]
 exact dQ [2,3] rfl (by simp [St.obj,aC]) (by simp [St.obj,aC,aV,St.get,aY,ah,ag,bK,LV.int,List.take_of_length_le])
def abm:=qx Tryz.f98
theorem ZL:aj Tryz.prog Tryz.f98=some abm:=by kernel_rfl
def KF:=qx Tryz.f119
theorem Eg:aj Tryz.prog Tryz.f119=some KF:=by kernel_rfl
def YM:=qx Tryz.f109
theorem U4:aj Tryz.prog Tryz.f109=some YM:=by kernel_rfl
def abD:=qx Tryz.f39
theorem Z1:aj Tryz.prog Tryz.f39=some abD:=by kernel_rfl
def YG:=qx Tryz.f116
theorem UY:aj Tryz.prog Tryz.f116=some YG:=by kernel_rfl
def aad:=qx Tryz.f43
theorem PR:aj Tryz.prog Tryz.f43=some aad:=by kernel_rfl
theorem zk (n:Int):bu Tryz.prog G 98 [.int n] [] (.bool (decide (0≤n∧n≤1000000))) []:=by
 refine bz Tryz.func98 (by decide) ZL rfl rfl ?_
 simp only [abm,go_sem]
 by_cases h1:0≤n
 ·simp only [decide_eq_true (show n≥0 from h1),h1,go_sem]
 ·simp only [decide_eq_false (show ¬ n≥0 from h1),h1,false_and,go_sem]
theorem sK (o:cB):bu Tryz.prog G 116 [tF o] [] (.bool (decide (1≤o.kind∧o.kind≤6))) []:=by
 refine bz Tryz.func116 (by decide) UY rfl rfl ?_
 simp only [YG,go_sem]
 by_cases h1:1≤o.kind
 ·simp only [decide_eq_true (show o.kind≥1 from h1),h1,go_sem]
 ·simp only [decide_eq_false (show ¬ o.kind≥1 from h1),h1,false_and,go_sem]
theorem mA (x:aN):bu Tryz.prog G 109 [.ptr 0 0] (bT x) (.bool (!x.down)) (bT x):=by
 refine aT Tryz.func109 (by decide) U4 rfl rfl (ck _ (Nat.le_refl 8) _) rfl ?_
 simp only [bT,dS,YM,go_sem]
theorem JE (x:aN):bu Tryz.prog G 127 [.ptr 0 20,.int 1] (bT x) (.int (IntKind.i64.wrap (x.ew+1))) (bT { x with ew:=IntKind.i64.wrap (x.ew+1) }):=by
 refine aT Tryz.func127 (by decide) KB rfl rfl (ck _ (Nat.le_refl 8) _) rfl ?_
 simp only [bT,dS,P9,go_sem]
def aN.state (x:aN):aa:=if x.down=true then ⟨[],[],0,0,0,0⟩ else x.s
theorem tS (x:aN) (hd:x.down=false) (hn:x.s.nodes.length≤1000) (hj:x.s.jobs.length≤1000):bu Tryz.prog G 39 [.ptr 0 0] (bT x) (aX x.s) (bT x):=by
 have ha:=mA (G:=G) x
 have hc:=Ni (G:=G) x.s hn hj
 simp only [bT,dS,aR,hd,List.cons_append,List.nil_append] at ha
 refine aT Tryz.func39 (by decide) Z1 rfl rfl (ck _ (Nat.le_refl 8) _) rfl ?_
 simp only [bT,dS,aR,hd,abD,go_sem]
 refine fT [0,1,2,3,4,5,6,7] (ha) rfl ?_ (by decide) ?_ ?_ ?_ <;> simp only [ag,ah,go_sem,aU,bE,aK,aP]
 refine av (hc) rfl rfl rfl rfl ?_; simp only [go_sem]
structure BW (x:aN):Prop where
 right:bU x.c x.s
 jn:vN x.j
 sh:x.sh.length=25
 lines:x.lines.length=x.s.nodes.length
def aN.EP (x:aN) (o:cB):gP:=if x.j.room (fh o).length=true then x.j else x.j.pack (jN x.s)
def aN.dK (x:aN) (o:cB):Int:=if (aZ x.c x.s o).2≠0 then (aZ x.c x.s o).2 else if (x.EP o).room (fh o).length=true then 0 else 3
def aN.bH (x:aN) (o:cB):gP:=if (aZ x.c x.s o).2≠0 then x.j else x.EP o
def aN.wS (x:aN) (o:cB):LV:=if x.dK o≠0 then .d (.val (.slice none 0 0)) else aq (fh o)
theorem CY (x:aN) (h:BW x) (o:cB):bu Tryz.prog cF 119 [.ptr 0 0,tF o] (bT x) (.dM [aX (aZ x.c x.s o).1,x.wS o,.int (x.dK o)]) (bT { x with j:=x.bH o }):=by
 have hap:=ox x.c x.s o
 have hpu:=OQ o
 have mg:(fh o).length≤900000:=by have:=Sn o; omega
 have IN:=CH (G:=cF) x.j h.jn (fh o).length mg
 have hin:=Sl (G:=cF) x.s (by have:=h.right.len; omega) (by have:=h.right.jobs; omega)
 have hpk:=Mu (G:=cF) x.j h.jn (jN x.s) (by have:=Sq x.s; omega)
 have yX:=CH (G:=cF) (x.j.pack (jN x.s)) (h.jn.pack (zR _)) (fh o).length mg
 have hn2:(x.j.pack (jN x.s)).n=x.j.n:=gP.tC _ _
 simp only [jO,xQ,hn2,aq] at IN hpk yX hpu hin
 unfold aN.wS aN.dK aN.bH aN.EP
 by_cases h1:(aZ x.c x.s o).2=0
 case neg=>
  simp only [ne_eq,h1,not_false_eq_true,if_true]
  refine aT Tryz.func119 (by decide) Eg rfl rfl (ck _ (Nat.le_refl 8) _) rfl ?_
  simp only [bT,dS,aR,aq,KF,go_sem]
  refine bf (hap) rfl rfl rfl rfl ?_; simp only [go_sem]
  refine ay rfl ?_
  simp only [show ((aZ x.c x.s o).2 !=0)=true from bne_iff_ne.2 h1,go_sem]
 simp only [ne_eq,h1,not_true_eq_false,if_false]
 by_cases h2:x.j.room (fh o).length=true
 case pos=>
  rw [h2] at IN
  simp only [h2,if_true,not_true_eq_false,if_false]
  refine aT Tryz.func119 (by decide) Eg rfl rfl (ck _ (Nat.le_refl 8) _) rfl ?_
  simp only [bT,dS,aR,aq,KF,go_sem]
  refine bf (hap) rfl rfl rfl rfl ?_; simp only [go_sem]
  refine ay rfl ?_
  simp only [h1,go_sem]
  refine av (hpu) rfl rfl rfl rfl ?_; simp only [go_sem]
  simp only [aD,go_sem]
  refine au [1,2,3,4,5] (IN) rfl ?_ (by decide) ?_ ?_ (by simp) ?_ <;> simp only [ag,ah,go_sem]
  simp only [aD,go_sem]
  refine au [1,2,3,4,5] (IN) rfl ?_ (by decide) ?_ ?_ (by simp) ?_ <;> simp only [ag,ah,go_sem]
 have adi:mS x.j.n x.j.us x.j.cnt (fh o).length=false:=by cases hq:mS x.j.n x.j.us x.j.cnt (fh o).length <;> simp_all [gP.room]
 simp only [gP.room,adi] at IN
 simp only [h2,if_false]
 generalize hj2:x.j.pack (jN x.s)=j2 at *
 generalize x.j.OK (jN x.s)=e2 at *
 obtain ⟨n2,l2,s2,c2,a2,u2⟩:=j2
 subst hn2
 dsimp only at hpk yX
 have hbody:∀ r:Bool,gP.room ⟨x.j.n,l2,s2,c2,a2,u2⟩ (fh o).length=r→bu Tryz.prog cF 119 [.ptr 0 0,tF o] (bT x) (.dM [aX (aZ x.c x.s o).1,if r=true then aq (fh o) else .d (.val (.slice none 0 0)),.int (if r=true then 0 else 3)]) (bT { x with j:=⟨x.j.n,l2,s2,c2,a2,u2⟩ }):=by
  intro r hr
  rw [hr] at yX
  refine aT Tryz.func119 (by decide) Eg rfl (by cases r <;> rfl) (ck _ (Nat.le_refl 8) _) rfl ?_
  simp only [bT,dS,aR,aq,KF,go_sem]
  refine bf (hap) rfl rfl rfl rfl ?_; simp only [go_sem]
  refine ay rfl ?_
  simp only [h1,go_sem]
  refine av (hpu) rfl rfl rfl rfl ?_; simp only [go_sem]
  simp only [aD,go_sem]
  refine au [1,2,3,4,5] (IN) rfl ?_ (by decide) ?_ ?_ (by simp) ?_ <;> simp only [ag,ah,go_sem]
  refine bf (hin) rfl rfl rfl rfl ?_; simp only [go_sem]
  refine eM [1,2,3,4,5] (hpk) rfl ?_ (by decide) ?_ ?_ (by simp) ?_ <;> simp only [ag,ah,go_sem]
  refine ay rfl ?_
  simp only [go_sem]
  simp only [aD,go_sem]
  refine au [1,2,3,4,5] (yX) rfl ?_ (by decide) ?_ ?_ (by simp) ?_ <;> simp only [ag,ah,go_sem]
  cases r with
  | true=>simp only [hr,go_sem]
  | false=>simp only [hr,go_sem]
 have:=hbody _ rfl
 split at this <;> simp_all
end Dv
namespace Dv
open Go Go.Proofs
variable {G:Nat→Option (List DV)}
def YN:=qx Tryz.f103
theorem U5:aj Tryz.prog Tryz.f103=some YN:=by kernel_rfl
def ic (x:lz) (epoch:Int):lz:=if epoch=x.se then ⟨x.se,x.sd,0,[]⟩ else x
section
variable (A B:List LV) (a b c d x y:LV) (n:Nat)
theorem ac6 (h:A.length=n):(A++a::b::c::d::B)[n]? = some a:=by subst h; simp
theorem ac5 (h:A.length=n):(A++a::b::c::d::B)[n+2]? = some c:=by subst h; simp
theorem abb (h:A.length=n):((A++a::b::c::d::B).drop (n+2)).take 2=[c,d]:=by subst h; rw [List.drop_append]; simp [List.drop_eq_nil_of_le]
theorem abd (h:A.length=n):(A++a::b::c::d::B).take n++[x,y]++(A++a::b::c::d::B).drop (n+2)=A++x::y::c::d::B:=by subst h; rw [List.drop_append]; simp
theorem abc (h:A.length=n):(A++a::b::c::d::B).take (n+2)++[x,y]++(A++a::b::c::d::B).drop (n+4)=A++a::b::x::y::B:=by subst h; rw [List.drop_append,List.take_append]; simp [List.take_of_length_le,List.drop_eq_nil_of_le]
end
theorem B7 (room term:Int) (sh:List lz) (wr:Int) (k:Nat) (h:k<sh.length):∃ A B:List LV,A.length=2+4*k∧(∀ x:lz,LV.int room::LV.int term::((sh.set k x).flatMap sy++[LV.int wr])=A++.int x.ce::kL x.cd::.int x.se::kL x.sd::B)∧∀ x:lz,sh.getD k iB=x→LV.int room::LV.int term::(sh.flatMap sy++[LV.int wr])=A++.int x.ce::kL x.cd::.int x.se::kL x.sd::B:=by
 have hl:=DF sh
 have h2:∀ x:lz,LV.int room::LV.int term::((sh.set k x).flatMap sy++[LV.int wr])=(.int room::.int term::(sh.flatMap sy++[.int wr])).take (2+4*k)++.int x.ce::kL x.cd::.int x.se::kL x.sd::(sh.flatMap sy++[LV.int wr]).drop (2+4*k+2):=by
  intro x
  rw [← Fh (.int room) (.int term) (.int wr) x sh k h]
  simp [sy]
 refine ⟨_,_,?_,h2,fun x hx=>?_⟩
 ·rw [List.length_take]; simp only [List.length_cons,List.length_append,hl,List.length_nil]; omega
 ·rw [← h2 x,← hx]; simp [List.getD,h]
theorem pO (room term:Int) (sh:List lz) (wr:Int) (k:Nat) (hk:1≤k∧k≤24) (hs:sh.length=25) (ep:Int) (he:1≤ep) (r:Int) (hr:r=if ep=(sh.getD k iB).ce∨ep=(sh.getD k iB).se then 0 else 4):bu Tryz.prog G 103 [.ptr 0 0,.int k,.int ep] (iu room term sh wr) (.int r) (iu room term (sh.set k (ic (sh.getD k iB) ep)) wr):=by
 have hj:=oH (G:=G) room term sh wr k hk
 obtain ⟨A,B,hA,hB,hC⟩:=B7 room term sh wr k (by omega)
 have hC:=hC _ rfl
 have aci:=gy 1 room term (sh.set k (ic (sh.getD k iB) ep)) wr
 have Vn:=gy 1 room term sh wr
 have Qj:=bE
 generalize sh.getD k iB=x at *
 obtain ⟨ce,cd,se,sd⟩:=x
 simp only [iu,List.cons_append,List.nil_append] at hj
 refine aT Tryz.func103 (by decide) U5 rfl rfl aci rfl ?_
 simp only [iu,YN,go_sem]
 refine fT [0] (hj) rfl ?_ (by decide) ?_ ?_ ?_ <;> simp only [ag,ah,go_sem,aU,bE,aK,aP]
 simp only [LV.int] at hB hC
 rw [hC,hB]
 dsimp only at hr
 generalize hm:2+4*k=m at *
 have g0:=ac6 A B (LV.d (.val (.int .i64 ce))) (kL cd) (LV.d (.val (.int .i64 se))) (kL sd) m hA
 have g2:=ac5 A B (LV.d (.val (.int .i64 ce))) (kL cd) (LV.d (.val (.int .i64 se))) (kL sd) m hA
 have gt:=abb A B (LV.d (.val (.int .i64 ce))) (kL cd) (LV.d (.val (.int .i64 se))) (kL sd) m hA
 have gs0:=abd A B (LV.d (.val (.int .i64 ce))) (kL cd) (LV.d (.val (.int .i64 se))) (kL sd) (LV.d (.val (.int .i64 se))) (kL sd) m hA
 have gs2:=abc A B (LV.d (.val (.int .i64 se))) (kL sd) (LV.d (.val (.int .i64 se))) (kL sd) (LV.d (.val (.int .i64 0))) (LV.d (.val (.slice none 0 0))) m hA
 have gl:∀ a b c d:LV,(A++a::b::c::d::B).length=m+4+B.length:=by intros; rw [List.length_append,hA]; simp; omega
 have c1:m+2≤m+4+B.length:=by omega
 have c2:m+4≤m+4+B.length:=by omega
 clear hB hC aci Vn
 simp only [decide_eq_false (show ¬ ep<1 by omega),g0,go_sem]
 by_cases e2:ep=se
 ·have Hi:r=0:=by rw [hr,if_pos (.inr e2)]
  have hcm:ic ⟨ce,cd,se,sd⟩ ep=⟨se,sd,0,[]⟩:=by unfold ic; rw [if_pos e2]
  have b2:(ep==se)=true:=beq_iff_eq.2 e2
  have b3:(ep !=se)=false:=by rw [e2]; exact bne_self_eq_false _
  subst Hi
  simp only [hcm,show kL []=LV.d (.val (.slice none 0 0)) from rfl]
  cases b1:(ep !=ce) <;> simp only [b1,b2,b3,g0,g2,gt,gs0,gs2,gl,c1,c2,go_sem]
 ·have hcm:ic ⟨ce,cd,se,sd⟩ ep=⟨ce,cd,se,sd⟩:=by unfold ic; rw [if_neg e2]
  have b2:(ep==se)=false:=beq_eq_false_iff_ne.2 e2
  have b3:(ep !=se)=true:=bne_iff_ne.2 e2
  simp only [hcm]
  by_cases e1:ep=ce
  ·have Hi:r=0:=by rw [hr,if_pos (.inl e1)]
   have b1:(ep !=ce)=false:=by rw [e1]; exact bne_self_eq_false _
   subst Hi
   simp only [b1,b2,b3,g0,g2,go_sem]
  ·have Hi:r=4:=by rw [hr,if_neg (by simp [e1,e2])]
   have b1:(ep !=ce)=true:=bne_iff_ne.2 e1
   subst Hi
   simp only [b1,b2,b3,g0,g2,go_sem]
def X3:=qx Tryz.f188
theorem Uj:aj Tryz.prog Tryz.f188=some X3:=by kernel_rfl
def XE:=qx Tryz.f237
theorem TP:aj Tryz.prog Tryz.f237=some XE:=by kernel_rfl
def XD:=qx Tryz.f238
theorem TO:aj Tryz.prog Tryz.f238=some XD:=by kernel_rfl
def XC:=qx Tryz.f239
theorem TN:aj Tryz.prog Tryz.f239=some XC:=by kernel_rfl
def Qa:=qx Tryz.f100
theorem KD:aj Tryz.prog Tryz.f100=some Qa:=by kernel_rfl
def pL:aG:=.box 72 [.ptr 0 0]
def ry:LV:=.fn (.func 237) [] [.ptr 8 0,.ptr 9 0]
def AV:LV:=.fn (.func 238) [] [.ptr 8 0]
def HL:LV:=.fn (.func 239) [] [.ptr 8 0]
def Ld:aG:=.mp [(13,HL),(2,AV),(15,AV),(7,ry),(8,ry)]
theorem RA (x:aN) (now:Int):bu Tryz.prog G 188 [.ptr 0 0,.int now] (bT x) (.mr 10) (bT x++[pL,.box 3 [.int now],Ld]):=by
 refine cI Tryz.func188 (by decide) Uj rfl ?_
 simp only [bT,dS,aR,X3,go_sem]
 refine dA [] [0,1,2,3,4,5,6,7,8,9,10] [] (vs:=[.mr 10]) rfl rfl (by decide) (by simp) (by simp) ?_ (by show (bT x++[pL,.box 3 [.int now],Ld]).all (dW 11)=true; rw [List.all_append,ck _ (by omega)]; rfl) ?_
 ·simp only [List.map_cons,List.map_nil,fq,mT,aU,bE]
  rfl
 simp [aV,ah,ag,LV.int,LV.bool,pL,Ld,HL,AV,ry]
end Dv
namespace Dv
open Go Go.Proofs
variable {G:Nat→Option (List DV)}
def oZ:dL:=jg
def fE:ny:=⟨0,false,oZ,0,0,oZ⟩
def CZ (now:Int) (k:Int) (l:ny):ny:={ l with has:=false,report:=oZ,heard:=if k=8 then now else l.heard }
theorem Jh (x:aN) (now:Int) (o:cB) (i:Nat) (hi:i<x.lines.length) (ho:o.a=i):bu Tryz.prog G 237 [tF o,.ptr 8 0,.ptr 9 0] (bT x++[pL,.box 3 [.int now]]) (.dM []) (bT { x with lines:=x.lines.set i (CZ now o.kind (x.lines.getD i fE)) }++[pL,.box 3 [.int now]]):=by
 have hid:(bT { x with lines:=x.lines.set i (CZ now o.kind (x.lines.getD i fE)) }++[pL,.box 3 [.int now]]).all (dW 10)=true:=by rw [List.all_append,ck _ (by omega)]; rfl
 refine aT Tryz.func237 (by decide) TP rfl rfl hid rfl ?_
 have hg:=aM (f:=mU) fE hi
 generalize x.lines.getD i fE=l at *
 obtain ⟨lg,lh,⟨q0,q1,q2,q3,q4,q5,q6,q7,q8,q9,q10⟩,ls,le,⟨r0,r1,r2,r3,r4,r5,r6,r7,r8,r9,r10⟩⟩:=l
 simp only [mU,nL,List.cons_append,List.nil_append] at hg
 obtain ⟨k,a,b,c,d,e,f⟩:=o
 dsimp only at ho
 subst ho
 simp only [bT,dS,aR,pL,List.length_set,XE,go_sem]
 have wK:∀ v,((x.lines.map mU).set i v)[i]? = some v:=fun v=>List.getElem?_set_self (by simpa using hi)
 by_cases hk:k=8
 ·subst hk
  simp only [hi,hg,wK,CZ,mU,oZ,List.map_set,List.length_set,List.set_set,go_sem]
 ·simp only [hi,hg,wK,hk,beq_eq_false_iff_ne.2 hk,CZ,mU,oZ,List.map_set,List.length_set,List.set_set,go_sem]
theorem Rf (x:aN) (hs:x.sh.length=25) (o:cB) (i:Nat) (hi:1≤i∧i≤24) (ho:o.a=i):bu Tryz.prog G 238 [tF o,.ptr 8 0] (bT x++[pL]) (.dM []) (bT { x with sh:=x.sh.set i iB }++[pL]):=by
 have hid:(bT { x with sh:=x.sh.set i iB }++[pL]).all (dW 9)=true:=by rw [List.all_append,ck _ (by omega)]; rfl
 have he:=uq (G:=G) x.room x.term x.sh x.wr i hi hs
 simp only [iu,List.cons_append,List.nil_append] at he
 refine aT Tryz.func238 (by decide) TO rfl rfl hid rfl ?_
 simp only [bT,dS,aR,pL,ho,XD,go_sem]
 refine eM [6] (he) rfl ?_ (by decide) ?_ ?_ (by simp) ?_ <;> simp only [ag,ah,go_sem,aU,bE,aK,aP]
 refine ay rfl ?_
 simp only [go_sem]
theorem Ot (x:aN) (hs:x.sh.length=25) (o:cB) (i:Nat) (hi:1≤i∧i≤24) (ho:o.a=i) (hb:1≤o.b):bu Tryz.prog G 239 [tF o,.ptr 8 0] (bT x++[pL]) (.dM []) (bT { x with sh:=x.sh.set i (ic (x.sh.getD i iB) o.b) }++[pL]):=by
 have hid:(bT { x with sh:=x.sh.set i (ic (x.sh.getD i iB) o.b) }++[pL]).all (dW 9)=true:=by rw [List.all_append,ck _ (by omega)]; rfl
 have he:=pO (G:=G) x.room x.term x.sh x.wr i hi hs o.b hb _ rfl
 simp only [iu,List.cons_append,List.nil_append] at he
 refine aT Tryz.func239 (by decide) TN rfl rfl hid rfl ?_
 simp only [bT,dS,aR,pL,ho,XC,go_sem]
 refine eM [6] (he) rfl ?_ (by decide) ?_ ?_ (by simp) ?_ <;> simp only [ag,ah,go_sem,aU,bE,aK,aP]
 refine ay rfl ?_
 simp only [go_sem]
end Dv
namespace Dv
open Go Go.Proofs
def jC (o:cB) (sh:List lz):List lz:=if o.kind=13 then sh.set o.a.toNat (ic (sh.getD o.a.toNat iB) o.b) else if o.kind=2∨o.kind=15 then sh.set o.a.toNat iB else sh
def nr (now:Int) (o:cB) (l:List ny):List ny:=if o.kind=7∨o.kind=8 then l.set o.a.toNat (CZ now o.kind (l.getD o.a.toNat fE)) else l
def aN.bR (x:aN) (o:cB) (now:Int):aN:=if x.dK o=0 then { x with j:=(x.bH o).add (fh o),s:=(aZ x.c x.s o).1,ew:=IntKind.i64.wrap (x.ew+1),sh:=jC o x.sh,lines:=nr now o x.lines } else { x with j:=x.bH o }
theorem mm {x:aN} {o:cB} (he:x.dK o=0):(aZ x.c x.s o).2=0∧(x.bH o).room (fh o).length=true∧x.wS o=aq (fh o):=by
 have QH:=he
 unfold aN.dK at he
 split at he
 ·rename_i h; exact absurd he h
 ·rename_i h
  split at he
  ·rename_i h2
   refine ⟨by simpa using h,?_,?_⟩
   ·unfold aN.bH; rw [if_neg h]; exact h2
   ·unfold aN.wS; rw [if_neg (by simpa using QH)]
  ·cases he
theorem BW.EP {x:aN} (h:BW x) (o:cB):vN (x.bH o):=by
 unfold aN.bH aN.EP
 split
 ·exact h.jn
 split
 ·exact h.jn
 ·exact h.jn.pack (zR _)
theorem O6 {c:aF} {s:aa} {o:cB} (hp:bU c s) (h:(aZ c s o).2=0) (hk:Iy o.kind=true):1≤o.a∧o.a≤s.jobs.length:=by
 have hr:=(d_ c s).2 hp
 unfold aZ Bq at h
 rw [if_neg (by rw [hr]; decide)] at h
 split at h
 ·cases h
 split at h
 ·cases h
 ·rename_i h1 h2
  simp only [hk,true_and] at h2
  omega
theorem Sz {c:aF} {s:aa} {o:cB} (hp:bU c s) (h:(aZ c s o).2=0) (hk:Ai o.kind=true):0≤o.a∧o.a<s.nodes.length:=by
 have hr:=(d_ c s).2 hp
 unfold aZ Bq at h
 rw [if_neg (by rw [hr]; decide)] at h
 split at h
 ·cases h
 split at h
 ·cases h
 split at h
 ·cases h
 ·rename_i h0 h1 h2
  have:=wu (o:=o) (by simpa using h0)
  simp only [hk,true_and] at h2
  omega
theorem O5 {c:aF} {s:aa} {o:cB} (hp:bU c s) (h:(aZ c s o).2=0) (hn:fc o=true) (hk:o.kind=13):1≤o.b:=by
 have ha:=O6 hp h (by rw [hk]; rfl)
 obtain ⟨k,h1,h2,h3,h4⟩:=PC hp ha
 rw [Lc ((d_ c s).2 hp) hn (by rw [hk]; rfl) (by rw [hk]; rfl),if_neg (by omega)] at h
 unfold bV at h
 simp only [hk] at h
 unfold kD at h
 have Ge:=(hp.num k h3).epoch
 rw [← h4] at Ge
 simp only [Int.reduceEq,if_false,if_true] at h
 split at h
 ·cases h
 split at h
 ·cases h
 ·rename_i h5; omega
theorem uQ (x:aN) (h:BW x) (o:cB) (now:Int):bu Tryz.prog cF 100 [.ptr 0 0,tF o,.int now] (bT x) (.int (x.dK o)) (bT (x.bR o now)):=by
 have hf:=CY x h o
 unfold aN.bR
 by_cases he:x.dK o=0
 case neg=>
  simp only [he,if_false]
  generalize x.bH o=J at *
  generalize x.wS o=B at *
  generalize x.dK o=e at *
  simp only [bT,dS,aR,List.cons_append,List.nil_append] at hf
  refine aT Tryz.func100 (by decide) KD rfl rfl (ck _ (Nat.le_refl 8) _) rfl ?_
  simp only [bT,dS,aR,Qa,go_sem]
  refine au [0,1,2,3,4,5,6,7] (hf) rfl ?_ (by decide) ?_ ?_ (by simp) ?_ <;> simp only [ag,ah,go_sem,aU,bE,aK,aP]
  simp only [show (e !=0)=true from bne_iff_ne.2 he,go_sem]
 obtain ⟨h1,h2,h3⟩:=mm he
 have hj1:=h.EP o
 have Qw:=fun hk=>O6 h.right h1 (o:=o) hk
 have ab8:=fun hk=>Sz h.right h1 (o:=o) hk
 have ab7:fc o=true:=by
  cases hq:fc o with
  | true=>rfl
  | false=>
    have hr:=(d_ x.c x.s).2 h.right
    unfold aZ Bq at h1
    rw [if_neg (by rw [hr]; decide),if_pos hq] at h1
    cases h1
 rw [h3,he] at hf
 rw [if_pos he,he]
 have ha:=PF (G:=cF) (x.bH o) hj1 (fh o) h2
 have hn1:(x.bH o).n=x.j.n:=by unfold aN.bH aN.EP; split; · rfl
                               split; · rfl
                               ·exact gP.tC _ _
 generalize x.bH o=J at *
 generalize I8:J.add (fh o)=J2 at *
 have hn2:J2.n=x.j.n:=by rw [← I8,gP.acE,hn1]
 generalize (aZ x.c x.s o).1=t at *
 have acz:=JE (G:=cF) { x with j:=J2,s:=t }
 have hal:=RA (G:=cF) { x with j:=J2,s:=t,ew:=IntKind.i64.wrap (x.ew+1) } now
 have yW:=h.sh
 have wI:=h.lines
 simp only [jO,xQ,hn1,hn2,aq] at ha
 simp only [bT,dS,aR,pL,Ld,hn1,hn2,aq,List.cons_append,List.nil_append] at hf acz hal
 refine aT Tryz.func100 (by decide) KD rfl rfl (ck _ (Nat.le_refl 8) _) rfl ?_
 simp only [bT,dS,aR,hn2,Qa,go_sem]
 refine au [0,1,2,3,4,5,6,7] (hf) rfl ?_ (by decide) ?_ ?_ (by simp) ?_ <;> simp only [ag,ah,go_sem,aU,bE,aK,aP]
 refine au [1,2,3,4,5] (ha) rfl ?_ (by decide) ?_ ?_ (by simp) ?_ <;> simp only [ag,ah,go_sem]
 refine au [0,1,2,3,4,5,6,7] (acz) rfl ?_ (by decide) ?_ ?_ (by simp) ?_ <;> simp only [ag,ah,go_sem,aU,bE,aK,aP]
 refine eM [0,1,2,3,4,5,6,7] (hal) rfl ?_ (by decide) ?_ ?_ (by simp) ?_ <;> simp only [ag,ah,go_sem,aU,bE,aK,aP]
 have hlj:=h.right.jobs
 have abQ:o.kind=13→1≤o.b:=fun hk=>O5 h.right h1 ab7 hk
 by_cases SS:o.kind=13
 ·obtain ⟨q1,q2⟩:=Qw (by rw [SS]; rfl)
  obtain ⟨i,hi⟩:∃ i:Nat,o.a=i:=⟨o.a.toNat,by omega⟩
  have hc:=Ot (G:=cF) { x with j:=J2,s:=t,ew:=IntKind.i64.wrap (x.ew+1) } yW o i (by omega) hi (abQ SS)
  simp only [bT,dS,aR,pL,hn2,List.cons_append,List.nil_append] at hc
  have hA:jC o x.sh=x.sh.set i (ic (x.sh.getD i iB) o.b):=by unfold jC; rw [if_pos SS,hi]; rfl
  have hL:nr now o x.lines=x.lines:=by unfold nr; rw [if_neg (by rw [SS]; decide)]
  simp only [hA,hL]
  have hm:(if o.kind=13 then some (rn (bC [0,1,2,3,4,5,6,7] 10) HL) else if o.kind=2 then some (rn (bC [0,1,2,3,4,5,6,7] 10) AV) else if o.kind=15 then some (rn (bC [0,1,2,3,4,5,6,7] 10) AV) else if o.kind=7 then some (rn (bC [0,1,2,3,4,5,6,7] 10) ry) else if o.kind=8 then some (rn (bC [0,1,2,3,4,5,6,7] 10) ry) else none)=some (rn (bC [0,1,2,3,4,5,6,7] 10) HL):=by rw [SS]; rfl
  simp only [hm]
  simp only [HL,go_sem]
  refine ay rfl ?_
  simp only [go_sem]
  refine au [0,1,2,3,4,5,6,7,10] (hc) rfl ?_ (by decide) ?_ ?_ (by simp) ?_ <;> simp only [ag,ah,go_sem,aU,bE,aK,aP]
 by_cases kE:o.kind=2∨o.kind=15
 ·obtain ⟨q1,q2⟩:=Qw (by rcases kE with k | k <;> (rw [k]; rfl))
  obtain ⟨i,hi⟩:∃ i:Nat,o.a=i:=⟨o.a.toNat,by omega⟩
  have hc:=Rf (G:=cF) { x with j:=J2,s:=t,ew:=IntKind.i64.wrap (x.ew+1) } yW o i (by omega) hi
  simp only [bT,dS,aR,pL,hn2,List.cons_append,List.nil_append] at hc
  have hA:jC o x.sh=x.sh.set i iB:=by unfold jC; rw [if_neg SS,if_pos kE,hi]; rfl
  have hL:nr now o x.lines=x.lines:=by unfold nr; rw [if_neg (by omega)]
  simp only [hA,hL]
  have hm:(if o.kind=13 then some (rn (bC [0,1,2,3,4,5,6,7] 10) HL) else if o.kind=2 then some (rn (bC [0,1,2,3,4,5,6,7] 10) AV) else if o.kind=15 then some (rn (bC [0,1,2,3,4,5,6,7] 10) AV) else if o.kind=7 then some (rn (bC [0,1,2,3,4,5,6,7] 10) ry) else if o.kind=8 then some (rn (bC [0,1,2,3,4,5,6,7] 10) ry) else none)=some (rn (bC [0,1,2,3,4,5,6,7] 10) AV):=by rcases kE with k | k <;> (rw [k]; rfl)
  simp only [hm]
  simp only [AV,go_sem]
  refine ay rfl ?_
  simp only [go_sem]
  refine au [0,1,2,3,4,5,6,7,10] (hc) rfl ?_ (by decide) ?_ ?_ (by simp) ?_ <;> simp only [ag,ah,go_sem,aU,bE,aK,aP]
 by_cases kF:o.kind=7∨o.kind=8
 ·obtain ⟨q1,q2⟩:=ab8 (by rcases kF with k | k <;> (rw [k]; rfl))
  obtain ⟨i,hi⟩:∃ i:Nat,o.a=i:=⟨o.a.toNat,by omega⟩
  have hc:=Jh (G:=cF) { x with j:=J2,s:=t,ew:=IntKind.i64.wrap (x.ew+1) } now o i (by show i<x.lines.length; omega) hi
  simp only [bT,dS,aR,pL,hn2,List.length_set,List.cons_append,List.nil_append] at hc
  have hA:jC o x.sh=x.sh:=by unfold jC; rw [if_neg SS,if_neg kE]
  have hL:nr now o x.lines=x.lines.set i (CZ now o.kind (x.lines.getD i fE)):=by unfold nr; rw [if_pos kF,hi]; rfl
  simp only [hA,hL,List.length_set]
  have hm:(if o.kind=13 then some (rn (bC [0,1,2,3,4,5,6,7] 10) HL) else if o.kind=2 then some (rn (bC [0,1,2,3,4,5,6,7] 10) AV) else if o.kind=15 then some (rn (bC [0,1,2,3,4,5,6,7] 10) AV) else if o.kind=7 then some (rn (bC [0,1,2,3,4,5,6,7] 10) ry) else if o.kind=8 then some (rn (bC [0,1,2,3,4,5,6,7] 10) ry) else none)=some (rn (bC [0,1,2,3,4,5,6,7] 10) ry):=by rcases kF with k | k <;> (rw [k]; rfl)
  simp only [hm]
  simp only [ry,go_sem]
  refine ay rfl ?_
  simp only [go_sem]
  refine au [0,1,2,3,4,5,6,7,10,11] (hc) rfl ?_ (by decide) ?_ ?_ (by simp) ?_ <;> simp only [ag,ah,go_sem,aU,bE,aK,aP]
 have hA:jC o x.sh=x.sh:=by unfold jC; rw [if_neg SS,if_neg kE]
 have hL:nr now o x.lines=x.lines:=by unfold nr; rw [if_neg kF]
 simp only [hA,hL]
 rw [not_or] at kE kF
 simp only [SS,kE.1,kE.2,kF.1,kF.2,go_sem]
 refine ay rfl ?_
 simp only [go_sem]
end Dv
namespace Dv
open Go Go.Proofs
def Z9:=qx Tryz.f99
theorem PK:aj Tryz.prog Tryz.f99=some Z9:=by kernel_rfl
def aae:=qx Tryz.f37
theorem PS:aj Tryz.prog Tryz.f37=some aae:=by kernel_rfl
theorem JO (o:cB) (l:List lz):(jC o l).length=l.length:=by
 unfold jC
 split
 ·rw [List.length_set]
 split
 ·rw [List.length_set]
 ·rfl
theorem Nz (now:Int) (o:cB) (l:List ny):(nr now o l).length=l.length:=by
 unfold nr
 split
 ·rw [List.length_set]
 ·rfl
theorem BW.note {x:aN} (h:BW x) (o:cB) (now:Int):BW (x.bR o now):=by
 unfold aN.bR
 split
 ·rename_i he
  obtain ⟨h1,h2,h3⟩:=mm he
  have hr:=ye h.right o
  have h4:=h.right.nodes
  have h5:=hr.nodes
  refine ⟨hr,(h.EP o).add (zQ o) h2,by show (jC o x.sh).length=25; rw [JO,h.sh],?_⟩
  show (nr now o x.lines).length=(aZ x.c x.s o).1.nodes.length
  rw [Nz,h.lines]
  omega
 ·exact ⟨h.right,h.EP o,h.sh,h.lines⟩
def aN.VU (x:aN) (o:cB):Int:=if 1≤o.kind∧o.kind≤6 then x.dK o else 1
def aN.doX (x:aN) (o:cB) (now:Int):aN:=if 1≤o.kind∧o.kind≤6 then x.bR o now else x
theorem Ig (x:aN) (o:cB) (now:Int):(x.bR o now).down=x.down:=by unfold aN.bR; split <;> rfl
theorem Kj (x:aN) (o:cB) (now:Int):(x.bR o now).c=x.c:=by unfold aN.bR; split <;> rfl
theorem DY (x:aN) (o:cB) (now:Int):(x.bR o now).j.n=x.j.n:=by
 have h:(x.bH o).n=x.j.n:=by
  unfold aN.bH aN.EP
  split
  ·rfl
  split
  ·rfl
  ·exact gP.tC _ _
 unfold aN.bR
 split
 ·exact h
 ·exact h
theorem Wa (x:aN) (h:BW x) (hd:x.down=false) (o:cB) (now:Int):bu Tryz.prog cF 43 [.ptr 0 0,tF o,.int now] (bT x) (.int (x.VU o)) (bT (x.doX o now)):=by
 have ha:=mA (G:=cF) x
 have hop:=sK (G:=cF) o
 have hn:=uQ x h o now
 have hn2:=DY x o now
 rw [hd] at ha
 unfold aN.VU aN.doX
 generalize x.bR o now=y at *
 generalize x.dK o=e at *
 simp only [bT,dS,aR,List.cons_append,List.nil_append] at ha hn
 by_cases hk:1≤o.kind∧o.kind≤6
 ·simp only [hk,and_self,if_true]
  simp only [hk,and_self,decide_true] at hop
  refine aT Tryz.func43 (by decide) PR rfl rfl (ck _ (Nat.le_refl 8) _) rfl ?_
  simp only [bT,dS,aR,aad,go_sem]
  refine fT [0,1,2,3,4,5,6,7] (ha) rfl ?_ (by decide) ?_ ?_ ?_ <;> simp only [ag,ah,go_sem,aU,bE,aK,aP]
  refine av (hop) rfl rfl rfl rfl ?_; simp only [go_sem]
  refine au [0,1,2,3,4,5,6,7] (hn) rfl ?_ (by decide) ?_ ?_ (by simp) ?_ <;> simp only [ag,ah,go_sem,aU,bE,aK,aP]
 ·simp only [hk,if_false]
  simp only [hk,decide_false] at hop
  refine aT Tryz.func43 (by decide) PR rfl rfl (ck _ (Nat.le_refl 8) _) rfl ?_
  simp only [bT,dS,aR,aad,go_sem]
  refine fT [0,1,2,3,4,5,6,7] (ha) rfl ?_ (by decide) ?_ ?_ ?_ <;> simp only [ag,ah,go_sem,aU,bE,aK,aP]
  refine av (hop) rfl rfl rfl rfl ?_; simp only [go_sem]
theorem LS (c:aF):bu Tryz.prog cF 99 [fN c,aq [],.d (.dO 1 [])] [] (.dM [aX (dN c),.bool true]) []:=by
 have hn:=Ko (G:=cF) c
 refine bz Tryz.func99 (by decide) PK rfl rfl ?_
 simp only [aq,aB,Z9,go_sem]
 refine av (hn) rfl rfl rfl rfl ?_; simp only [go_sem]
 refine aW [3,6,7,8,29,30,31] [] (fun k:Nat=>k=0) (fun k=>1-k) (fun _=>⟨[(3,.ptr 0 0),(6,.ptr 1 0),(7,.bool false),(8,.ptr 2 0),(29,.d (.dO 1 [])),(30,.int 0),(31,.int 0)],[some (.box 23 [.int c.nodes,.int c.bL,.int c.cE,.int c.gT,.int c.cc,.int c.eG,.int c.deadline,.int c.room,.int c.ga]),some (.box 30 [.d (.val (.slice none 0 0)),.d (.val (.slice none 0 0)),.int 0,.int 0,.int 0,.int 0]),some (.box 30 [bS (dN c).nodes,cZ (dN c).jobs,.int (dN c).goal,.int (dN c).prior,.int (dN c).mode,.int (dN c).term])]⟩) 0 ?_ rfl (fun k hk=>?_)
 ·simp only [go_sem]
 simp only [go_sem]
end Dv
namespace Dv
open Go Go.Proofs
def bI:cB:=⟨21,0,0,0,0,0,0⟩
def Ip (now:Int):ny:=⟨0,false,oZ,0,now,oZ⟩
def nQ (c:aF) (n:Nat) (s room term:Int) (sh:List lz) (wr now:Int):aN:=⟨c,dN c,⟨n,List.replicate n 0,IntKind.i64.wrap (s+1),0,-1,0⟩,room,term,sh,wr,List.replicate (dN c).nodes.length (Ip now),false,0⟩
def aN.Ra (x:aN):aN:={ x with term:=if x.s.term>x.term then x.s.term else x.term }
def Nf (c:aF) (n:Nat) (s room term:Int) (sh:List lz) (wr now:Int):aN:=((nQ c n s room term sh wr now).bR bI now).Ra
def Dc (x:aN):aG:=.box 195 [.int x.c.nodes,.int x.c.bL,.int x.c.cE,.int x.c.gT,.int x.c.cc,.int x.c.eG,.int x.c.deadline,.int x.c.room,.int x.c.ga,.ptr 0 0,.ptr 5 0,.ptr 2 0,bS x.s.nodes,cZ x.s.jobs,.int x.s.goal,.int x.s.prior,.int x.s.mode,.int x.s.term,.sl 4 x.lines.length 26 0 x.lines.length,.bool x.down,.int x.ew]
def rD (x:aN):List aG:=[.box 150 [.sl 1 x.j.n 1 0 x.j.n,.d (.val (.slice none 0 0)),.int x.j.s],.dat 5 1 (aB x.j.l),.box 190 ([.int x.room,.int x.term]++(x.sh.flatMap sy++[.int x.wr])),Dc x,aR x.lines,.box 160 [.ptr 0 0,.ptr 6 0,.ptr 7 0,.int x.j.cnt,.int x.j.cv],.box 243 [.ptr 0 0,.int 0,.int ((x.j.n / 4:Nat):Int)],.box 245 [.ptr 0 0,.int ((2*(x.j.n / 4):Nat):Int),.int ((x.j.n-2*(x.j.n / 4):Nat):Int),.int x.j.us]]
theorem Dg (k:Nat) (hk:8≤k) (x:aN):(rD x).all (dW k)=true:=by
 have h:∀ i,i<8→i<k:=fun i hi=>by omega
 simp [rD,Dc,aR,List.all_cons,List.all_nil,dW,Bool.and_true,aK,aP,eE,eN,LV.int,LV.bool,bS,cZ,h]
theorem zl {c:aF} (h:gH c=true):aZ c (dN c) bI=({ dN c with term:=1 },0):=by
 have hr:=(d_ c (dN c)).2 (oW h)
 rw [rF hr (by decide) (by decide) (by decide)]
 have h0:(dN c).term=0:=by unfold dN; rw [if_pos h]
 show ey (dN c)=_
 unfold ey
 rw [h0]
 rfl
theorem ac7:fh bI=[1,21]:=by decide +kernel
theorem Je {c:aF} (h:gH c=true) {n:Nat} (hn:64≤n∧n≤65536) (s room term:Int) (sh:List lz) (wr now:Int):(nQ c n s room term sh wr now).dK bI=0:=by
 have hrm:(nQ c n s room term sh wr now).j.room (fh bI).length=true:=by
  rw [ac7]
  show (decide (1≤2∧2≤3900)&&qI (n-2*(n / 4)) 0 (2+(bw 0).length))=true
  rw [show (bw 0).length=1 by decide +kernel]
  unfold qI
  rw [show (bw (2+1:Nat)).length=1 by decide +kernel]
  simp
  omega
 unfold aN.dK aN.EP
 show (if (aZ c (dN c) bI).2≠0 then (aZ c (dN c) bI).2 else if (if (nQ c n s room term sh wr now).j.room (fh bI).length=true then (nQ c n s room term sh wr now).j else (nQ c n s room term sh wr now).j.pack (jN (dN c))).room (fh bI).length=true then 0 else 3)=0
 rw [zl h,if_neg (fun h=>h rfl),if_pos hrm,if_pos hrm]
theorem EE {c:aF} (h:gH c=true) {n:Nat} (hn:64≤n∧n≤65536) (s room term:Int) (sh:List lz) (hs:sh.length=25) (wr now:Int):BW (nQ c n s room term sh wr now):=
 ⟨oW h,⟨List.length_replicate,hn,jf _,Nat.zero_le _⟩,hs,List.length_replicate⟩
theorem Nd {c:aF} (h:gH c=true) {n:Nat} (hn:64≤n∧n≤65536) (s room term:Int) (sh:List lz) (wr now:Int):((nQ c n s room term sh wr now).bR bI now).s = { dN c with term:=1 }:=by
 unfold aN.bR
 rw [if_pos (Je h hn s room term sh wr now)]
 show (aZ c (dN c) bI).1=_
 rw [zl h]
def K7 (c:aF) (n:Nat) (s room term:Int) (sh:List lz) (wr now:Int) (k:Nat):St:=⟨[(1,.ptr 0 0),(2,.ptr 2 0),(3,.int now),(4,.ptr 3 0),(8,.d (.val (.pointer none))),(9,.int 0),(16,.ptr 8 0),(62,.int (dN c).nodes.length),(63,.int k)],
 [some (.box 150 [.sl 1 n 1 0 n,.d (.val (.slice none 0 0)),.int (IntKind.i64.wrap (s+1))]),some (.dat 5 1 (aB (List.replicate n 0))),some (.box 190 (.int room::.int term::(sh.flatMap sy++[.int wr]))),
  some (.box 23 [.int c.nodes,.int c.bL,.int c.cE,.int c.gT,.int c.cc,.int c.eG,.int c.deadline,.int c.room,.int c.ga]),
  some (.box 160 [.ptr 0 0,.ptr 5 0,.ptr 6 0,.int 0,.int (-1)]),some (.box 243 [.ptr 0 0,.int 0,.int ((n / 4:Nat):Int)]),some (.box 245 [.ptr 0 0,.int ((2*(n / 4):Nat):Int),.int ((n-2*(n / 4):Nat):Int),.int 0]),
  some (.box 30 [bS (dN c).nodes,cZ (dN c).jobs,.int (dN c).goal,.int (dN c).prior,.int (dN c).mode,.int (dN c).term]),
  some (.box 195 [.int c.nodes,.int c.bL,.int c.cE,.int c.gT,.int c.cc,.int c.eG,.int c.deadline,.int c.room,.int c.ga,.ptr 0 0,.ptr 4 0,.ptr 2 0,bS (dN c).nodes,cZ (dN c).jobs,.int (dN c).goal,.int (dN c).prior,.int (dN c).mode,.int (dN c).term,.sl 9 k 26 0 k,.bool false,.int 0]),
  some (aR (List.replicate k (Ip now)))]⟩
def Rv (c:aF) (n:Nat) (y:aN):List (Option aG):=
 [some (.box 150 [.sl 1 n 1 0 n,.d (.val (.slice none 0 0)),.int y.j.s]),some (.dat 5 1 (aB y.j.l)),some (.box 190 (.int y.room::.int (if y.s.term>y.term then y.s.term else y.term)::(y.sh.flatMap sy++[.int y.wr]))),
  some (.box 23 [.int c.nodes,.int c.bL,.int c.cE,.int c.gT,.int c.cc,.int c.eG,.int c.deadline,.int c.room,.int c.ga]),
  some (.box 160 [.ptr 0 0,.ptr 5 0,.ptr 6 0,.int y.j.cnt,.int y.j.cv]),some (.box 243 [.ptr 0 0,.int 0,.int ((n / 4:Nat):Int)]),some (.box 245 [.ptr 0 0,.int ((2*(n / 4):Nat):Int),.int ((n-2*(n / 4):Nat):Int),.int y.j.us]),
  some (.box 30 [bS (dN c).nodes,cZ (dN c).jobs,.int (dN c).goal,.int (dN c).prior,.int (dN c).mode,.int (dN c).term]),
  some (.box 195 [.int y.c.nodes,.int y.c.bL,.int y.c.cE,.int y.c.gT,.int y.c.cc,.int y.c.eG,.int y.c.deadline,.int y.c.room,.int y.c.ga,.ptr 0 0,.ptr 4 0,.ptr 2 0,bS y.s.nodes,.d (.dO 12 []),.int y.s.goal,.int y.s.prior,.int y.s.mode,.int y.s.term,.sl 9 y.lines.length 26 0 y.lines.length,.bool y.down,.int y.ew]),
  some (aR y.lines)]
theorem Nq (c:aF) (hm:gH c=true) (n:Nat) (hn:64≤n∧n≤65536) (s room term:Int) (sh:List lz) (hs:sh.length=25) (wr now:Int) (El:0≤now∧now≤1000000):bu Tryz.prog cF 37 [fN c,.ptr 0 0,.ptr 2 0,.int now] (cU (List.replicate n 0) s++iu room term sh wr) (.dM [.ptr 3 0,.int 0]) (rD (Nf c n s room term sh wr now)):=by
 have hlen:(List.replicate n (0:Int)).length=n:=List.length_replicate
 have hmay:=yT (G:=cF) c
 rw [hm] at hmay
 have hsz:=ia (G:=cF) (List.replicate n 0) s
 have II:=zk (G:=cF) now
 rw [decide_eq_true El] at II
 have hop:=Iv (G:=cF) n s hn
 have hrd:=LS c
 have AG:=uQ (nQ c n s room term sh wr now) (EE hm hn s room term sh hs wr now) bI now
 have hjn:=DY (nQ c n s room term sh wr now) bI now
 have hst:=Nd hm hn s room term sh wr now
 rw [Je hm hn] at AG
 unfold Nf
 have ET:(dN c).nodes.length≤6:=(oW hm).len.2
 have hj0:(dN c).jobs=[]:=by unfold dN; rw [if_pos hm]
 generalize hy:(nQ c n s room term sh wr now).bR bI now=y at *
 have hfe:=qv (G:=cF) y.room y.term y.sh y.wr y.s.term
 simp only [cU,hlen] at hsz hop
 simp only [jnP,aq] at hop
 simp only [aq] at hrd
 simp only [bT,dS,aR,nQ,hjn,List.cons_append,List.nil_append] at AG
 simp only [iu,List.cons_append,List.nil_append] at hfe
 refine cI Tryz.func37 (by decide) PS rfl ?_
 simp only [cU,iu,hlen,aae,go_sem]
 refine av (hmay) rfl rfl rfl rfl ?_; simp only [go_sem]
 refine au [0,1] (hsz) rfl ?_ (by decide) ?_ ?_ (by simp) ?_ <;> simp only [ag,ah,go_sem]
 simp only [decide_eq_false (show ¬ ((n:Nat):Int)<64 by omega),go_sem]
 refine av (II) rfl rfl rfl rfl ?_; simp only [go_sem]
 refine au [0,1] (hop) rfl ?_ (by decide) ?_ ?_ (by simp) ?_ <;> simp only [ag,ah,go_sem]
 refine av (hrd) rfl rfl rfl rfl ?_; simp only [go_sem]
 refine aW [1,2,3,4,8,9,16,62,63] [.b 8 18 197 26] (fun k:Nat=>k≤(dN c).nodes.length) (fun k=>(dN c).nodes.length-k) (K7 c n s room term sh wr now) 0 ?_ (Nat.zero_le _) (fun k hk=>?_)
 ·simp only [K7,aR,List.replicate_zero,Int.natCast_zero,go_sem]
 simp only [K7,aR,go_sem]
 by_cases hlt:k<(dN c).nodes.length
 ·have gm:(List.replicate (k+1) (Ip now)).map mU=(List.replicate k (Ip now)).map mU++[mU (Ip now)]:=by rw [List.replicate_succ',List.map_append]; rfl
  simp only [decide_eq_true (show ((k:Nat):Int)<(((dN c).nodes.length:Nat):Int) by omega),go_sem]
  have sP:mU (Ip now)=[i64 0,bl false,i64 0,i64 0,i64 0,i64 0,i64 0,i64 0,i64 0,i64 0,i64 0,i64 0,i64 0,i64 0,i64 now,i64 0,i64 0,i64 0,i64 0,i64 0,i64 0,i64 0,i64 0,i64 0,i64 0,i64 0]:=rfl
  have c1:(k+1)*208≤70368744177664:=by omega
  simp only [List.length_append,List.length_replicate,c1,go_sem]
  refine bh (k+1) ?_ ?_ (show k+1≤(dN c).nodes.length by omega) (show (dN c).nodes.length-(k+1)<(dN c).nodes.length-k by omega)
  ·simp only [aK,aP,go_sem]
  ·simp only [aH (show k<9223372036854775807 by omega),gm,sP,List.length_replicate,List.length_append,K7,aR,go_sem]
 obtain rfl:k=(dN c).nodes.length:=by omega
 simp only [decide_eq_false (show ¬ (((dN c).nodes.length:Nat):Int)<(((dN c).nodes.length:Nat):Int) by omega),go_sem]
 simp only [bI,List.length_replicate] at AG
 refine au [8,4,0,5,6,1,2,9] (AG) rfl ?_ (by decide) ?_ ?_ (by simp) ?_ <;> simp only [ag,ah,go_sem,aU,bE,aK,aP,List.length_replicate]
 have hyj:y.s.jobs=[]:=by rw [hst]; exact hj0
 refine au [2] (hfe) rfl ?_ (by decide) ?_ ?_ (by simp) ?_ <;> simp only [ag,ah,go_sem,aU,bE,aK,aP]
 simp only [hyj,Int.natCast_zero,go_sem]
 refine aW [8,9,16,95,96,97] [] (fun k:Nat=>k=0) (fun k=>1-k) (fun _=>⟨[(8,.d (.val (.pointer none))),(9,.int 0),(16,.ptr 8 0),(95,.d (.dO 12 [])),(96,.int 0),(97,.int 0)],Rv c n y⟩) 0 ?_ rfl (fun k hk=>?_)
 ·simp only [Rv,aR,hyj,go_sem]
 subst hk
 simp only [Rv,aR,hyj,go_sem]
 have hid:=Dg 8 (Nat.le_refl 8) y.Ra
 simp only [aN.Ra,rD,Dc,aR,hjn,hyj,List.map_nil,bS,cZ,LV.int,LV.bool] at hid ⊢
 refine dA [] [0,1,2,8,9,4,5,6] [] (vs:=[.ptr 8 0,.int 0]) rfl rfl (by decide) (by simp) (by simp) ?_ hid ?_
 ·simp only [List.map_cons,List.map_nil,fq,mT,aU,bE]
  rfl
 simp [aV,ah,ag,LV.int,LV.bool]
end Dv
