/- part -/
import Derived.Test.YtkalnfkokkjliaaGreatDoorNA
import Derived.Test.YtkalnfkokkjliaaGreatDoorPB
import Derived.Test.YtkalnfkokkjliaaGreatDoorOA
import Derived.Test.YtkalnfkokkjliaaGreatDoorD7
import Derived.Test.YtkalnfkokkjliaaGreatDoorDD
import Derived.Test.YtkalnfkokkjliaaGreatDoorQ9
import Derived.Test.YtkalnfkokkjliaaGreatDoorDA
import Derived.Test.YtkalnfkokkjliaaGreatDoorI9
set_option linter.all false
set_option maxHeartbeats 2000000
set_option maxRecDepth 100000
namespace Dv
open Go Go.Proofs
variable {G:Nat→Option (List DV)}
def bE (l:List Int):Prop:=∀ c∈l,0≤c∧c≤255
theorem bE.cat {a b:List Int} (ha:bE a) (hb:bE b):bE (a++b):=fun c hc=>(List.mem_append.1 hc).elim (ha c) (hb c)
theorem FO:∀ (f:Nat) (m:Int),0≤m→m<256*128 ^ f→bE (iw f m)
 | 0,m,h,h2=>by
   intro c hc
   unfold iw at hc
   simp only [List.mem_singleton] at hc
   subst hc
   omega
 | f+1,m,h,h2=>by
   intro c hc
   unfold iw at hc
   split at hc
   ·rcases List.mem_cons.1 hc with rfl | hc
    ·omega
    ·refine FO f _ (by omega) ?_ c hc
     rw [Int.pow_succ] at h2
     omega
   ·simp only [List.mem_singleton] at hc; subst hc; omega
theorem lE (n:Int):bE (br n):=by
 unfold br
 split
 ·rename_i h
  unfold isNum eF at h
  rw [decide_eq_true_eq] at h
  exact FO 8 n h.1 (by omega)
 ·intro c hc; cases hc
theorem BU (l:List Int):bE (jt l):=by
 unfold jt
 split
 ·refine bE.cat (lE _) (fun c hc=>?_)
  obtain ⟨x,_,hx⟩:=List.mem_flatMap.1 hc
  exact lE x c hx
 ·intro c hc; cases hc
theorem Yt (n:Int):0≤IntKind.u8.wrap n∧IntKind.u8.wrap n≤255:=by
 show 0≤n % 256∧n % 256≤255
 omega
theorem Nc (n:Int):bE (rH n):=by
 intro c hc
 simp only [rH,List.mem_cons,List.not_mem_nil,or_false] at hc
 rcases hc with rfl | rfl | rfl | rfl <;> exact Yt _
theorem p9 {p:List Int} (h:bE p):bE (eT p):=by
 unfold eT
 split
 ·intro c hc; cases hc
 ·exact (((lE _).cat h).cat (Nc _)).cat (fun c hc=>by simp only [List.mem_singleton] at hc; subst hc; omega)
theorem ny {l:List Int} {a:Nat} {b:List Int} (hl:bE l) (hb:bE b):bE (bN l a b):=
 bE.cat (bE.cat (fun c hc=>hl c (List.mem_of_mem_take hc)) hb) (fun c hc=>hl c (List.mem_of_mem_drop hc))
theorem m_ (n:Nat):bE (List.replicate n 0):=fun c hc=>by rw [List.eq_of_mem_replicate hc]; omega
theorem ED (o:bT):bE (gw o):=by
 unfold gw
 split
 ·exact BU _
 ·intro c hc; cases hc
theorem y5 (s:aa):bE (jD s):=by
 unfold jD
 split
 ·exact BU _
 ·intro c hc; cases hc
theorem E6 (l:List Int):(jt l).length≤9*l.length+9:=by
 unfold jt
 split
 ·have h1:=JX l
  have h2:=iA (l.length:Int)
  rw [List.length_append]; omega
 ·simp
theorem Rv (o:bT):(gw o).length≤90:=by
 unfold gw
 split
 ·have h1:=E6 (o.kind::(cB o).take (dX o.kind))
  have h3:(o.kind::(cB o).take (dX o.kind)).length≤7:=by rw [List.length_cons,List.length_take]; simp [cB]; omega
  omega
 ·simp
theorem Rw (s:aa):(jD s).length≤3000:=by
 unfold jD
 split
 ·rename_i h
  have h1:=E6 (fK s)
  have h2:(fK s).length≤320:=by
   unfold fK
   rw [List.length_append,vJ s (Nat.le_refl _)]
   simp only [List.length_cons,List.length_nil]
   omega
  omega
 ·simp
theorem KS {l:List Int} {fr sz:Nat} {b:List Int} {bz:Int} (hl:bE l) (hb:bE b):bE (iL l fr sz b bz):=
 ny (ny hl (m_ _)) (p9 ((lE _).cat hb))
theorem Mu {n:Nat} {l eO:List Int} {cnt:Int} (hl:bE l) (hb:bE eO):bE (xk n l eO cnt):=ny (KS hl hb) (m_ _)
structure jy where
 n:Nat
 l:List Int
 s:Int
 cnt:Int
 bz:Int
 us:Nat
def jO (j:jy):List aC:=uy j.n j.l j.s j.cnt j.bz j.us
structure xJ (j:jy):Prop where
 len:j.l.length=j.n
 size:64≤j.n∧j.n≤65536
 My:bE j.l
 used:j.us≤j.n-2*(j.n / 4)
def jy.room (j:jy) (k:Nat):Bool:=nk j.n j.us j.cnt k
def jy.add (j:jy) (p:List Int):jy:={ j with l:=bN j.l (2*(j.n / 4)+j.us) (nr j.cnt p),s:=IntKind.i64.wrap (j.s+1),cnt:=IntKind.i64.wrap (j.cnt+1),us:=j.us+(nr j.cnt p).length }
def jy.NK (j:jy) (eO:List Int):Int:=if j.bz=j.cnt∨eX j.l 0 (j.n / 4) eO j.cnt≠0 then 3 else 0
def jy.pack (j:jy) (eO:List Int):jy:=if j.bz=j.cnt∨eX j.l 0 (j.n / 4) eO j.cnt≠0 then j else { j with l:=xk j.n j.l eO j.cnt,s:=IntKind.i64.wrap (IntKind.i64.wrap (IntKind.i64.wrap (j.s+1)+1)+1),bz:=j.cnt,us:=0 }
theorem BX (j:jy) (h:xJ j) (k:Nat) (hk:k≤900000):bh Tryz.prog G 183 [.ptr 0 0,.int k] (jO j) (.bool (j.room k)) (jO j):=By j.n j.l j.s j.cnt j.bz j.us k h.len h.size.2 h.used hk
theorem OL (j:jy) (h:xJ j) (p:List Int) (hr:j.room p.length=true):bh Tryz.prog G 33 [.ptr 0 0,ak p] (jO j) (.int 0) (jO (j.add p)):=Fc j.n j.l j.s j.cnt j.bz j.us p h.len (by have:=h.size; omega) h.used hr
theorem LB (j:jy) (h:xJ j) (eO:List Int) (hp:eO.length≤90000):bh Tryz.prog G 31 [.ptr 0 0,ak eO] (jO j) (.int (j.NK eO)) (jO (j.pack eO)):=by
 obtain ⟨n,l,s,cnt,bz,us⟩:=j
 unfold jy.NK jy.pack
 dsimp only
 by_cases h1:bz=cnt
 ·rw [if_pos (.inl h1),if_pos (.inl h1)]
  subst h1
  exact xG n l s bz us eO
 by_cases h2:eX l 0 (n / 4) eO cnt=0
 ·rw [if_neg (by simp [h1,h2]),if_neg (by simp [h1,h2])]
  exact FT n l s cnt bz us eO h.len h.size h.My hp h1 h2
 ·rw [if_pos (.inr h2),if_pos (.inr h2)]
  exact Aw n l s cnt bz us eO h.len h.size h.My hp h1 h2
theorem jy.Ew {j:jy} {p:List Int} (hr:j.room p.length=true):j.us+(nr j.cnt p).length≤j.n-2*(j.n / 4):=by
 unfold jy.room nk rR at hr
 rw [Bool.and_eq_true,decide_eq_true_eq,decide_eq_true_eq] at hr
 have hrl:(br j.cnt++p).length=p.length+(br j.cnt).length:=by rw [List.length_append,Nat.add_comm]
 unfold nr
 rw [p_ (by omega),hrl]
 omega
theorem xJ.add {j:jy} (h:xJ j) {p:List Int} (hp:bE p) (hr:j.room p.length=true):xJ (j.add p):=by
 have hf:=jy.Ew hr
 have hs:=h.size
 have hlen:=h.len
 refine ⟨?_,h.size,ny h.My (p9 ((lE _).cat hp)),hf⟩
 show (bN j.l (2*(j.n / 4)+j.us) (nr j.cnt p)).length=j.n
 rw [dR (by omega),h.len]
theorem xJ.pack {j:jy} (h:xJ j) {eO:List Int} (hp:bE eO):xJ (j.pack eO):=by
 have hs:=h.size
 have hlen:=h.len
 unfold jy.pack
 split
 ·exact h
 ·rename_i hc
  refine ⟨?_,h.size,Mu h.My hp,by show 0≤_; omega⟩
  show (bN (iL j.l 0 (j.n / 4) eO j.cnt) (2*(j.n / 4)) (List.replicate (j.n-2*(j.n / 4)) 0)).length=j.n
  have xF:=Bv (l:=j.l) (sz:=j.n / 4) (b:=eO) (bz:=j.cnt) (by omega) (by simp at hc; exact hc.2)
  rw [dR (by rw [List.length_replicate]; omega),xF,hlen]
theorem jy.abZ (j:jy) (p:List Int):(j.add p).n=j.n:=rfl
theorem jy.CX (j:jy) (p:List Int):(j.pack p).n=j.n:=by unfold jy.pack; split <;> rfl
end Dv
namespace Dv
open Go Go.Proofs
variable {G:Nat→Option (List DV)}
structure nQ where
 gen:Int
 has:Bool
 order:eH
 sent:Int
 heard:Int
 report:eH
def vO (l:nQ):List DV:=[i64 l.gen,bl l.has]++(rK l.order++([i64 l.sent,i64 l.heard]++rK l.report))
structure aO where
 c:aB
 s:aa
 j:jy
 room:Int
 term:Int
 sh:List pE
 wr:Int
 lines:List nQ
 down:Bool
 dA:Int
def eU (x:aO):aC:=.box 195 [.int x.c.nodes,.int x.c.bI,.int x.c.cH,.int x.c.iN,.int x.c.cr,.int x.c.eZ,.int x.c.deadline,.int x.c.room,.int x.c.gX,.ptr 2 0,.ptr 1 0,.ptr 6 0,bS x.s.nodes,de x.s.jobs,.int x.s.goal,.int x.s.prior,.int x.s.mode,.int x.s.term,.sl 7 x.lines.length 26 0 x.lines.length,.bool x.down,.int x.dA]
def bC (l:List nQ):aC:=.dat 197 26 (l.map vO)
def bZ (x:aO):List aC:=[eU x,.box 160 [.ptr 2 0,.ptr 3 0,.ptr 4 0,.int x.j.cnt,.int x.j.bz],.box 150 [.sl 5 x.j.n 1 0 x.j.n,.d (.val (.slice none 0 0)),.int x.j.s],.box 243 [.ptr 2 0,.int 0,.int ((x.j.n / 4:Nat):Int)],.box 245 [.ptr 2 0,.int ((2*(x.j.n / 4):Nat):Int),.int ((x.j.n-2*(x.j.n / 4):Nat):Int),.int x.j.us],.dat 5 1 (az x.j.l),.box 190 ([.int x.room,.int x.term]++(x.sh.flatMap sD++[.int x.wr])),bC x.lines]
theorem cZ (k:Nat) (hk:8≤k) (x:aO):(bZ x).all (dV k)=true:=by
 have h:∀ i,i<8→i<k:=fun i hi=>by omega
 simp [bZ,eU,bC,List.all_cons,List.all_nil,dV,Bool.and_true,aZ,bF,eu,eB,LV.int,LV.bool,bS,de,h]
theorem Ms (s:aa) (hn:s.nodes.length≤1000) (hj:s.jobs.length≤1000):bh Tryz.prog G 73 [aY s] [] (aY s) []:=by
 refine cA Tryz.func73 (by decide) Hz rfl ?_
 simp only [Um,go_sem]
 refine jf (ta s.nodes hn) rfl rfl rfl ?_
 simp only [go_sem]
 refine jf (tc s.jobs hj) rfl rfl rfl ?_
 simp only [go_sem]
 refine an rfl ?_
 simp only [go_sem]
 exact dZ [2,3] rfl (by simp [St.obj,au]) (by simp [St.obj,au,aP,St.get,aW,ah,ag,bB,LV.int,List.take_of_length_le])
def aaK:=qx Tryz.f98
theorem YN:aj Tryz.prog Tryz.f98=some aaK:=by kernel_rfl
def JM:=qx Tryz.f119
theorem Dj:aj Tryz.prog Tryz.f119=some JM:=by kernel_rfl
def XS:=qx Tryz.f109
theorem Uh:aj Tryz.prog Tryz.f109=some XS:=by kernel_rfl
def aa2:=qx Tryz.f39
theorem Y7:aj Tryz.prog Tryz.f39=some aa2:=by kernel_rfl
def XM:=qx Tryz.f116
theorem Ub:aj Tryz.prog Tryz.f116=some XM:=by kernel_rfl
def Zj:=qx Tryz.f43
theorem OQ:aj Tryz.prog Tryz.f43=some Zj:=by kernel_rfl
def aa1:=qx Tryz.f40
theorem Y6:aj Tryz.prog Tryz.f40=some aa1:=by kernel_rfl
theorem Ea (n:Int):bh Tryz.prog G 98 [.int n] [] (.bool (decide (0≤n∧n≤1000000))) []:=by
 refine bn Tryz.func98 (by decide) YN rfl rfl ?_
 simp only [aaK,go_sem]
 by_cases h1:0≤n
 ·simp only [decide_eq_true (show n≥0 from h1),h1,go_sem]
 ·simp only [decide_eq_false (show ¬ n≥0 from h1),h1,false_and,go_sem]
theorem AY (o:bT):bh Tryz.prog G 116 [tA o] [] (.bool (decide (1≤o.kind∧o.kind≤6))) []:=by
 refine bn Tryz.func116 (by decide) Ub rfl rfl ?_
 simp only [XM,go_sem]
 by_cases h1:1≤o.kind
 ·simp only [decide_eq_true (show o.kind≥1 from h1),h1,go_sem]
 ·simp only [decide_eq_false (show ¬ o.kind≥1 from h1),h1,false_and,go_sem]
theorem tf (x:aO):bh Tryz.prog G 109 [.ptr 0 0] (bZ x) (.bool (!x.down)) (bZ x):=by
 refine aQ Tryz.func109 (by decide) Uh rfl rfl (cZ _ (Nat.le_refl 8) _) rfl ?_
 simp only [bZ,eU,XS,go_sem]
def XR:Nat×C×List RV:=(7,
(.seq (.qV [qo 2 (.mv (qk 0))])
 (.seq (.qV [qm 3 0,
 qo 4 (.nD (.t 3)),
 qo 5 (.iB 0 (.t 4)),
 qo 6 ((.more (.atl (.t 5)))),
 qm 2 6])
 .ret)),
[(.t 2)])
theorem Ug:aj Tryz.prog Tryz.f110=some XR:=by kernel_rfl
theorem FX (x:aO):bh Tryz.prog G 110 [.ptr 0 20] (bZ x) (.int x.dA) (bZ x):=by
 refine aQ Tryz.func110 (by decide) Ug rfl rfl (cZ _ (Nat.le_refl 8) _) rfl ?_
 simp only [bZ,eU,XR,go_sem]
theorem IB (x:aO):bh Tryz.prog G 127 [.ptr 0 20,.int 1] (bZ x) (.int (IntKind.i64.wrap (x.dA+1))) (bZ { x with dA:=IntKind.i64.wrap (x.dA+1) }):=by
 refine aQ Tryz.func127 (by decide) JJ rfl rfl (cZ _ (Nat.le_refl 8) _) rfl ?_
 simp only [bZ,eU,OZ,go_sem]
theorem Ir (x:aO):bh Tryz.prog G 40 [.ptr 0 0] (bZ x) (.int x.dA) (bZ x):=by
 have hl:=FX (G:=G) x
 simp only [bZ,eU,bC,List.cons_append,List.nil_append] at hl
 refine aQ Tryz.func40 (by decide) Y6 rfl rfl (cZ _ (Nat.le_refl 8) _) rfl ?_
 simp only [bZ,eU,bC,aa1,go_sem]
 refine gL [0,1,2,3,4,5,6,7] (hl) rfl ?_ (by decide) ?_ ?_ ?_ <;> simp only [ag,ah,go_sem,bL,cu,aZ,bF]
def aO.state (x:aO):aa:=if x.down=true then ⟨[],[],0,0,0,0⟩ else x.s
theorem Io (x:aO) (hd:x.down=false) (hn:x.s.nodes.length≤1000) (hj:x.s.jobs.length≤1000):bh Tryz.prog G 39 [.ptr 0 0] (bZ x) (aY x.s) (bZ x):=by
 have ha:=tf (G:=G) x
 have hc:=Ms (G:=G) x.s hn hj
 simp only [bZ,eU,bC,hd,List.cons_append,List.nil_append] at ha
 refine aQ Tryz.func39 (by decide) Y7 rfl rfl (cZ _ (Nat.le_refl 8) _) rfl ?_
 simp only [bZ,eU,bC,hd,aa2,go_sem]
 refine gL [0,1,2,3,4,5,6,7] (ha) rfl ?_ (by decide) ?_ ?_ ?_ <;> simp only [ag,ah,go_sem,bL,cu,aZ,bF]
 refine ax (hc) rfl rfl rfl rfl ?_; simp only [go_sem]
structure Gm (x:aO):Prop where
 right:bK x.c x.s
 jn:xJ x.j
 sh:x.sh.length=25
 lines:x.lines.length=x.s.nodes.length
def aO.Jz (x:aO) (o:bT):jy:=if x.j.room (gw o).length=true then x.j else x.j.pack (jD x.s)
def aO.fQ (x:aO) (o:bT):Int:=if (bx x.c x.s o).2≠0 then (bx x.c x.s o).2 else if (x.Jz o).room (gw o).length=true then 0 else 3
def aO.eG (x:aO) (o:bT):jy:=if (bx x.c x.s o).2≠0 then x.j else x.Jz o
def aO.Ae (x:aO) (o:bT):LV:=if x.fQ o≠0 then .d (.val (.slice none 0 0)) else ak (gw o)
theorem L4 (x:aO) (h:Gm x) (o:bT):bh Tryz.prog cR 119 [.ptr 0 0,tA o] (bZ x) (.dH [aY (bx x.c x.s o).1,x.Ae o,.int (x.fQ o)]) (bZ { x with j:=x.eG o }):=by
 have hap:=rC x.c x.s o
 have hpu:=NQ o
 have lZ:(gw o).length≤900000:=by have:=Rv o; omega
 have QK:=BX (G:=cR) x.j h.jn (gw o).length lZ
 have hin:=Rt (G:=cR) x.s (by have:=h.right.len; omega) (by have:=h.right.jobs; omega)
 have hpk:=LB (G:=cR) x.j h.jn (jD x.s) (by have:=Rw x.s; omega)
 have B7:=BX (G:=cR) (x.j.pack (jD x.s)) (h.jn.pack (y5 _)) (gw o).length lZ
 have hn2:(x.j.pack (jD x.s)).n=x.j.n:=jy.CX _ _
 simp only [jO,uy,hn2,ak] at QK hpk B7 hpu hin
 unfold aO.Ae aO.fQ aO.eG aO.Jz
 by_cases h1:(bx x.c x.s o).2=0
 case neg=>
  simp only [ne_eq,h1,not_false_eq_true,if_true]
  refine aQ Tryz.func119 (by decide) Dj rfl rfl (cZ _ (Nat.le_refl 8) _) rfl ?_
  simp only [bZ,eU,bC,ak,JM,go_sem]
  refine aU (hap) rfl rfl rfl rfl ?_; simp only [go_sem]
  refine an rfl ?_
  simp only [show ((bx x.c x.s o).2 !=0)=true from bne_iff_ne.2 h1,go_sem]
 simp only [ne_eq,h1,not_true_eq_false,if_false]
 by_cases h2:x.j.room (gw o).length=true
 case pos=>
  rw [h2] at QK
  simp only [h2,if_true,not_true_eq_false,if_false]
  refine aQ Tryz.func119 (by decide) Dj rfl rfl (cZ _ (Nat.le_refl 8) _) rfl ?_
  simp only [bZ,eU,bC,ak,JM,go_sem]
  refine aU (hap) rfl rfl rfl rfl ?_; simp only [go_sem]
  refine an rfl ?_
  simp only [h1,go_sem]
  refine ax (hpu) rfl rfl rfl rfl ?_; simp only [go_sem]
  simp only [aA,go_sem]
  refine av [1,2,3,4,5] (QK) rfl ?_ (by decide) ?_ ?_ (by simp) ?_ <;> simp only [ag,ah,go_sem]
  simp only [aA,go_sem]
  refine av [1,2,3,4,5] (QK) rfl ?_ (by decide) ?_ ?_ (by simp) ?_ <;> simp only [ag,ah,go_sem]
 have acF:nk x.j.n x.j.us x.j.cnt (gw o).length=false:=by cases hq:nk x.j.n x.j.us x.j.cnt (gw o).length <;> simp_all [jy.room]
 simp only [jy.room,acF] at QK
 simp only [h2,if_false]
 generalize hj2:x.j.pack (jD x.s)=j2 at *
 generalize x.j.NK (jD x.s)=e2 at *
 obtain ⟨n2,l2,s2,c2,a2,u2⟩:=j2
 subst hn2
 dsimp only at hpk B7
 have hbody:∀ r:Bool,jy.room ⟨x.j.n,l2,s2,c2,a2,u2⟩ (gw o).length=r→bh Tryz.prog cR 119 [.ptr 0 0,tA o] (bZ x) (.dH [aY (bx x.c x.s o).1,if r=true then ak (gw o) else .d (.val (.slice none 0 0)),.int (if r=true then 0 else 3)]) (bZ { x with j:=⟨x.j.n,l2,s2,c2,a2,u2⟩ }):=by
  intro r hr
  rw [hr] at B7
  refine aQ Tryz.func119 (by decide) Dj rfl (by cases r <;> rfl) (cZ _ (Nat.le_refl 8) _) rfl ?_
  simp only [bZ,eU,bC,ak,JM,go_sem]
  refine aU (hap) rfl rfl rfl rfl ?_; simp only [go_sem]
  refine an rfl ?_
  simp only [h1,go_sem]
  refine ax (hpu) rfl rfl rfl rfl ?_; simp only [go_sem]
  simp only [aA,go_sem]
  refine av [1,2,3,4,5] (QK) rfl ?_ (by decide) ?_ ?_ (by simp) ?_ <;> simp only [ag,ah,go_sem]
  refine aU (hin) rfl rfl rfl rfl ?_; simp only [go_sem]
  refine ei [1,2,3,4,5] (hpk) rfl ?_ (by decide) ?_ ?_ (by simp) ?_ <;> simp only [ag,ah,go_sem]
  refine an rfl ?_
  simp only [go_sem]
  simp only [aA,go_sem]
  refine av [1,2,3,4,5] (B7) rfl ?_ (by decide) ?_ ?_ (by simp) ?_ <;> simp only [ag,ah,go_sem]
  cases r with
  | true=>simp only [hr,go_sem]
  | false=>simp only [hr,go_sem]
 have:=hbody _ rfl
 split at this <;> simp_all
end Dv
namespace Dv
open Go Go.Proofs
variable {G:Nat→Option (List DV)}
def XT:=qx Tryz.f103
theorem Ui:aj Tryz.prog Tryz.f103=some XT:=by kernel_rfl
def iC (x:pE) (epoch:Int):pE:=if epoch=x.se then ⟨x.se,x.sd,0,[]⟩ else x
section
variable (A B:List LV) (a b c d x y:LV) (n:Nat)
theorem acs (h:A.length=n):(A++a::b::c::d::B)[n]? = some a:=by subst h; simp
theorem acr (h:A.length=n):(A++a::b::c::d::B)[n+2]? = some c:=by subst h; simp
theorem aax (h:A.length=n):((A++a::b::c::d::B).drop (n+2)).take 2=[c,d]:=by subst h; rw [List.drop_append]; simp [List.drop_eq_nil_of_le]
theorem aaz (h:A.length=n):(A++a::b::c::d::B).take n++[x,y]++(A++a::b::c::d::B).drop (n+2)=A++x::y::c::d::B:=by subst h; rw [List.drop_append]; simp
theorem aay (h:A.length=n):(A++a::b::c::d::B).take (n+2)++[x,y]++(A++a::b::c::d::B).drop (n+4)=A++a::b::x::y::B:=by subst h; rw [List.drop_append,List.take_append]; simp [List.take_of_length_le,List.drop_eq_nil_of_le]
end
theorem Bl (room term:Int) (sh:List pE) (wr:Int) (k:Nat) (h:k<sh.length):∃ A B:List LV,A.length=2+4*k∧(∀ x:pE,LV.int room::LV.int term::((sh.set k x).flatMap sD++[LV.int wr])=A++.int x.ce::kr x.cd::.int x.se::kr x.sd::B)∧∀ x:pE,sh.getD k iP=x→LV.int room::LV.int term::(sh.flatMap sD++[LV.int wr])=A++.int x.ce::kr x.cd::.int x.se::kr x.sd::B:=by
 have hl:=CK sh
 have h2:∀ x:pE,LV.int room::LV.int term::((sh.set k x).flatMap sD++[LV.int wr])=(.int room::.int term::(sh.flatMap sD++[.int wr])).take (2+4*k)++.int x.ce::kr x.cd::.int x.se::kr x.sd::(sh.flatMap sD++[LV.int wr]).drop (2+4*k+2):=by
  intro x
  rw [← Ej (.int room) (.int term) (.int wr) x sh k h]
  simp [sD]
 refine ⟨_,_,?_,h2,fun x hx=>?_⟩
 ·rw [List.length_take]; simp only [List.length_cons,List.length_append,hl,List.length_nil]; omega
 ·rw [← h2 x,← hx]; simp [List.getD,h]
theorem xz (room term:Int) (sh:List pE) (wr:Int) (k:Nat) (hk:1≤k∧k≤24) (hs:sh.length=25) (ep:Int) (he:1≤ep) (r:Int) (hr:r=if ep=(sh.getD k iP).ce∨ep=(sh.getD k iP).se then 0 else 4):bh Tryz.prog G 103 [.ptr 0 0,.int k,.int ep] (kP room term sh wr) (.int r) (kP room term (sh.set k (iC (sh.getD k iP) ep)) wr):=by
 have hj:=nV (G:=G) room term sh wr k hk
 obtain ⟨A,B,hA,hB,hC⟩:=Bl room term sh wr k (by omega)
 have hC:=hC _ rfl
 have abG:=gi 1 room term (sh.set k (iC (sh.getD k iP) ep)) wr
 have Uz:=gi 1 room term sh wr
 have Pb:=cu
 generalize sh.getD k iP=x at *
 obtain ⟨ce,cd,se,sd⟩:=x
 simp only [kP,List.cons_append,List.nil_append] at hj
 refine aQ Tryz.func103 (by decide) Ui rfl rfl abG rfl ?_
 simp only [kP,XT,go_sem]
 refine gL [0] (hj) rfl ?_ (by decide) ?_ ?_ ?_ <;> simp only [ag,ah,go_sem,bL,cu,aZ,bF]
 simp only [LV.int] at hB hC
 rw [hC,hB]
 dsimp only at hr
 generalize hm:2+4*k=m at *
 have g0:=acs A B (LV.d (.val (.int .i64 ce))) (kr cd) (LV.d (.val (.int .i64 se))) (kr sd) m hA
 have g2:=acr A B (LV.d (.val (.int .i64 ce))) (kr cd) (LV.d (.val (.int .i64 se))) (kr sd) m hA
 have gt:=aax A B (LV.d (.val (.int .i64 ce))) (kr cd) (LV.d (.val (.int .i64 se))) (kr sd) m hA
 have gs0:=aaz A B (LV.d (.val (.int .i64 ce))) (kr cd) (LV.d (.val (.int .i64 se))) (kr sd) (LV.d (.val (.int .i64 se))) (kr sd) m hA
 have gs2:=aay A B (LV.d (.val (.int .i64 se))) (kr sd) (LV.d (.val (.int .i64 se))) (kr sd) (LV.d (.val (.int .i64 0))) (LV.d (.val (.slice none 0 0))) m hA
 have gl:∀ a b c d:LV,(A++a::b::c::d::B).length=m+4+B.length:=by intros; rw [List.length_append,hA]; simp; omega
 have c1:m+2≤m+4+B.length:=by omega
 have c2:m+4≤m+4+B.length:=by omega
 clear hB hC abG Uz
 simp only [decide_eq_false (show ¬ ep<1 by omega),g0,go_sem]
 by_cases e2:ep=se
 ·have LN:r=0:=by rw [hr,if_pos (.inr e2)]
  have hcm:iC ⟨ce,cd,se,sd⟩ ep=⟨se,sd,0,[]⟩:=by unfold iC; rw [if_pos e2]
  have b2:(ep==se)=true:=beq_iff_eq.2 e2
  have b3:(ep !=se)=false:=by rw [e2]; exact bne_self_eq_false _
  subst LN
  simp only [hcm,show kr []=LV.d (.val (.slice none 0 0)) from rfl]
  cases b1:(ep !=ce) <;> simp only [b1,b2,b3,g0,g2,gt,gs0,gs2,gl,c1,c2,go_sem]
 ·have hcm:iC ⟨ce,cd,se,sd⟩ ep=⟨ce,cd,se,sd⟩:=by unfold iC; rw [if_neg e2]
  have b2:(ep==se)=false:=beq_eq_false_iff_ne.2 e2
  have b3:(ep !=se)=true:=bne_iff_ne.2 e2
  simp only [hcm]
  by_cases e1:ep=ce
  ·have LN:r=0:=by rw [hr,if_pos (.inl e1)]
   have b1:(ep !=ce)=false:=by rw [e1]; exact bne_self_eq_false _
   subst LN
   simp only [b1,b2,b3,g0,g2,go_sem]
  ·have LN:r=4:=by rw [hr,if_neg (by simp [e1,e2])]
   have b1:(ep !=ce)=true:=bne_iff_ne.2 e1
   subst LN
   simp only [b1,b2,b3,g0,g2,go_sem]
def W5:=qx Tryz.f188
theorem Tp:aj Tryz.prog Tryz.f188=some W5:=by kernel_rfl
def Ww:=qx Tryz.f237
theorem SV:aj Tryz.prog Tryz.f237=some Ww:=by kernel_rfl
def Wv:=qx Tryz.f238
theorem SU:aj Tryz.prog Tryz.f238=some Wv:=by kernel_rfl
def Wu:=qx Tryz.f239
theorem SS:aj Tryz.prog Tryz.f239=some Wu:=by kernel_rfl
def O0:=qx Tryz.f100
theorem JK:aj Tryz.prog Tryz.f100=some O0:=by kernel_rfl
def oM:aC:=.box 72 [.ptr 0 0]
def qD:LV:=.fn (.func 237) [] [.ptr 8 0,.ptr 9 0]
def Ak:LV:=.fn (.func 238) [] [.ptr 8 0]
def GJ:LV:=.fn (.func 239) [] [.ptr 8 0]
def Kk:aC:=.mp [(13,GJ),(2,Ak),(15,Ak),(7,qD),(8,qD)]
theorem Qw (x:aO) (now:Int):bh Tryz.prog G 188 [.ptr 0 0,.int now] (bZ x) (.mr 10) (bZ x++[oM,.box 3 [.int now],Kk]):=by
 refine cA Tryz.func188 (by decide) Tp rfl ?_
 simp only [bZ,eU,bC,W5,go_sem]
 refine dm [] [0,1,2,3,4,5,6,7,8,9,10] [] (vs:=[.mr 10]) rfl rfl (by decide) (by simp) (by simp) ?_ (by show (bZ x++[oM,.box 3 [.int now],Kk]).all (dV 11)=true; rw [List.all_append,cZ _ (by omega)]; rfl) ?_
 ·simp only [List.map_cons,List.map_nil,ff,mw,bL,cu]
  rfl
 simp [aP,ah,ag,LV.int,LV.bool,oM,Kk,GJ,Ak,qD]
end Dv
namespace Dv
open Go Go.Proofs
variable {G:Nat→Option (List DV)}
def ot:eH:=jQ
def fV:nQ:=⟨0,false,ot,0,0,ot⟩
def Ce (now:Int) (k:Int) (l:nQ):nQ:={ l with has:=false,report:=ot,heard:=if k=8 then now else l.heard }
theorem H9 (x:aO) (now:Int) (o:bT) (i:Nat) (hi:i<x.lines.length) (ho:o.a=i):bh Tryz.prog G 237 [tA o,.ptr 8 0,.ptr 9 0] (bZ x++[oM,.box 3 [.int now]]) (.dH []) (bZ { x with lines:=x.lines.set i (Ce now o.kind (x.lines.getD i fV)) }++[oM,.box 3 [.int now]]):=by
 have hid:(bZ { x with lines:=x.lines.set i (Ce now o.kind (x.lines.getD i fV)) }++[oM,.box 3 [.int now]]).all (dV 10)=true:=by rw [List.all_append,cZ _ (by omega)]; rfl
 refine aQ Tryz.func237 (by decide) SV rfl rfl hid rfl ?_
 have hg:=aK (f:=vO) fV hi
 generalize x.lines.getD i fV=l at *
 obtain ⟨lg,lh,⟨q0,q1,q2,q3,q4,q5,q6,q7,q8,q9,q10⟩,ls,le,⟨r0,r1,r2,r3,r4,r5,r6,r7,r8,r9,r10⟩⟩:=l
 simp only [vO,rK,List.cons_append,List.nil_append] at hg
 obtain ⟨k,a,b,c,d,e,f⟩:=o
 dsimp only at ho
 subst ho
 simp only [bZ,eU,bC,oM,List.length_set,Ww,go_sem]
 have HS:∀ v,((x.lines.map vO).set i v)[i]? = some v:=fun v=>List.getElem?_set_self (by simpa using hi)
 by_cases hk:k=8
 ·subst hk
  simp only [hi,hg,HS,Ce,vO,ot,List.map_set,List.length_set,List.set_set,go_sem]
 ·simp only [hi,hg,HS,hk,beq_eq_false_iff_ne.2 hk,Ce,vO,ot,List.map_set,List.length_set,List.set_set,go_sem]
theorem P9 (x:aO) (hs:x.sh.length=25) (o:bT) (i:Nat) (hi:1≤i∧i≤24) (ho:o.a=i):bh Tryz.prog G 238 [tA o,.ptr 8 0] (bZ x++[oM]) (.dH []) (bZ { x with sh:=x.sh.set i iP }++[oM]):=by
 have hid:(bZ { x with sh:=x.sh.set i iP }++[oM]).all (dV 9)=true:=by rw [List.all_append,cZ _ (by omega)]; rfl
 have he:=CD (G:=G) x.room x.term x.sh x.wr i hi hs
 simp only [kP,List.cons_append,List.nil_append] at he
 refine aQ Tryz.func238 (by decide) SU rfl rfl hid rfl ?_
 simp only [bZ,eU,bC,oM,ho,Wv,go_sem]
 refine ei [6] (he) rfl ?_ (by decide) ?_ ?_ (by simp) ?_ <;> simp only [ag,ah,go_sem,bL,cu,aZ,bF]
 refine an rfl ?_
 simp only [go_sem]
theorem Nr (x:aO) (hs:x.sh.length=25) (o:bT) (i:Nat) (hi:1≤i∧i≤24) (ho:o.a=i) (hb:1≤o.b):bh Tryz.prog G 239 [tA o,.ptr 8 0] (bZ x++[oM]) (.dH []) (bZ { x with sh:=x.sh.set i (iC (x.sh.getD i iP) o.b) }++[oM]):=by
 have hid:(bZ { x with sh:=x.sh.set i (iC (x.sh.getD i iP) o.b) }++[oM]).all (dV 9)=true:=by rw [List.all_append,cZ _ (by omega)]; rfl
 have he:=xz (G:=G) x.room x.term x.sh x.wr i hi hs o.b hb _ rfl
 simp only [kP,List.cons_append,List.nil_append] at he
 refine aQ Tryz.func239 (by decide) SS rfl rfl hid rfl ?_
 simp only [bZ,eU,bC,oM,ho,Wu,go_sem]
 refine ei [6] (he) rfl ?_ (by decide) ?_ ?_ (by simp) ?_ <;> simp only [ag,ah,go_sem,bL,cu,aZ,bF]
 refine an rfl ?_
 simp only [go_sem]
end Dv
namespace Dv
open Go Go.Proofs
def je (o:bT) (sh:List pE):List pE:=if o.kind=13 then sh.set o.a.toNat (iC (sh.getD o.a.toNat iP) o.b) else if o.kind=2∨o.kind=15 then sh.set o.a.toNat iP else sh
def mN (now:Int) (o:bT) (l:List nQ):List nQ:=if o.kind=7∨o.kind=8 then l.set o.a.toNat (Ce now o.kind (l.getD o.a.toNat fV)) else l
def aO.dD (x:aO) (o:bT) (now:Int):aO:=if x.fQ o=0 then { x with j:=(x.eG o).add (gw o),s:=(bx x.c x.s o).1,dA:=IntKind.i64.wrap (x.dA+1),sh:=je o x.sh,lines:=mN now o x.lines } else { x with j:=x.eG o }
theorem Ab {x:aO} {o:bT} (he:x.fQ o=0):(bx x.c x.s o).2=0∧(x.eG o).room (gw o).length=true∧x.Ae o=ak (gw o):=by
 have Py:=he
 unfold aO.fQ at he
 split at he
 ·rename_i h; exact absurd he h
 ·rename_i h
  split at he
  ·rename_i h2
   refine ⟨by simpa using h,?_,?_⟩
   ·unfold aO.eG; rw [if_neg h]; exact h2
   ·unfold aO.Ae; rw [if_neg (by simpa using Py)]
  ·cases he
theorem Gm.Jz {x:aO} (h:Gm x) (o:bT):xJ (x.eG o):=by
 unfold aO.eG aO.Jz
 split
 ·exact h.jn
 split
 ·exact h.jn
 ·exact h.jn.pack (y5 _)
theorem Ob {c:aB} {s:aa} {o:bT} (hp:bK c s) (h:(bx c s o).2=0) (hk:Hv o.kind=true):1≤o.a∧o.a≤s.jobs.length:=by
 have hr:=(fq c s).2 hp
 unfold bx AI at h
 rw [if_neg (by rw [hr]; decide)] at h
 split at h
 ·cases h
 split at h
 ·cases h
 ·rename_i h1 h2
  simp only [hk,true_and] at h2
  omega
theorem RG {c:aB} {s:aa} {o:bT} (hp:bK c s) (h:(bx c s o).2=0) (hk:zu o.kind=true):0≤o.a∧o.a<s.nodes.length:=by
 have hr:=(fq c s).2 hp
 unfold bx AI at h
 rw [if_neg (by rw [hr]; decide)] at h
 split at h
 ·cases h
 split at h
 ·cases h
 split at h
 ·cases h
 ·rename_i h0 h1 h2
  have:=vH (o:=o) (by simpa using h0)
  simp only [hk,true_and] at h2
  omega
theorem Oa {c:aB} {s:aa} {o:bT} (hp:bK c s) (h:(bx c s o).2=0) (hn:eP o=true) (hk:o.kind=13):1≤o.b:=by
 have ha:=Ob hp h (by rw [hk]; rfl)
 obtain ⟨k,h1,h2,h3,h4⟩:=OJ hp ha
 rw [Kj ((fq c s).2 hp) hn (by rw [hk]; rfl) (by rw [hk]; rfl),if_neg (by omega)] at h
 unfold bO at h
 simp only [hk] at h
 unfold ki at h
 have Fp:=(hp.num k h3).epoch
 rw [← h4] at Fp
 simp only [Int.reduceEq,if_false,if_true] at h
 split at h
 ·cases h
 split at h
 ·cases h
 ·rename_i h5; omega
theorem zm (x:aO) (h:Gm x) (o:bT) (now:Int):bh Tryz.prog cR 100 [.ptr 0 0,tA o,.int now] (bZ x) (.int (x.fQ o)) (bZ (x.dD o now)):=by
 have hf:=L4 x h o
 unfold aO.dD
 by_cases he:x.fQ o=0
 case neg=>
  simp only [he,if_false]
  generalize x.eG o=J at *
  generalize x.Ae o=B at *
  generalize x.fQ o=e at *
  simp only [bZ,eU,bC,List.cons_append,List.nil_append] at hf
  refine aQ Tryz.func100 (by decide) JK rfl rfl (cZ _ (Nat.le_refl 8) _) rfl ?_
  simp only [bZ,eU,bC,O0,go_sem]
  refine av [0,1,2,3,4,5,6,7] (hf) rfl ?_ (by decide) ?_ ?_ (by simp) ?_ <;> simp only [ag,ah,go_sem,bL,cu,aZ,bF]
  simp only [show (e !=0)=true from bne_iff_ne.2 he,go_sem]
 obtain ⟨h1,h2,h3⟩:=Ab he
 have hj1:=h.Jz o
 have Pp:=fun hk=>Ob h.right h1 (o:=o) hk
 have abz:=fun hk=>RG h.right h1 (o:=o) hk
 have aby:eP o=true:=by
  cases hq:eP o with
  | true=>rfl
  | false=>
    have hr:=(fq x.c x.s).2 h.right
    unfold bx AI at h1
    rw [if_neg (by rw [hr]; decide),if_pos hq] at h1
    cases h1
 rw [h3,he] at hf
 rw [if_pos he,he]
 have ha:=OL (G:=cR) (x.eG o) hj1 (gw o) h2
 have hn1:(x.eG o).n=x.j.n:=by unfold aO.eG aO.Jz; split; · rfl
                               split; · rfl
                               ·exact jy.CX _ _
 generalize x.eG o=J at *
 generalize Fw:J.add (gw o)=J2 at *
 have hn2:J2.n=x.j.n:=by rw [← Fw,jy.abZ,hn1]
 generalize (bx x.c x.s o).1=t at *
 have abT:=IB (G:=cR) { x with j:=J2,s:=t }
 have hal:=Qw (G:=cR) { x with j:=J2,s:=t,dA:=IntKind.i64.wrap (x.dA+1) } now
 have xF:=h.sh
 have sV:=h.lines
 simp only [jO,uy,hn1,hn2,ak] at ha
 simp only [bZ,eU,bC,oM,Kk,hn1,hn2,ak,List.cons_append,List.nil_append] at hf abT hal
 refine aQ Tryz.func100 (by decide) JK rfl rfl (cZ _ (Nat.le_refl 8) _) rfl ?_
 simp only [bZ,eU,bC,hn2,O0,go_sem]
 refine av [0,1,2,3,4,5,6,7] (hf) rfl ?_ (by decide) ?_ ?_ (by simp) ?_ <;> simp only [ag,ah,go_sem,bL,cu,aZ,bF]
 refine av [1,2,3,4,5] (ha) rfl ?_ (by decide) ?_ ?_ (by simp) ?_ <;> simp only [ag,ah,go_sem]
 refine av [0,1,2,3,4,5,6,7] (abT) rfl ?_ (by decide) ?_ ?_ (by simp) ?_ <;> simp only [ag,ah,go_sem,bL,cu,aZ,bF]
 refine ei [0,1,2,3,4,5,6,7] (hal) rfl ?_ (by decide) ?_ ?_ (by simp) ?_ <;> simp only [ag,ah,go_sem,bL,cu,aZ,bF]
 have hlj:=h.right.jobs
 have abh:o.kind=13→1≤o.b:=fun hk=>Oa h.right h1 aby hk
 by_cases RY:o.kind=13
 ·obtain ⟨q1,q2⟩:=Pp (by rw [RY]; rfl)
  obtain ⟨i,hi⟩:∃ i:Nat,o.a=i:=⟨o.a.toNat,by omega⟩
  have hc:=Nr (G:=cR) { x with j:=J2,s:=t,dA:=IntKind.i64.wrap (x.dA+1) } xF o i (by omega) hi (abh RY)
  simp only [bZ,eU,bC,oM,hn2,List.cons_append,List.nil_append] at hc
  have hA:je o x.sh=x.sh.set i (iC (x.sh.getD i iP) o.b):=by unfold je; rw [if_pos RY,hi]; rfl
  have hL:mN now o x.lines=x.lines:=by unfold mN; rw [if_neg (by rw [RY]; decide)]
  simp only [hA,hL]
  have hm:(if o.kind=13 then some (rn (bu [0,1,2,3,4,5,6,7] 10) GJ) else if o.kind=2 then some (rn (bu [0,1,2,3,4,5,6,7] 10) Ak) else if o.kind=15 then some (rn (bu [0,1,2,3,4,5,6,7] 10) Ak) else if o.kind=7 then some (rn (bu [0,1,2,3,4,5,6,7] 10) qD) else if o.kind=8 then some (rn (bu [0,1,2,3,4,5,6,7] 10) qD) else none)=some (rn (bu [0,1,2,3,4,5,6,7] 10) GJ):=by rw [RY]; rfl
  simp only [hm]
  simp only [GJ,go_sem]
  refine an rfl ?_
  simp only [go_sem]
  refine av [0,1,2,3,4,5,6,7,10] (hc) rfl ?_ (by decide) ?_ ?_ (by simp) ?_ <;> simp only [ag,ah,go_sem,bL,cu,aZ,bF]
 by_cases kE:o.kind=2∨o.kind=15
 ·obtain ⟨q1,q2⟩:=Pp (by rcases kE with k | k <;> (rw [k]; rfl))
  obtain ⟨i,hi⟩:∃ i:Nat,o.a=i:=⟨o.a.toNat,by omega⟩
  have hc:=P9 (G:=cR) { x with j:=J2,s:=t,dA:=IntKind.i64.wrap (x.dA+1) } xF o i (by omega) hi
  simp only [bZ,eU,bC,oM,hn2,List.cons_append,List.nil_append] at hc
  have hA:je o x.sh=x.sh.set i iP:=by unfold je; rw [if_neg RY,if_pos kE,hi]; rfl
  have hL:mN now o x.lines=x.lines:=by unfold mN; rw [if_neg (by omega)]
  simp only [hA,hL]
  have hm:(if o.kind=13 then some (rn (bu [0,1,2,3,4,5,6,7] 10) GJ) else if o.kind=2 then some (rn (bu [0,1,2,3,4,5,6,7] 10) Ak) else if o.kind=15 then some (rn (bu [0,1,2,3,4,5,6,7] 10) Ak) else if o.kind=7 then some (rn (bu [0,1,2,3,4,5,6,7] 10) qD) else if o.kind=8 then some (rn (bu [0,1,2,3,4,5,6,7] 10) qD) else none)=some (rn (bu [0,1,2,3,4,5,6,7] 10) Ak):=by rcases kE with k | k <;> (rw [k]; rfl)
  simp only [hm]
  simp only [Ak,go_sem]
  refine an rfl ?_
  simp only [go_sem]
  refine av [0,1,2,3,4,5,6,7,10] (hc) rfl ?_ (by decide) ?_ ?_ (by simp) ?_ <;> simp only [ag,ah,go_sem,bL,cu,aZ,bF]
 by_cases kF:o.kind=7∨o.kind=8
 ·obtain ⟨q1,q2⟩:=abz (by rcases kF with k | k <;> (rw [k]; rfl))
  obtain ⟨i,hi⟩:∃ i:Nat,o.a=i:=⟨o.a.toNat,by omega⟩
  have hc:=H9 (G:=cR) { x with j:=J2,s:=t,dA:=IntKind.i64.wrap (x.dA+1) } now o i (by show i<x.lines.length; omega) hi
  simp only [bZ,eU,bC,oM,hn2,List.length_set,List.cons_append,List.nil_append] at hc
  have hA:je o x.sh=x.sh:=by unfold je; rw [if_neg RY,if_neg kE]
  have hL:mN now o x.lines=x.lines.set i (Ce now o.kind (x.lines.getD i fV)):=by unfold mN; rw [if_pos kF,hi]; rfl
  simp only [hA,hL,List.length_set]
  have hm:(if o.kind=13 then some (rn (bu [0,1,2,3,4,5,6,7] 10) GJ) else if o.kind=2 then some (rn (bu [0,1,2,3,4,5,6,7] 10) Ak) else if o.kind=15 then some (rn (bu [0,1,2,3,4,5,6,7] 10) Ak) else if o.kind=7 then some (rn (bu [0,1,2,3,4,5,6,7] 10) qD) else if o.kind=8 then some (rn (bu [0,1,2,3,4,5,6,7] 10) qD) else none)=some (rn (bu [0,1,2,3,4,5,6,7] 10) qD):=by rcases kF with k | k <;> (rw [k]; rfl)
  simp only [hm]
  simp only [qD,go_sem]
  refine an rfl ?_
  simp only [go_sem]
  refine av [0,1,2,3,4,5,6,7,10,11] (hc) rfl ?_ (by decide) ?_ ?_ (by simp) ?_ <;> simp only [ag,ah,go_sem,bL,cu,aZ,bF]
 have hA:je o x.sh=x.sh:=by unfold je; rw [if_neg RY,if_neg kE]
 have hL:mN now o x.lines=x.lines:=by unfold mN; rw [if_neg kF]
 simp only [hA,hL]
 rw [not_or] at kE kF
 simp only [RY,kE.1,kE.2,kF.1,kF.2,go_sem]
 refine an rfl ?_
 simp only [go_sem]
end Dv
namespace Dv
open Go Go.Proofs
def aaJ:=qx Tryz.f99
theorem YM:aj Tryz.prog Tryz.f99=some aaJ:=by kernel_rfl
def aa3:=qx Tryz.f37
theorem Y8:aj Tryz.prog Tryz.f37=some aa3:=by kernel_rfl
theorem IP (o:bT) (l:List pE):(je o l).length=l.length:=by
 unfold je
 split
 ·rw [List.length_set]
 split
 ·rw [List.length_set]
 ·rfl
theorem MK (now:Int) (o:bT) (l:List nQ):(mN now o l).length=l.length:=by
 unfold mN
 split
 ·rw [List.length_set]
 ·rfl
theorem Gm.note {x:aO} (h:Gm x) (o:bT) (now:Int):Gm (x.dD o now):=by
 unfold aO.dD
 split
 ·rename_i he
  obtain ⟨h1,h2,h3⟩:=Ab he
  have hr:=xq h.right o
  have h4:=h.right.nodes
  have h5:=hr.nodes
  refine ⟨hr,(h.Jz o).add (ED o) h2,by show (je o x.sh).length=25; rw [IP,h.sh],?_⟩
  show (mN now o x.lines).length=(bx x.c x.s o).1.nodes.length
  rw [MK,h.lines]
  omega
 ·exact ⟨h.right,h.Jz o,h.sh,h.lines⟩
def aO.doE (x:aO) (o:bT):Int:=if 1≤o.kind∧o.kind≤6 then x.fQ o else 1
def aO.doX (x:aO) (o:bT) (now:Int):aO:=if 1≤o.kind∧o.kind≤6 then x.dD o now else x
theorem G8 (x:aO) (o:bT) (now:Int):(x.dD o now).down=x.down:=by unfold aO.dD; split <;> rfl
theorem Jo (x:aO) (o:bT) (now:Int):(x.dD o now).c=x.c:=by unfold aO.dD; split <;> rfl
theorem Jn (x:aO) (o:bT) (now:Int):(x.dD o now).j.n=x.j.n:=by
 have h:(x.eG o).n=x.j.n:=by
  unfold aO.eG aO.Jz
  split
  ·rfl
  split
  ·rfl
  ·exact jy.CX _ _
 unfold aO.dD
 split
 ·exact h
 ·exact h
theorem U4 (x:aO) (h:Gm x) (hd:x.down=false) (o:bT) (now:Int):bh Tryz.prog cR 43 [.ptr 0 0,tA o,.int now] (bZ x) (.int (x.doE o)) (bZ (x.doX o now)):=by
 have ha:=tf (G:=cR) x
 have hop:=AY (G:=cR) o
 have hn:=zm x h o now
 have hn2:=Jn x o now
 rw [hd] at ha
 unfold aO.doE aO.doX
 generalize x.dD o now=y at *
 generalize x.fQ o=e at *
 simp only [bZ,eU,bC,List.cons_append,List.nil_append] at ha hn
 by_cases hk:1≤o.kind∧o.kind≤6
 ·simp only [hk,and_self,if_true]
  simp only [hk,and_self,decide_true] at hop
  refine aQ Tryz.func43 (by decide) OQ rfl rfl (cZ _ (Nat.le_refl 8) _) rfl ?_
  simp only [bZ,eU,bC,Zj,go_sem]
  refine gL [0,1,2,3,4,5,6,7] (ha) rfl ?_ (by decide) ?_ ?_ ?_ <;> simp only [ag,ah,go_sem,bL,cu,aZ,bF]
  refine ax (hop) rfl rfl rfl rfl ?_; simp only [go_sem]
  refine av [0,1,2,3,4,5,6,7] (hn) rfl ?_ (by decide) ?_ ?_ (by simp) ?_ <;> simp only [ag,ah,go_sem,bL,cu,aZ,bF]
 ·simp only [hk,if_false]
  simp only [hk,decide_false] at hop
  refine aQ Tryz.func43 (by decide) OQ rfl rfl (cZ _ (Nat.le_refl 8) _) rfl ?_
  simp only [bZ,eU,bC,Zj,go_sem]
  refine gL [0,1,2,3,4,5,6,7] (ha) rfl ?_ (by decide) ?_ ?_ ?_ <;> simp only [ag,ah,go_sem,bL,cu,aZ,bF]
  refine ax (hop) rfl rfl rfl rfl ?_; simp only [go_sem]
theorem K7 (c:aB):bh Tryz.prog cR 99 [fN c,ak [],.d (.dK 1 [])] [] (.dH [aY (dz c),.bool true]) []:=by
 have hn:=Ju (G:=cR) c
 refine bn Tryz.func99 (by decide) YM rfl rfl ?_
 simp only [ak,az,aaJ,go_sem]
 refine ax (hn) rfl rfl rfl rfl ?_; simp only [go_sem]
 refine aR [3,6,7,8,29,30,31] [] (fun k:Nat=>k=0) (fun k=>1-k) (fun _=>⟨[(3,.ptr 0 0),(6,.ptr 1 0),(7,.bool false),(8,.ptr 2 0),(29,.d (.dK 1 [])),(30,.int 0),(31,.int 0)],[some (.box 23 [.int c.nodes,.int c.bI,.int c.cH,.int c.iN,.int c.cr,.int c.eZ,.int c.deadline,.int c.room,.int c.gX]),some (.box 30 [.d (.val (.slice none 0 0)),.d (.val (.slice none 0 0)),.int 0,.int 0,.int 0,.int 0]),some (.box 30 [bS (dz c).nodes,de (dz c).jobs,.int (dz c).goal,.int (dz c).prior,.int (dz c).mode,.int (dz c).term])]⟩) 0 ?_ rfl (fun k hk=>?_)
 ·simp only [go_sem]
 simp only [go_sem]
end Dv
namespace Dv
open Go Go.Proofs
def fT:bT:=⟨21,0,0,0,0,0,0⟩
def Vw (now:Int):nQ:=⟨0,false,ot,0,now,ot⟩
def mj (c:aB) (n:Nat) (s room term:Int) (sh:List pE) (wr now:Int):aO:=⟨c,dz c,⟨n,List.replicate n 0,IntKind.i64.wrap (s+1),0,-1,0⟩,room,term,sh,wr,List.replicate (dz c).nodes.length (Vw now),false,0⟩
def aO.PX (x:aO):aO:={ x with term:=if x.s.term>x.term then x.s.term else x.term }
def FQ (c:aB) (n:Nat) (s room term:Int) (sh:List pE) (wr now:Int):aO:=((mj c n s room term sh wr now).dD fT now).PX
def J_ (x:aO):aC:=.box 195 [.int x.c.nodes,.int x.c.bI,.int x.c.cH,.int x.c.iN,.int x.c.cr,.int x.c.eZ,.int x.c.deadline,.int x.c.room,.int x.c.gX,.ptr 0 0,.ptr 5 0,.ptr 2 0,bS x.s.nodes,de x.s.jobs,.int x.s.goal,.int x.s.prior,.int x.s.mode,.int x.s.term,.sl 4 x.lines.length 26 0 x.lines.length,.bool x.down,.int x.dA]
def F1 (x:aO):List aC:=[.box 150 [.sl 1 x.j.n 1 0 x.j.n,.d (.val (.slice none 0 0)),.int x.j.s],.dat 5 1 (az x.j.l),.box 190 ([.int x.room,.int x.term]++(x.sh.flatMap sD++[.int x.wr])),J_ x,bC x.lines,.box 160 [.ptr 0 0,.ptr 6 0,.ptr 7 0,.int x.j.cnt,.int x.j.bz],.box 243 [.ptr 0 0,.int 0,.int ((x.j.n / 4:Nat):Int)],.box 245 [.ptr 0 0,.int ((2*(x.j.n / 4):Nat):Int),.int ((x.j.n-2*(x.j.n / 4):Nat):Int),.int x.j.us]]
theorem MA (k:Nat) (hk:8≤k) (x:aO):(F1 x).all (dV k)=true:=by
 have h:∀ i,i<8→i<k:=fun i hi=>by omega
 simp [F1,J_,bC,List.all_cons,List.all_nil,dV,Bool.and_true,aZ,bF,eu,eB,LV.int,LV.bool,bS,de,h]
theorem yA {c:aB} (h:iq c=true):bx c (dz c) fT=({ dz c with term:=1 },0):=by
 have hr:=(fq c (dz c)).2 (oq h)
 rw [F7 hr (by decide) (by decide) (by decide)]
 have h0:(dz c).term=0:=by unfold dz; rw [if_pos h]
 show ij (dz c)=_
 unfold ij
 rw [h0]
 rfl
theorem acu:gw fT=[1,21]:=by decide +kernel
theorem H6 {c:aB} (h:iq c=true) {n:Nat} (hn:64≤n∧n≤65536) (s room term:Int) (sh:List pE) (wr now:Int):(mj c n s room term sh wr now).fQ fT=0:=by
 have hrm:(mj c n s room term sh wr now).j.room (gw fT).length=true:=by
  rw [acu]
  show (decide (1≤2∧2≤3900)&&rR (n-2*(n / 4)) 0 (2+(br 0).length))=true
  rw [show (br 0).length=1 by decide +kernel]
  unfold rR
  rw [show (br (2+1:Nat)).length=1 by decide +kernel]
  simp
  omega
 unfold aO.fQ aO.Jz
 show (if (bx c (dz c) fT).2≠0 then (bx c (dz c) fT).2 else if (if (mj c n s room term sh wr now).j.room (gw fT).length=true then (mj c n s room term sh wr now).j else (mj c n s room term sh wr now).j.pack (jD (dz c))).room (gw fT).length=true then 0 else 3)=0
 rw [yA h,if_neg (fun h=>h rfl),if_pos hrm,if_pos hrm]
theorem DF {c:aB} (h:iq c=true) {n:Nat} (hn:64≤n∧n≤65536) (s room term:Int) (sh:List pE) (hs:sh.length=25) (wr now:Int):Gm (mj c n s room term sh wr now):=
 ⟨oq h,⟨List.length_replicate,hn,m_ _,Nat.zero_le _⟩,hs,List.length_replicate⟩
theorem Mp {c:aB} (h:iq c=true) {n:Nat} (hn:64≤n∧n≤65536) (s room term:Int) (sh:List pE) (wr now:Int):((mj c n s room term sh wr now).dD fT now).s = { dz c with term:=1 }:=by
 unfold aO.dD
 rw [if_pos (H6 h hn s room term sh wr now)]
 show (bx c (dz c) fT).1=_
 rw [yA h]
def Ke (c:aB) (n:Nat) (s room term:Int) (sh:List pE) (wr now:Int) (k:Nat):St:=⟨[(1,.ptr 0 0),(2,.ptr 2 0),(3,.int now),(4,.ptr 3 0),(8,.d (.val (.pointer none))),(9,.int 0),(16,.ptr 8 0),(62,.int (dz c).nodes.length),(63,.int k)],
 [some (.box 150 [.sl 1 n 1 0 n,.d (.val (.slice none 0 0)),.int (IntKind.i64.wrap (s+1))]),some (.dat 5 1 (az (List.replicate n 0))),some (.box 190 (.int room::.int term::(sh.flatMap sD++[.int wr]))),
  some (.box 23 [.int c.nodes,.int c.bI,.int c.cH,.int c.iN,.int c.cr,.int c.eZ,.int c.deadline,.int c.room,.int c.gX]),
  some (.box 160 [.ptr 0 0,.ptr 5 0,.ptr 6 0,.int 0,.int (-1)]),some (.box 243 [.ptr 0 0,.int 0,.int ((n / 4:Nat):Int)]),some (.box 245 [.ptr 0 0,.int ((2*(n / 4):Nat):Int),.int ((n-2*(n / 4):Nat):Int),.int 0]),
  some (.box 30 [bS (dz c).nodes,de (dz c).jobs,.int (dz c).goal,.int (dz c).prior,.int (dz c).mode,.int (dz c).term]),
  some (.box 195 [.int c.nodes,.int c.bI,.int c.cH,.int c.iN,.int c.cr,.int c.eZ,.int c.deadline,.int c.room,.int c.gX,.ptr 0 0,.ptr 4 0,.ptr 2 0,bS (dz c).nodes,de (dz c).jobs,.int (dz c).goal,.int (dz c).prior,.int (dz c).mode,.int (dz c).term,.sl 9 k 26 0 k,.bool false,.int 0]),
  some (bC (List.replicate k (Vw now)))]⟩
def Qm (c:aB) (n:Nat) (y:aO):List (Option aC):=
 [some (.box 150 [.sl 1 n 1 0 n,.d (.val (.slice none 0 0)),.int y.j.s]),some (.dat 5 1 (az y.j.l)),some (.box 190 (.int y.room::.int (if y.s.term>y.term then y.s.term else y.term)::(y.sh.flatMap sD++[.int y.wr]))),
  some (.box 23 [.int c.nodes,.int c.bI,.int c.cH,.int c.iN,.int c.cr,.int c.eZ,.int c.deadline,.int c.room,.int c.gX]),
  some (.box 160 [.ptr 0 0,.ptr 5 0,.ptr 6 0,.int y.j.cnt,.int y.j.bz]),some (.box 243 [.ptr 0 0,.int 0,.int ((n / 4:Nat):Int)]),some (.box 245 [.ptr 0 0,.int ((2*(n / 4):Nat):Int),.int ((n-2*(n / 4):Nat):Int),.int y.j.us]),
  some (.box 30 [bS (dz c).nodes,de (dz c).jobs,.int (dz c).goal,.int (dz c).prior,.int (dz c).mode,.int (dz c).term]),
  some (.box 195 [.int y.c.nodes,.int y.c.bI,.int y.c.cH,.int y.c.iN,.int y.c.cr,.int y.c.eZ,.int y.c.deadline,.int y.c.room,.int y.c.gX,.ptr 0 0,.ptr 4 0,.ptr 2 0,bS y.s.nodes,.d (.dK 12 []),.int y.s.goal,.int y.s.prior,.int y.s.mode,.int y.s.term,.sl 9 y.lines.length 26 0 y.lines.length,.bool y.down,.int y.dA]),
  some (bC y.lines)]
theorem MB (c:aB) (hm:iq c=true) (n:Nat) (hn:64≤n∧n≤65536) (s room term:Int) (sh:List pE) (hs:sh.length=25) (wr now:Int) (Ph:0≤now∧now≤1000000):bh Tryz.prog cR 37 [fN c,.ptr 0 0,.ptr 2 0,.int now] (eN (List.replicate n 0) s++kP room term sh wr) (.dH [.ptr 3 0,.int 0]) (F1 (FQ c n s room term sh wr now)):=by
 have hlen:(List.replicate n (0:Int)).length=n:=List.length_replicate
 have hmay:=x_ (G:=cR) c
 rw [hm] at hmay
 have hsz:=iZ (G:=cR) (List.replicate n 0) s
 have X0:=Ea (G:=cR) now
 rw [decide_eq_true Ph] at X0
 have hop:=Ht (G:=cR) n s hn
 have hrd:=K7 c
 have JU:=zm (mj c n s room term sh wr now) (DF hm hn s room term sh hs wr now) fT now
 have hjn:=Jn (mj c n s room term sh wr now) fT now
 have hst:=Mp hm hn s room term sh wr now
 rw [H6 hm hn] at JU
 unfold FQ
 have DR:(dz c).nodes.length≤6:=(oq hm).len.2
 have hj0:(dz c).jobs=[]:=by unfold dz; rw [if_pos hm]
 generalize hy:(mj c n s room term sh wr now).dD fT now=y at *
 have hfe:=yE (G:=cR) y.room y.term y.sh y.wr y.s.term
 simp only [eN,hlen] at hsz hop
 simp only [jnP,ak] at hop
 simp only [ak] at hrd
 simp only [bZ,eU,bC,mj,hjn,List.cons_append,List.nil_append] at JU
 simp only [kP,List.cons_append,List.nil_append] at hfe
 refine cA Tryz.func37 (by decide) Y8 rfl ?_
 simp only [eN,kP,hlen,aa3,go_sem]
 refine ax (hmay) rfl rfl rfl rfl ?_; simp only [go_sem]
 refine av [0,1] (hsz) rfl ?_ (by decide) ?_ ?_ (by simp) ?_ <;> simp only [ag,ah,go_sem]
 simp only [decide_eq_false (show ¬ ((n:Nat):Int)<64 by omega),go_sem]
 refine ax (X0) rfl rfl rfl rfl ?_; simp only [go_sem]
 refine av [0,1] (hop) rfl ?_ (by decide) ?_ ?_ (by simp) ?_ <;> simp only [ag,ah,go_sem]
 refine ax (hrd) rfl rfl rfl rfl ?_; simp only [go_sem]
 refine aR [1,2,3,4,8,9,16,62,63] [.b 8 18 197 26] (fun k:Nat=>k≤(dz c).nodes.length) (fun k=>(dz c).nodes.length-k) (Ke c n s room term sh wr now) 0 ?_ (Nat.zero_le _) (fun k hk=>?_)
 ·simp only [Ke,bC,List.replicate_zero,Int.natCast_zero,go_sem]
 simp only [Ke,bC,go_sem]
 by_cases hlt:k<(dz c).nodes.length
 ·have dN:(List.replicate (k+1) (Vw now)).map vO=(List.replicate k (Vw now)).map vO++[vO (Vw now)]:=by rw [List.replicate_succ',List.map_append]; rfl
  simp only [decide_eq_true (show ((k:Nat):Int)<(((dz c).nodes.length:Nat):Int) by omega),go_sem]
  have vm:vO (Vw now)=[i64 0,bl false,i64 0,i64 0,i64 0,i64 0,i64 0,i64 0,i64 0,i64 0,i64 0,i64 0,i64 0,i64 0,i64 now,i64 0,i64 0,i64 0,i64 0,i64 0,i64 0,i64 0,i64 0,i64 0,i64 0,i64 0]:=rfl
  have c1:(k+1)*208≤70368744177664:=by omega
  simp only [List.length_append,List.length_replicate,c1,go_sem]
  refine bg (k+1) ?_ ?_ (show k+1≤(dz c).nodes.length by omega) (show (dz c).nodes.length-(k+1)<(dz c).nodes.length-k by omega)
  ·simp only [aZ,bF,go_sem]
  ·simp only [aG (show k<9223372036854775807 by omega),dN,vm,List.length_replicate,List.length_append,Ke,bC,go_sem]
 obtain rfl:k=(dz c).nodes.length:=by omega
 simp only [decide_eq_false (show ¬ (((dz c).nodes.length:Nat):Int)<(((dz c).nodes.length:Nat):Int) by omega),go_sem]
 simp only [fT,List.length_replicate] at JU
 refine av [8,4,0,5,6,1,2,9] (JU) rfl ?_ (by decide) ?_ ?_ (by simp) ?_ <;> simp only [ag,ah,go_sem,bL,cu,aZ,bF,List.length_replicate]
 have hyj:y.s.jobs=[]:=by rw [hst]; exact hj0
 refine av [2] (hfe) rfl ?_ (by decide) ?_ ?_ (by simp) ?_ <;> simp only [ag,ah,go_sem,bL,cu,aZ,bF]
 simp only [hyj,Int.natCast_zero,go_sem]
 refine aR [8,9,16,95,96,97] [] (fun k:Nat=>k=0) (fun k=>1-k) (fun _=>⟨[(8,.d (.val (.pointer none))),(9,.int 0),(16,.ptr 8 0),(95,.d (.dK 12 [])),(96,.int 0),(97,.int 0)],Qm c n y⟩) 0 ?_ rfl (fun k hk=>?_)
 ·simp only [Qm,bC,hyj,go_sem]
 subst hk
 simp only [Qm,bC,hyj,go_sem]
 have hid:=MA 8 (Nat.le_refl 8) y.PX
 simp only [aO.PX,F1,J_,bC,hjn,hyj,List.map_nil,bS,de,LV.int,LV.bool] at hid ⊢
 refine dm [] [0,1,2,8,9,4,5,6] [] (vs:=[.ptr 8 0,.int 0]) rfl rfl (by decide) (by simp) (by simp) ?_ hid ?_
 ·simp only [List.map_cons,List.map_nil,ff,mw,bL,cu]
  rfl
 simp [aP,ah,ag,LV.int,LV.bool]
end Dv
