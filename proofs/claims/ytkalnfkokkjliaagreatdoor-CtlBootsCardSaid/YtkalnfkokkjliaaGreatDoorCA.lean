/- The logical machine and its plain laws: parts C1, C2, C3, C4, C5, C6, C7, proved sound. -/
import Derived.Test.YtkalnfkokkjliaaGreatDoorNA
import Derived.Test.YtkalnfkokkjliaaGreatDoorPB
import Derived.Test.YtkalnfkokkjliaaGreatDoorOA
import Derived.Test.YtkalnfkokkjliaaGreatDoorD7
import Derived.Test.YtkalnfkokkjliaaGreatDoorDD
import Derived.Test.YtkalnfkokkjliaaGreatDoorQ9
import Derived.Test.YtkalnfkokkjliaaGreatDoorDA
import Derived.Test.YtkalnfkokkjliaaGreatDoorI9
set_option linter.unusedVariables false
set_option linter.unusedSimpArgs false
namespace Dv
open Go Go.Proofs
variable {G:Nat→Option (List DV)}
def bP (l:List Int):Prop:=∀ c∈l,0≤c∧c≤255
theorem bP.cat {a b:List Int} (ha:bP a) (hb:bP b):bP (a++b):=fun c hc=>(List.mem_append.1 hc).elim (ha c) (hb c)
theorem EU:∀ (f:Nat) (m:Int),0≤m→m<256*128 ^ f→bP (fT f m)
 | 0,m,h,h2=>by
   intro c hc
   unfold fT at hc
   simp only [List.mem_singleton] at hc
   subst hc
   omega
 | f+1,m,h,h2=>by
   intro c hc
   unfold fT at hc
   split at hc
   ·rcases List.mem_cons.1 hc with rfl | hc
    ·omega
    ·refine EU f _ (by omega) ?_ c hc
     rw [Int.pow_succ] at h2
     omega
   ·simp only [List.mem_singleton] at hc; subst hc; omega
theorem iF (n:Int):bP (aQ n):=by
 unfold aQ
 split
 ·rename_i h
  unfold isNum dK at h
  rw [decide_eq_true_eq] at h
  exact EU 8 n h.1 (by omega)
 ·intro c hc; cases hc
theorem A1 (l:List Int):bP (fG l):=by
 unfold fG
 split
 ·refine bP.cat (iF _) (fun c hc=>?_)
  obtain ⟨x,_,hx⟩:=List.mem_flatMap.1 hc
  exact iF x c hx
 ·intro c hc; cases hc
theorem Wq (n:Int):0≤IntKind.u8.wrap n∧IntKind.u8.wrap n≤255:=by
 show 0≤n % 256∧n % 256≤255
 omega
theorem LX (n:Int):bP (lE n):=by
 intro c hc
 simp only [lE,List.mem_cons,List.not_mem_nil,or_false] at hc
 rcases hc with rfl | rfl | rfl | rfl <;> exact Wq _
theorem DN {p:List Int} (h:bP p):bP (cZ p):=by
 unfold cZ
 split
 ·intro c hc; cases hc
 ·exact (((iF _).cat h).cat (LX _)).cat (fun c hc=>by simp only [List.mem_singleton] at hc; subst hc; omega)
theorem jJ {l:List Int} {a:Nat} {b:List Int} (hl:bP l) (hb:bP b):bP (bN l a b):=
 bP.cat (bP.cat (fun c hc=>hl c (List.mem_of_mem_take hc)) hb) (fun c hc=>hl c (List.mem_of_mem_drop hc))
theorem gN (n:Nat):bP (List.replicate n 0):=fun c hc=>by rw [List.eq_of_mem_replicate hc]; omega
theorem DM (o:dH):bP (dm o):=by
 unfold dm
 split
 ·exact A1 _
 ·intro c hc; cases hc
theorem nh (s:ai):bP (e7 s):=by
 unfold e7
 split
 ·exact A1 _
 ·intro c hc; cases hc
theorem Ei (l:List Int):(fG l).length≤9*l.length+9:=by
 unfold fG
 split
 ·have h1:=uj l
  have h2:=dL (l.length:Int)
  rw [List.length_append]; omega
 ·simp
theorem HK (o:dH):(dm o).length≤90:=by
 unfold dm
 split
 ·have h1:=Ei (o.kind::(bL o).take (cq o.kind))
  have h3:(o.kind::(bL o).take (cq o.kind)).length≤7:=by rw [List.length_cons,List.length_take]; simp [bL]; omega
  omega
 ·simp
theorem B7 (s:ai):(e7 s).length≤3000:=by
 unfold e7
 split
 ·rename_i h
  have h1:=Ei (c_ s)
  have h2:(c_ s).length≤320:=by
   unfold c_
   rw [List.length_append,lq s (Nat.le_refl _)]
   simp only [List.length_cons,List.length_nil]
   omega
  omega
 ·simp
theorem Js {l:List Int} {fr sz:Nat} {b:List Int} {aX:Int} (hl:bP l) (hb:bP b):bP (oG l fr sz b aX):=
 jJ (jJ hl (gN _)) (DN ((iF _).cat hb))
theorem KZ {n:Nat} {l eR:List Int} {cnt:Int} (hl:bP l) (hb:bP eR):bP (qw n l eR cnt):=jJ (Js hl hb) (gN _)
structure iB where
 n:Nat
 l:List Int
 s:Int
 cnt:Int
 aX:Int
 us:Nat
def jO (j:iB):List aG:=o6 j.n j.l j.s j.cnt j.aX j.us
structure qC (j:iB):Prop where
 len:j.l.length=j.n
 size:64≤j.n∧j.n≤65536
 OA:bP j.l
 used:j.us≤j.n-2*(j.n / 4)
def iB.room (j:iB) (k:Nat):Bool:=fU j.n j.us j.cnt k
def iB.add (j:iB) (p:List Int):iB:={ j with l:=bN j.l (2*(j.n / 4)+j.us) (mN j.cnt p),s:=IntKind.i64.wrap (j.s+1),cnt:=IntKind.i64.wrap (j.cnt+1),us:=j.us+(mN j.cnt p).length }
def iB.Mn (j:iB) (eR:List Int):Int:=if j.aX=j.cnt∨dB j.l 0 (j.n / 4) eR j.cnt≠0 then 3 else 0
def iB.pack (j:iB) (eR:List Int):iB:=if j.aX=j.cnt∨dB j.l 0 (j.n / 4) eR j.cnt≠0 then j else { j with l:=qw j.n j.l eR j.cnt,s:=IntKind.i64.wrap (IntKind.i64.wrap (IntKind.i64.wrap (j.s+1)+1)+1),aX:=j.cnt,us:=0 }
theorem Ba (j:iB) (h:qC j) (k:Nat) (hk:k≤900000):br Tryz.prog G 183 [.ptr 0 0,.int k] (jO j) (.bool (j.room k)) (jO j):=uY j.n j.l j.s j.cnt j.aX j.us k h.len h.size.2 h.used hk
theorem En (j:iB) (h:qC j) (p:List Int) (hr:j.room p.length=true):br Tryz.prog G 33 [.ptr 0 0,af p] (jO j) (.int 0) (jO (j.add p)):=Em j.n j.l j.s j.cnt j.aX j.us p h.len (by have:=h.size; omega) h.used hr
theorem Bb (j:iB) (h:qC j) (eR:List Int) (hp:eR.length≤90000):br Tryz.prog G 31 [.ptr 0 0,af eR] (jO j) (.int (j.Mn eR)) (jO (j.pack eR)):=by
 obtain ⟨n,l,s,cnt,aX,us⟩:=j
 unfold iB.Mn iB.pack
 dsimp only
 by_cases h1:aX=cnt
 ·rw [if_pos (.inl h1),if_pos (.inl h1)]
  subst h1
  exact wJ n l s aX us eR
 by_cases h2:dB l 0 (n / 4) eR cnt=0
 ·rw [if_neg (by simp [h1,h2]),if_neg (by simp [h1,h2])]
  exact EX n l s cnt aX us eR h.len h.size h.OA hp h1 h2
 ·rw [if_pos (.inr h2),if_pos (.inr h2)]
  exact zA n l s cnt aX us eR h.len h.size h.OA hp h1 h2
theorem iB.DH {j:iB} {p:List Int} (hr:j.room p.length=true):j.us+(mN j.cnt p).length≤j.n-2*(j.n / 4):=by
 unfold iB.room fU pL at hr
 rw [Bool.and_eq_true,decide_eq_true_eq,decide_eq_true_eq] at hr
 have hrl:(aQ j.cnt++p).length=p.length+(aQ j.cnt).length:=by rw [List.length_append,Nat.add_comm]
 unfold mN
 rw [jh (by omega),hrl]
 omega
theorem qC.add {j:iB} (h:qC j) {p:List Int} (hp:bP p) (hr:j.room p.length=true):qC (j.add p):=by
 have hf:=iB.DH hr
 have hs:=h.size
 have hlen:=h.len
 refine ⟨?_,h.size,jJ h.OA (DN ((iF _).cat hp)),hf⟩
 show (bN j.l (2*(j.n / 4)+j.us) (mN j.cnt p)).length=j.n
 rw [cw (by omega),h.len]
theorem qC.pack {j:iB} (h:qC j) {eR:List Int} (hp:bP eR):qC (j.pack eR):=by
 have hs:=h.size
 have hlen:=h.len
 unfold iB.pack
 split
 ·exact h
 ·rename_i hc
  refine ⟨?_,h.size,KZ h.OA hp,by show 0≤_; omega⟩
  show (bN (oG j.l 0 (j.n / 4) eR j.cnt) (2*(j.n / 4)) (List.replicate (j.n-2*(j.n / 4)) 0)).length=j.n
  have uM:=uW (l:=j.l) (sz:=j.n / 4) (b:=eR) (aX:=j.cnt) (by omega) (by simp at hc; exact hc.2)
  rw [cw (by rw [List.length_replicate]; omega),uM,hlen]
theorem iB.aaT (j:iB) (p:List Int):(j.add p).n=j.n:=rfl
theorem iB.B9 (j:iB) (p:List Int):(j.pack p).n=j.n:=by unfold iB.pack; split <;> rfl
end Dv
set_option maxRecDepth 100000
namespace Dv
open Go Go.Proofs
variable {G:Nat→Option (List DV)}
structure qA where
 gen:Int
 has:Bool
 order:Fp
 sent:Int
 heard:Int
 report:Fp
def OR (l:qA):List DV:=[i64 l.gen,bl l.has]++(Ge l.order++([i64 l.sent,i64 l.heard]++Ge l.report))
structure bR where
 c:aI
 s:ai
 j:iB
 room:Int
 term:Int
 sh:List oQ
 wr:Int
 lines:List qA
 down:Bool
 gx:Int
def kC (x:bR):aG:=.box 195 [.int x.c.nodes,.int x.c.bn,.int x.c.cv,.int x.c.gJ,.int x.c.eF,.int x.c.eE,.int x.c.deadline,.int x.c.room,.int x.c.gq,.ptr 2 0,.ptr 1 0,.ptr 6 0,bK x.s.nodes,cA x.s.jobs,.int x.s.goal,.int x.s.bH,.int x.s.mode,.int x.s.term,.sl 7 x.lines.length 26 0 x.lines.length,.bool x.down,.int x.gx]
def dg (l:List qA):aG:=.dat 197 26 (l.map OR)
def eM (x:bR):List aG:=[kC x,.box 160 [.ptr 2 0,.ptr 3 0,.ptr 4 0,.int x.j.cnt,.int x.j.aX],.box 150 [.sl 5 x.j.n 1 0 x.j.n,.d (.val (.slice none 0 0)),.int x.j.s],.box 243 [.ptr 2 0,.int 0,.int ((x.j.n / 4:Nat):Int)],.box 245 [.ptr 2 0,.int ((2*(x.j.n / 4):Nat):Int),.int ((x.j.n-2*(x.j.n / 4):Nat):Int),.int x.j.us],.dat 5 1 (ak x.j.l),.box 190 ([.int x.room,.int x.term]++(x.sh.flatMap tu++[.int x.wr])),dg x.lines]
theorem fM (k:Nat) (hk:8≤k) (x:bR):(eM x).all (dQ k)=true:=by
 have h:∀ i,i<8→i<k:=fun i hi=>by omega
 simp [eM,kC,dg,List.all_cons,List.all_nil,dQ,Bool.and_true,bU,cH,eX,eU,LV.int,LV.bool,bK,cA,h]
theorem KW (s:ai) (hn:s.nodes.length≤1000) (hj:s.jobs.length≤1000):br Tryz.prog G 73 [bz s] [] (bz s) []:=by
 refine bD Tryz.func73 (by decide) MV rfl ?_
 simp only [Xz,go_sem,simprocAttr]
 refine gz (zB s.nodes hn) rfl rfl rfl ?_
 simp only [go_sem,simprocAttr]
 refine gz (zC s.jobs hj) rfl rfl rfl ?_
 simp only [go_sem,simprocAttr]
 refine az rfl ?_
 simp only [go_sem,simprocAttr]
 exact bw [2,3] rfl (by simp [St.obj,ay]) (by simp [St.obj,ay,aF,St.get,aO,ah,aa,aM,LV.int,List.take_of_length_le])
def Zj:=qx Tryz.f98
theorem WN:aq Tryz.prog Tryz.f98=some Zj:=by kernel_rfl
def Ih:=qx Tryz.f119
theorem Ct:aq Tryz.prog Tryz.f119=some Ih:=by kernel_rfl
def Vw:=qx Tryz.f109
theorem R8:aq Tryz.prog Tryz.f109=some Vw:=by kernel_rfl
def ZL:=qx Tryz.f39
theorem Xi:aq Tryz.prog Tryz.f39=some ZL:=by kernel_rfl
def ZK:=qx Tryz.f40
theorem Xh:aq Tryz.prog Tryz.f40=some ZK:=by kernel_rfl
theorem Dm (n:Int):br Tryz.prog G 98 [.int n] [] (.bool (decide (0≤n∧n≤1000000))) []:=by
 refine b_ Tryz.func98 (by decide) WN rfl rfl ?_
 simp only [Zj,go_sem,simprocAttr]
 by_cases h1:0≤n
 ·simp only [decide_eq_true (show n≥0 from h1),h1,go_sem,simprocAttr]
 ·simp only [decide_eq_false (show ¬ n≥0 from h1),h1,false_and,go_sem,simprocAttr]
theorem G_ (x:bR):br Tryz.prog G 109 [.ptr 0 0] (eM x) (.bool (!x.down)) (eM x):=by
 refine aY Tryz.func109 (by decide) R8 rfl rfl (fM _ (Nat.le_refl 8) _) rfl ?_
 simp only [eM,kC,Vw,go_sem,simprocAttr]
def Vv:Nat×C×List RV:=(7,
(.seq (.kH [qo 2 (.mv (qk 0))])
 (.seq (.kH [qm 3 0,
 qo 4 (.yJ (.t 3)),
 qo 5 (.nI 0 (.t 4)),
 qo 6 ((.more (.YP (.t 5)))),
 qm 2 6])
 .ret)),
[(.t 2)])
theorem R7:aq Tryz.prog Tryz.f110=some Vv:=by kernel_rfl
theorem E7 (x:bR):br Tryz.prog G 110 [.ptr 0 20] (eM x) (.int x.gx) (eM x):=by
 refine aY Tryz.func110 (by decide) R7 rfl rfl (fM _ (Nat.le_refl 8) _) rfl ?_
 simp only [eM,kC,Vv,go_sem,simprocAttr]
theorem G7 (x:bR):br Tryz.prog G 127 [.ptr 0 20,.int 1] (eM x) (.int (IntKind.i64.wrap (x.gx+1))) (eM { x with gx:=IntKind.i64.wrap (x.gx+1) }):=by
 refine aY Tryz.func127 (by decide) Ic rfl rfl (fM _ (Nat.le_refl 8) _) rfl ?_
 simp only [eM,kC,M_,go_sem,simprocAttr]
theorem G1 (x:bR):br Tryz.prog G 40 [.ptr 0 0] (eM x) (.int x.gx) (eM x):=by
 have hl:=E7 (G:=G) x
 simp only [eM,kC,dg,List.cons_append,List.nil_append] at hl
 refine aY Tryz.func40 (by decide) Xh rfl rfl (fM _ (Nat.le_refl 8) _) rfl ?_
 simp only [eM,kC,dg,ZK,go_sem,simprocAttr]
 refine dI [0,1,2,3,4,5,6,7] (hl) rfl ?_ (by decide) ?_ ?_ ?_ <;> simp only [aa,ah,go_sem,simprocAttr,cO,dV,bU,cH]
def bR.state (x:bR):ai:=if x.down=true then ⟨[],[],0,0,0,0⟩ else x.s
theorem GX (x:bR) (hd:x.down=false) (hn:x.s.nodes.length≤1000) (hj:x.s.jobs.length≤1000):br Tryz.prog G 39 [.ptr 0 0] (eM x) (bz x.s) (eM x):=by
 have ha:=G_ (G:=G) x
 have hc:=KW (G:=G) x.s hn hj
 simp only [eM,kC,dg,hd,List.cons_append,List.nil_append] at ha
 refine aY Tryz.func39 (by decide) Xi rfl rfl (fM _ (Nat.le_refl 8) _) rfl ?_
 simp only [eM,kC,dg,hd,ZL,go_sem,simprocAttr]
 refine dI [0,1,2,3,4,5,6,7] (ha) rfl ?_ (by decide) ?_ ?_ ?_ <;> simp only [aa,ah,go_sem,simprocAttr,cO,dV,bU,cH]
 refine av (hc) rfl rfl rfl rfl ?_; simp only [go_sem,simprocAttr]
structure Tk (x:bR):Prop where
 right:cm x.c x.s
 jn:qC x.j
 sh:x.sh.length=25
 lines:x.lines.length=x.s.nodes.length
def bR.Fw (x:bR) (o:dH):iB:=if x.j.room (dm o).length=true then x.j else x.j.pack (e7 x.s)
def bR.ew (x:bR) (o:dH):Int:=if (bC x.c x.s o).2≠0 then (bC x.c x.s o).2 else if (x.Fw o).room (dm o).length=true then 0 else 3
def bR.ec (x:bR) (o:dH):iB:=if (bC x.c x.s o).2≠0 then x.j else x.Fw o
def bR.zh (x:bR) (o:dH):LV:=if x.ew o≠0 then .d (.val (.slice none 0 0)) else af (dm o)
set_option maxHeartbeats 1000000 in
theorem KD (x:bR) (h:Tk x) (o:dH):br Tryz.prog eD 119 [.ptr 0 0,rS o] (eM x) (.dM [bz (bC x.c x.s o).1,x.zh o,.int (x.ew o)]) (eM { x with j:=x.ec o }):=by
 have hap:=BE x.c x.s o
 have Io:=Mp o
 have iZ:(dm o).length≤900000:=by have:=HK o; omega
 have vZ:=Ba (G:=eD) x.j h.jn (dm o).length iZ
 have hin:=Pz (G:=eD) x.s (by have:=h.right.len; omega) (by have:=h.right.jobs; omega)
 have hpk:=Bb (G:=eD) x.j h.jn (e7 x.s) (by have:=B7 x.s; omega)
 have vn:=Ba (G:=eD) (x.j.pack (e7 x.s)) (h.jn.pack (nh _)) (dm o).length iZ
 have hn2:(x.j.pack (e7 x.s)).n=x.j.n:=iB.B9 _ _
 simp only [jO,o6,hn2,af] at vZ hpk vn Io hin
 unfold bR.zh bR.ew bR.ec bR.Fw
 by_cases h1:(bC x.c x.s o).2=0
 case neg=>
  simp only [ne_eq,h1,not_false_eq_true,if_true]
  refine aY Tryz.func119 (by decide) Ct rfl rfl (fM _ (Nat.le_refl 8) _) rfl ?_
  simp only [eM,kC,dg,af,Ih,go_sem,simprocAttr]
  refine bA (hap) rfl rfl rfl rfl ?_; simp only [go_sem,simprocAttr]
  refine az rfl ?_
  simp only [show ((bC x.c x.s o).2 !=0)=true from bne_iff_ne.2 h1,go_sem,simprocAttr]
 simp only [ne_eq,h1,not_true_eq_false,if_false]
 by_cases h2:x.j.room (dm o).length=true
 case pos=>
  rw [h2] at vZ
  simp only [h2,if_true,not_true_eq_false,if_false]
  refine aY Tryz.func119 (by decide) Ct rfl rfl (fM _ (Nat.le_refl 8) _) rfl ?_
  simp only [eM,kC,dg,af,Ih,go_sem,simprocAttr]
  refine bA (hap) rfl rfl rfl rfl ?_; simp only [go_sem,simprocAttr]
  refine az rfl ?_
  simp only [h1,go_sem,simprocAttr]
  refine av (Io) rfl rfl rfl rfl ?_; simp only [go_sem,simprocAttr]
  simp only [aj,go_sem,simprocAttr]
  refine au [1,2,3,4,5] (vZ) rfl ?_ (by decide) ?_ ?_ (by simp) ?_ <;> simp only [aa,ah,go_sem,simprocAttr]
  simp only [aj,go_sem,simprocAttr]
  refine au [1,2,3,4,5] (vZ) rfl ?_ (by decide) ?_ ?_ (by simp) ?_ <;> simp only [aa,ah,go_sem,simprocAttr]
 have aby:fU x.j.n x.j.us x.j.cnt (dm o).length=false:=by cases hq:fU x.j.n x.j.us x.j.cnt (dm o).length <;> simp_all [iB.room]
 simp only [iB.room,aby] at vZ
 simp only [h2,if_false]
 generalize hj2:x.j.pack (e7 x.s)=j2 at *
 generalize x.j.Mn (e7 x.s)=e2 at *
 obtain ⟨n2,l2,s2,c2,a2,u2⟩:=j2
 subst hn2
 dsimp only at hpk vn
 have hbody:∀ r:Bool,iB.room ⟨x.j.n,l2,s2,c2,a2,u2⟩ (dm o).length=r→br Tryz.prog eD 119 [.ptr 0 0,rS o] (eM x) (.dM [bz (bC x.c x.s o).1,if r=true then af (dm o) else .d (.val (.slice none 0 0)),.int (if r=true then 0 else 3)]) (eM { x with j:=⟨x.j.n,l2,s2,c2,a2,u2⟩ }):=by
  intro r hr
  rw [hr] at vn
  refine aY Tryz.func119 (by decide) Ct rfl (by cases r <;> rfl) (fM _ (Nat.le_refl 8) _) rfl ?_
  simp only [eM,kC,dg,af,Ih,go_sem,simprocAttr]
  refine bA (hap) rfl rfl rfl rfl ?_; simp only [go_sem,simprocAttr]
  refine az rfl ?_
  simp only [h1,go_sem,simprocAttr]
  refine av (Io) rfl rfl rfl rfl ?_; simp only [go_sem,simprocAttr]
  simp only [aj,go_sem,simprocAttr]
  refine au [1,2,3,4,5] (vZ) rfl ?_ (by decide) ?_ ?_ (by simp) ?_ <;> simp only [aa,ah,go_sem,simprocAttr]
  refine bA (hin) rfl rfl rfl rfl ?_; simp only [go_sem,simprocAttr]
  refine dS [1,2,3,4,5] (hpk) rfl ?_ (by decide) ?_ ?_ (by simp) ?_ <;> simp only [aa,ah,go_sem,simprocAttr]
  refine az rfl ?_
  simp only [go_sem,simprocAttr]
  simp only [aj,go_sem,simprocAttr]
  refine au [1,2,3,4,5] (vn) rfl ?_ (by decide) ?_ ?_ (by simp) ?_ <;> simp only [aa,ah,go_sem,simprocAttr]
  cases r with
  | true=>simp only [hr,go_sem,simprocAttr]
  | false=>simp only [hr,go_sem,simprocAttr]
 have:=hbody _ rfl
 split at this <;> simp_all
end Dv
set_option maxRecDepth 100000
namespace Dv
open Go Go.Proofs
variable {G:Nat→Option (List DV)}
def VB:=qx Tryz.f103
theorem Sc:aq Tryz.prog Tryz.f103=some VB:=by kernel_rfl
def jw (x:oQ) (cK:Int):oQ:=if cK=x.se then ⟨x.se,x.sd,0,[]⟩ else x
section
variable (A B:List LV) (a b c d x y:LV) (n:Nat)
theorem abm (h:A.length=n):(A++a::b::c::d::B)[n]? = some a:=by subst h; simp
theorem abl (h:A.length=n):(A++a::b::c::d::B)[n+2]? = some c:=by subst h; simp
theorem abk (h:A.length=n):((A++a::b::c::d::B).drop (n+2)).take 2=[c,d]:=by subst h; rw [List.drop_append]; simp [List.drop_eq_nil_of_le]
theorem YZ (h:A.length=n):(A++a::b::c::d::B).take n++[x,y]++(A++a::b::c::d::B).drop (n+2)=A++x::y::c::d::B:=by subst h; rw [List.drop_append]; simp
theorem YY (h:A.length=n):(A++a::b::c::d::B).take (n+2)++[x,y]++(A++a::b::c::d::B).drop (n+4)=A++a::b::x::y::B:=by subst h; rw [List.drop_append,List.take_append]; simp [List.take_of_length_le,List.drop_eq_nil_of_le]
end
theorem Ji (room term:Int) (sh:List oQ) (wr:Int) (k:Nat) (h:k<sh.length):∃ A B:List LV,A.length=2+4*k∧(∀ x:oQ,LV.int room::LV.int term::((sh.set k x).flatMap tu++[LV.int wr])=A++.int x.ce::kV x.cd::.int x.se::kV x.sd::B)∧∀ x:oQ,sh.getD k vL=x→LV.int room::LV.int term::(sh.flatMap tu++[LV.int wr])=A++.int x.ce::kV x.cd::.int x.se::kV x.sd::B:=by
 have hl:=BU sh
 have h2:∀ x:oQ,LV.int room::LV.int term::((sh.set k x).flatMap tu++[LV.int wr])=(.int room::.int term::(sh.flatMap tu++[.int wr])).take (2+4*k)++.int x.ce::kV x.cd::.int x.se::kV x.sd::(sh.flatMap tu++[LV.int wr]).drop (2+4*k+2):=by
  intro x
  rw [← Dw (.int room) (.int term) (.int wr) x sh k h]
  simp [tu]
 refine ⟨_,_,?_,h2,fun x hx=>?_⟩
 ·rw [List.length_take]; simp only [List.length_cons,List.length_append,hl,List.length_nil]; omega
 ·rw [← h2 x,← hx]; simp [List.getD,h]
theorem oE (room term:Int) (sh:List oQ) (wr:Int) (k:Nat) (hk:1≤k∧k≤24) (hs:sh.length=25) (ep:Int) (he:1≤ep) (r:Int) (hr:r=if ep=(sh.getD k vL).ce∨ep=(sh.getD k vL).se then 0 else 4):br Tryz.prog G 103 [.ptr 0 0,.int k,.int ep] (nS room term sh wr) (.int r) (nS room term (sh.set k (jw (sh.getD k vL) ep)) wr):=by
 have hj:=tj (G:=G) room term sh wr k hk
 obtain ⟨A,B,hA,hB,hC⟩:=Ji room term sh wr k (by omega)
 have hC:=hC _ rfl
 have aat:=nY 1 room term (sh.set k (jw (sh.getD k vL) ep)) wr
 have abU:=nY 1 room term sh wr
 have Dd:=dV
 generalize sh.getD k vL=x at *
 obtain ⟨ce,cd,se,sd⟩:=x
 simp only [nS,List.cons_append,List.nil_append] at hj
 refine aY Tryz.func103 (by decide) Sc rfl rfl aat rfl ?_
 simp only [nS,VB,go_sem,simprocAttr]
 refine dI [0] (hj) rfl ?_ (by decide) ?_ ?_ ?_ <;> simp only [aa,ah,go_sem,simprocAttr,cO,dV,bU,cH]
 simp only [LV.int] at hB hC
 rw [hC,hB]
 dsimp only at hr
 generalize hm:2+4*k=m at *
 have g0:=abm A B (LV.d (.val (.int .i64 ce))) (kV cd) (LV.d (.val (.int .i64 se))) (kV sd) m hA
 have g2:=abl A B (LV.d (.val (.int .i64 ce))) (kV cd) (LV.d (.val (.int .i64 se))) (kV sd) m hA
 have gt:=abk A B (LV.d (.val (.int .i64 ce))) (kV cd) (LV.d (.val (.int .i64 se))) (kV sd) m hA
 have gs0:=YZ A B (LV.d (.val (.int .i64 ce))) (kV cd) (LV.d (.val (.int .i64 se))) (kV sd) (LV.d (.val (.int .i64 se))) (kV sd) m hA
 have gs2:=YY A B (LV.d (.val (.int .i64 se))) (kV sd) (LV.d (.val (.int .i64 se))) (kV sd) (LV.d (.val (.int .i64 0))) (LV.d (.val (.slice none 0 0))) m hA
 have gl:∀ a b c d:LV,(A++a::b::c::d::B).length=m+4+B.length:=by intros; rw [List.length_append,hA]; simp; omega
 have c1:m+2≤m+4+B.length:=by omega
 have c2:m+4≤m+4+B.length:=by omega
 clear hB hC aat abU
 simp only [decide_eq_false (show ¬ ep<1 by omega),g0,go_sem,simprocAttr]
 by_cases e2:ep=se
 ·have v7:r=0:=by rw [hr,if_pos (.inr e2)]
  have LD:jw ⟨ce,cd,se,sd⟩ ep=⟨se,sd,0,[]⟩:=by unfold jw; rw [if_pos e2]
  have b2:(ep==se)=true:=beq_iff_eq.2 e2
  have b3:(ep !=se)=false:=by rw [e2]; exact bne_self_eq_false _
  subst v7
  simp only [LD,show kV []=LV.d (.val (.slice none 0 0)) from rfl]
  cases b1:(ep !=ce) <;> simp only [b1,b2,b3,g0,g2,gt,gs0,gs2,gl,c1,c2,go_sem,simprocAttr]
 ·have LD:jw ⟨ce,cd,se,sd⟩ ep=⟨ce,cd,se,sd⟩:=by unfold jw; rw [if_neg e2]
  have b2:(ep==se)=false:=beq_eq_false_iff_ne.2 e2
  have b3:(ep !=se)=true:=bne_iff_ne.2 e2
  simp only [LD]
  by_cases e1:ep=ce
  ·have v7:r=0:=by rw [hr,if_pos (.inl e1)]
   have b1:(ep !=ce)=false:=by rw [e1]; exact bne_self_eq_false _
   subst v7
   simp only [b1,b2,b3,g0,g2,go_sem,simprocAttr]
  ·have v7:r=4:=by rw [hr,if_neg (by simp [e1,e2])]
   have b1:(ep !=ce)=true:=bne_iff_ne.2 e1
   subst v7
   simp only [b1,b2,b3,g0,g2,go_sem,simprocAttr]
def Uy:=qx Tryz.f188
theorem Q6:aq Tryz.prog Tryz.f188=some Uy:=by kernel_rfl
def T3:=qx Tryz.f237
theorem Qx:aq Tryz.prog Tryz.f237=some T3:=by kernel_rfl
def T1:=qx Tryz.f238
theorem Qw:aq Tryz.prog Tryz.f238=some T1:=by kernel_rfl
def T0:=qx Tryz.f239
theorem Qv:aq Tryz.prog Tryz.f239=some T0:=by kernel_rfl
def Na:=qx Tryz.f100
theorem Ie:aq Tryz.prog Tryz.f100=some Na:=by kernel_rfl
def oA:aG:=.box 72 [.ptr 0 0]
def qc:LV:=.fn (.func 237) [] [.ptr 8 0,.ptr 9 0]
def zm:LV:=.fn (.func 238) [] [.ptr 8 0]
def FR:LV:=.fn (.func 239) [] [.ptr 8 0]
def IT:aG:=.mp [(13,FR),(2,zm),(15,zm),(7,qc),(8,qc)]
theorem OH (x:bR) (now:Int):br Tryz.prog G 188 [.ptr 0 0,.int now] (eM x) (.mr 10) (eM x++[oA,.box 3 [.int now],IT]):=by
 refine bD Tryz.func188 (by decide) Q6 rfl ?_
 simp only [eM,kC,dg,Uy,go_sem,simprocAttr]
 refine bM [] [0,1,2,3,4,5,6,7,8,9,10] [] (vs:=[.mr 10]) rfl rfl (by decide) (by simp) (by simp) ?_ (by show (eM x++[oA,.box 3 [.int now],IT]).all (dQ 11)=true; rw [List.all_append,fM _ (by omega)]; rfl) ?_
 ·simp only [List.map_cons,List.map_nil,fC,m_,cO,dV]
  rfl
 simp [aF,ah,aa,LV.int,LV.bool,oA,IT,FR,zm,qc]
end Dv
namespace Dv
open Go Go.Proofs
variable {G:Nat→Option (List DV)}
def Gf:Fp:=Hx
def A3:qA:=⟨0,false,Gf,0,0,Gf⟩
def Bp (now:Int) (k:Int) (l:qA):qA:={ l with has:=false,report:=Gf,heard:=if k=8 then now else l.heard }
theorem GN (x:bR) (now:Int) (o:dH) (i:Nat) (hi:i<x.lines.length) (ho:o.a=i):br Tryz.prog G 237 [rS o,.ptr 8 0,.ptr 9 0] (eM x++[oA,.box 3 [.int now]]) (.dM []) (eM { x with lines:=x.lines.set i (Bp now o.kind (x.lines.getD i A3)) }++[oA,.box 3 [.int now]]):=by
 have hid:(eM { x with lines:=x.lines.set i (Bp now o.kind (x.lines.getD i A3)) }++[oA,.box 3 [.int now]]).all (dQ 10)=true:=by rw [List.all_append,fM _ (by omega)]; rfl
 refine aY Tryz.func237 (by decide) Qx rfl rfl hid rfl ?_
 have hg:=aB (f:=OR) A3 hi
 generalize x.lines.getD i A3=l at *
 obtain ⟨lg,lh,⟨q0,q1,q2,q3,q4,q5,q6,q7,q8,q9,q10⟩,ls,le,⟨r0,r1,r2,r3,r4,r5,r6,r7,r8,r9,r10⟩⟩:=l
 simp only [OR,Ge,List.cons_append,List.nil_append] at hg
 obtain ⟨k,a,b,c,d,e,f⟩:=o
 dsimp only at ho
 subst ho
 simp only [eM,kC,dg,oA,List.length_set,T3,go_sem,simprocAttr]
 have hgs:∀ v,((x.lines.map OR).set i v)[i]? = some v:=fun v=>List.getElem?_set_self (by simpa using hi)
 by_cases hk:k=8
 ·subst hk
  simp only [hi,hg,hgs,Bp,OR,Gf,List.map_set,List.length_set,List.set_set,go_sem,simprocAttr]
 ·simp only [hi,hg,hgs,hk,beq_eq_false_iff_ne.2 hk,Bp,OR,Gf,List.map_set,List.length_set,List.set_set,go_sem,simprocAttr]
theorem Oh (x:bR) (hs:x.sh.length=25) (o:dH) (i:Nat) (hi:1≤i∧i≤24) (ho:o.a=i):br Tryz.prog G 238 [rS o,.ptr 8 0] (eM x++[oA]) (.dM []) (eM { x with sh:=x.sh.set i vL }++[oA]):=by
 have hid:(eM { x with sh:=x.sh.set i vL }++[oA]).all (dQ 9)=true:=by rw [List.all_append,fM _ (by omega)]; rfl
 have he:=tn (G:=G) x.room x.term x.sh x.wr i hi hs
 simp only [nS,List.cons_append,List.nil_append] at he
 refine aY Tryz.func238 (by decide) Qw rfl rfl hid rfl ?_
 simp only [eM,kC,dg,oA,ho,T1,go_sem,simprocAttr]
 refine dS [6] (he) rfl ?_ (by decide) ?_ ?_ (by simp) ?_ <;> simp only [aa,ah,go_sem,simprocAttr,cO,dV,bU,cH]
 refine az rfl ?_
 simp only [go_sem,simprocAttr]
theorem L8 (x:bR) (hs:x.sh.length=25) (o:dH) (i:Nat) (hi:1≤i∧i≤24) (ho:o.a=i) (hb:1≤o.b):br Tryz.prog G 239 [rS o,.ptr 8 0] (eM x++[oA]) (.dM []) (eM { x with sh:=x.sh.set i (jw (x.sh.getD i vL) o.b) }++[oA]):=by
 have hid:(eM { x with sh:=x.sh.set i (jw (x.sh.getD i vL) o.b) }++[oA]).all (dQ 9)=true:=by rw [List.all_append,fM _ (by omega)]; rfl
 have he:=oE (G:=G) x.room x.term x.sh x.wr i hi hs o.b hb _ rfl
 simp only [nS,List.cons_append,List.nil_append] at he
 refine aY Tryz.func239 (by decide) Qv rfl rfl hid rfl ?_
 simp only [eM,kC,dg,oA,ho,T0,go_sem,simprocAttr]
 refine dS [6] (he) rfl ?_ (by decide) ?_ ?_ (by simp) ?_ <;> simp only [aa,ah,go_sem,simprocAttr,cO,dV,bU,cH]
 refine az rfl ?_
 simp only [go_sem,simprocAttr]
end Dv
namespace Dv
open Go Go.Proofs
def kD (o:dH) (sh:List oQ):List oQ:=if o.kind=13 then sh.set o.a.toNat (jw (sh.getD o.a.toNat vL) o.b) else if o.kind=2∨o.kind=15 then sh.set o.a.toNat vL else sh
def mG (now:Int) (o:dH) (l:List qA):List qA:=if o.kind=7∨o.kind=8 then l.set o.a.toNat (Bp now o.kind (l.getD o.a.toNat A3)) else l
def bR.cU (x:bR) (o:dH) (now:Int):bR:=if x.ew o=0 then { x with j:=(x.ec o).add (dm o),s:=(bC x.c x.s o).1,gx:=IntKind.i64.wrap (x.gx+1),sh:=kD o x.sh,lines:=mG now o x.lines } else { x with j:=x.ec o }
theorem zg {x:bR} {o:dH} (he:x.ew o=0):(bC x.c x.s o).2=0∧(x.ec o).room (dm o).length=true∧x.zh o=af (dm o):=by
 have NJ:=he
 unfold bR.ew at he
 split at he
 ·rename_i h; exact absurd he h
 ·rename_i h
  split at he
  ·rename_i h2
   refine ⟨by simpa using h,?_,?_⟩
   ·unfold bR.ec; rw [if_neg h]; exact h2
   ·unfold bR.zh; rw [if_neg (by simpa using NJ)]
  ·cases he
theorem Tk.Fw {x:bR} (h:Tk x) (o:dH):qC (x.ec o):=by
 unfold bR.ec bR.Fw
 split
 ·exact h.jn
 split
 ·exact h.jn
 ·exact h.jn.pack (nh _)
theorem Mx {c:aI} {s:ai} {o:dH} (hp:cm c s) (h:(bC c s o).2=0) (hk:iz o.kind=true):1≤o.a∧o.a≤s.jobs.length:=by
 have hr:=(gA c s).2 hp
 unfold bC Aj at h
 rw [if_neg (by rw [hr]; decide)] at h
 split at h
 ·cases h
 split at h
 ·cases h
 ·rename_i h1 h2
  simp only [hk,true_and] at h2
  omega
theorem PF {c:aI} {s:ai} {o:dH} (hp:cm c s) (h:(bC c s o).2=0) (hk:fe o.kind=true):0≤o.a∧o.a<s.nodes.length:=by
 have hr:=(gA c s).2 hp
 unfold bC Aj at h
 rw [if_neg (by rw [hr]; decide)] at h
 split at h
 ·cases h
 split at h
 ·cases h
 split at h
 ·cases h
 ·rename_i h0 h1 h2
  have:=k9 (o:=o) (by simpa using h0)
  simp only [hk,true_and] at h2
  omega
theorem Mw {c:aI} {s:ai} {o:dH} (hp:cm c s) (h:(bC c s o).2=0) (hn:dX o=true) (hk:o.kind=13):1≤o.b:=by
 have ha:=Mx hp h (by rw [hk]; rfl)
 obtain ⟨k,h1,h2,h3,h4⟩:=Co hp ha
 rw [jx ((gA c s).2 hp) hn (by rw [hk]; rfl) (by rw [hk]; rfl),if_neg (by omega)] at h
 unfold aW at h
 simp only [hk] at h
 unfold jF at h
 have p7:=(hp.num k h3).cK
 rw [← h4] at p7
 simp only [Int.reduceEq,if_false,if_true] at h
 split at h
 ·cases h
 split at h
 ·cases h
 ·rename_i h5; omega
set_option maxHeartbeats 2000000 in
theorem MF (x:bR) (h:Tk x) (o:dH) (now:Int):br Tryz.prog eD 100 [.ptr 0 0,rS o,.int now] (eM x) (.int (x.ew o)) (eM (x.cU o now)):=by
 have hf:=KD x h o
 unfold bR.cU
 by_cases he:x.ew o=0
 case neg=>
  simp only [he,if_false]
  generalize x.ec o=J at *
  generalize x.zh o=B at *
  generalize x.ew o=e at *
  simp only [eM,kC,dg,List.cons_append,List.nil_append] at hf
  refine aY Tryz.func100 (by decide) Ie rfl rfl (fM _ (Nat.le_refl 8) _) rfl ?_
  simp only [eM,kC,dg,Na,go_sem,simprocAttr]
  refine au [0,1,2,3,4,5,6,7] (hf) rfl ?_ (by decide) ?_ ?_ (by simp) ?_ <;> simp only [aa,ah,go_sem,simprocAttr,cO,dV,bU,cH]
  simp only [show (e !=0)=true from bne_iff_ne.2 he,go_sem,simprocAttr]
 obtain ⟨h1,h2,h3⟩:=zg he
 have hj1:=h.Fw o
 have aao:=fun hk=>Mx h.right h1 (o:=o) hk
 have aai:=fun hk=>PF h.right h1 (o:=o) hk
 have aah:dX o=true:=by
  cases hq:dX o with
  | true=>rfl
  | false=>
    have hr:=(gA x.c x.s).2 h.right
    unfold bC Aj at h1
    rw [if_neg (by rw [hr]; decide),if_pos hq] at h1
    cases h1
 rw [h3,he] at hf
 rw [if_pos he,he]
 have ha:=En (G:=eD) (x.ec o) hj1 (dm o) h2
 have LB:(x.ec o).n=x.j.n:=by unfold bR.ec bR.Fw; split; · rfl
                              split; · rfl
                              ·exact iB.B9 _ _
 generalize x.ec o=J at *
 generalize y5:J.add (dm o)=J2 at *
 have hn2:J2.n=x.j.n:=by rw [← y5,iB.aaT,LB]
 generalize (bC x.c x.s o).1=t at *
 have NT:=G7 (G:=eD) { x with j:=J2,s:=t }
 have hal:=OH (G:=eD) { x with j:=J2,s:=t,gx:=IntKind.i64.wrap (x.gx+1) } now
 have uM:=h.sh
 have Bh:=h.lines
 simp only [jO,o6,LB,hn2,af] at ha
 simp only [eM,kC,dg,oA,IT,LB,hn2,af,List.cons_append,List.nil_append] at hf NT hal
 refine aY Tryz.func100 (by decide) Ie rfl rfl (fM _ (Nat.le_refl 8) _) rfl ?_
 simp only [eM,kC,dg,hn2,Na,go_sem,simprocAttr]
 refine au [0,1,2,3,4,5,6,7] (hf) rfl ?_ (by decide) ?_ ?_ (by simp) ?_ <;> simp only [aa,ah,go_sem,simprocAttr,cO,dV,bU,cH]
 refine au [1,2,3,4,5] (ha) rfl ?_ (by decide) ?_ ?_ (by simp) ?_ <;> simp only [aa,ah,go_sem,simprocAttr]
 refine au [0,1,2,3,4,5,6,7] (NT) rfl ?_ (by decide) ?_ ?_ (by simp) ?_ <;> simp only [aa,ah,go_sem,simprocAttr,cO,dV,bU,cH]
 refine dS [0,1,2,3,4,5,6,7] (hal) rfl ?_ (by decide) ?_ ?_ (by simp) ?_ <;> simp only [aa,ah,go_sem,simprocAttr,cO,dV,bU,cH]
 have hlj:=h.right.jobs
 have Z7:o.kind=13→1≤o.b:=fun hk=>Mw h.right h1 aah hk
 by_cases P_:o.kind=13
 ·obtain ⟨q1,q2⟩:=aao (by rw [P_]; rfl)
  obtain ⟨i,hi⟩:∃ i:Nat,o.a=i:=⟨o.a.toNat,by omega⟩
  have hc:=L8 (G:=eD) { x with j:=J2,s:=t,gx:=IntKind.i64.wrap (x.gx+1) } uM o i (by omega) hi (Z7 P_)
  simp only [eM,kC,dg,oA,hn2,List.cons_append,List.nil_append] at hc
  have hA:kD o x.sh=x.sh.set i (jw (x.sh.getD i vL) o.b):=by unfold kD; rw [if_pos P_,hi]; rfl
  have hL:mG now o x.lines=x.lines:=by unfold mG; rw [if_neg (by rw [P_]; decide)]
  simp only [hA,hL]
  have hm:(if o.kind=13 then some (rn (bE [0,1,2,3,4,5,6,7] 10) FR) else if o.kind=2 then some (rn (bE [0,1,2,3,4,5,6,7] 10) zm) else if o.kind=15 then some (rn (bE [0,1,2,3,4,5,6,7] 10) zm) else if o.kind=7 then some (rn (bE [0,1,2,3,4,5,6,7] 10) qc) else if o.kind=8 then some (rn (bE [0,1,2,3,4,5,6,7] 10) qc) else none)=some (rn (bE [0,1,2,3,4,5,6,7] 10) FR):=by rw [P_]; rfl
  simp only [hm]
  simp only [FR,go_sem,simprocAttr]
  refine az rfl ?_
  simp only [go_sem,simprocAttr]
  refine au [0,1,2,3,4,5,6,7,10] (hc) rfl ?_ (by decide) ?_ ?_ (by simp) ?_ <;> simp only [aa,ah,go_sem,simprocAttr,cO,dV,bU,cH]
 by_cases kE:o.kind=2∨o.kind=15
 ·obtain ⟨q1,q2⟩:=aao (by rcases kE with k | k <;> (rw [k]; rfl))
  obtain ⟨i,hi⟩:∃ i:Nat,o.a=i:=⟨o.a.toNat,by omega⟩
  have hc:=Oh (G:=eD) { x with j:=J2,s:=t,gx:=IntKind.i64.wrap (x.gx+1) } uM o i (by omega) hi
  simp only [eM,kC,dg,oA,hn2,List.cons_append,List.nil_append] at hc
  have hA:kD o x.sh=x.sh.set i vL:=by unfold kD; rw [if_neg P_,if_pos kE,hi]; rfl
  have hL:mG now o x.lines=x.lines:=by unfold mG; rw [if_neg (by omega)]
  simp only [hA,hL]
  have hm:(if o.kind=13 then some (rn (bE [0,1,2,3,4,5,6,7] 10) FR) else if o.kind=2 then some (rn (bE [0,1,2,3,4,5,6,7] 10) zm) else if o.kind=15 then some (rn (bE [0,1,2,3,4,5,6,7] 10) zm) else if o.kind=7 then some (rn (bE [0,1,2,3,4,5,6,7] 10) qc) else if o.kind=8 then some (rn (bE [0,1,2,3,4,5,6,7] 10) qc) else none)=some (rn (bE [0,1,2,3,4,5,6,7] 10) zm):=by rcases kE with k | k <;> (rw [k]; rfl)
  simp only [hm]
  simp only [zm,go_sem,simprocAttr]
  refine az rfl ?_
  simp only [go_sem,simprocAttr]
  refine au [0,1,2,3,4,5,6,7,10] (hc) rfl ?_ (by decide) ?_ ?_ (by simp) ?_ <;> simp only [aa,ah,go_sem,simprocAttr,cO,dV,bU,cH]
 by_cases kF:o.kind=7∨o.kind=8
 ·obtain ⟨q1,q2⟩:=aai (by rcases kF with k | k <;> (rw [k]; rfl))
  obtain ⟨i,hi⟩:∃ i:Nat,o.a=i:=⟨o.a.toNat,by omega⟩
  have hc:=GN (G:=eD) { x with j:=J2,s:=t,gx:=IntKind.i64.wrap (x.gx+1) } now o i (by show i<x.lines.length; omega) hi
  simp only [eM,kC,dg,oA,hn2,List.length_set,List.cons_append,List.nil_append] at hc
  have hA:kD o x.sh=x.sh:=by unfold kD; rw [if_neg P_,if_neg kE]
  have hL:mG now o x.lines=x.lines.set i (Bp now o.kind (x.lines.getD i A3)):=by unfold mG; rw [if_pos kF,hi]; rfl
  simp only [hA,hL,List.length_set]
  have hm:(if o.kind=13 then some (rn (bE [0,1,2,3,4,5,6,7] 10) FR) else if o.kind=2 then some (rn (bE [0,1,2,3,4,5,6,7] 10) zm) else if o.kind=15 then some (rn (bE [0,1,2,3,4,5,6,7] 10) zm) else if o.kind=7 then some (rn (bE [0,1,2,3,4,5,6,7] 10) qc) else if o.kind=8 then some (rn (bE [0,1,2,3,4,5,6,7] 10) qc) else none)=some (rn (bE [0,1,2,3,4,5,6,7] 10) qc):=by rcases kF with k | k <;> (rw [k]; rfl)
  simp only [hm]
  simp only [qc,go_sem,simprocAttr]
  refine az rfl ?_
  simp only [go_sem,simprocAttr]
  refine au [0,1,2,3,4,5,6,7,10,11] (hc) rfl ?_ (by decide) ?_ ?_ (by simp) ?_ <;> simp only [aa,ah,go_sem,simprocAttr,cO,dV,bU,cH]
 have hA:kD o x.sh=x.sh:=by unfold kD; rw [if_neg P_,if_neg kE]
 have hL:mG now o x.lines=x.lines:=by unfold mG; rw [if_neg kF]
 simp only [hA,hL]
 rw [not_or] at kE kF
 simp only [P_,kE.1,kE.2,kF.1,kF.2,go_sem,simprocAttr]
 refine az rfl ?_
 simp only [go_sem,simprocAttr]
end Dv
set_option maxRecDepth 100000
namespace Dv
open Go Go.Proofs
def Zi:=qx Tryz.f99
theorem WM:aq Tryz.prog Tryz.f99=some Zi:=by kernel_rfl
def M0:=qx Tryz.f37
theorem Cq:aq Tryz.prog Tryz.f37=some M0:=by kernel_rfl
theorem Ho (o:dH) (l:List oQ):(kD o l).length=l.length:=by
 unfold kD
 split
 ·rw [List.length_set]
 split
 ·rw [List.length_set]
 ·rfl
theorem Ln (now:Int) (o:dH) (l:List qA):(mG now o l).length=l.length:=by
 unfold mG
 split
 ·rw [List.length_set]
 ·rfl
theorem Tk.note {x:bR} (h:Tk x) (o:dH) (now:Int):Tk (x.cU o now):=by
 unfold bR.cU
 split
 ·rename_i he
  obtain ⟨h1,h2,h3⟩:=zg he
  have hr:=mF h.right o
  have h4:=h.right.nodes
  have h5:=hr.nodes
  refine ⟨hr,(h.Fw o).add (DM o) h2,by show (kD o x.sh).length=25; rw [Ho,h.sh],?_⟩
  show (mG now o x.lines).length=(bC x.c x.s o).1.nodes.length
  rw [Ln,h.lines]
  omega
 ·exact ⟨h.right,h.Fw o,h.sh,h.lines⟩
theorem Ga (x:bR) (o:dH) (now:Int):(x.cU o now).down=x.down:=by unfold bR.cU; split <;> rfl
theorem xk (x:bR) (o:dH) (now:Int):(x.cU o now).j.n=x.j.n:=by
 have h:(x.ec o).n=x.j.n:=by
  unfold bR.ec bR.Fw
  split
  ·rfl
  split
  ·rfl
  ·exact iB.B9 _ _
 unfold bR.cU
 split
 ·exact h
 ·exact h
end Dv
namespace Dv
open Go Go.Proofs
def aZ:dH:=⟨21,0,0,0,0,0,0⟩
def Lw (now:Int):qA:=⟨0,false,Gf,0,now,Gf⟩
def II (x:bR):aG:=.box 195 [.int x.c.nodes,.int x.c.bn,.int x.c.cv,.int x.c.gJ,.int x.c.eF,.int x.c.eE,.int x.c.deadline,.int x.c.room,.int x.c.gq,.ptr 0 0,.ptr 5 0,.ptr 2 0,bK x.s.nodes,cA x.s.jobs,.int x.s.goal,.int x.s.bH,.int x.s.mode,.int x.s.term,.sl 4 x.lines.length 26 0 x.lines.length,.bool x.down,.int x.gx]
def Fa (x:bR):List aG:=[.box 150 [.sl 1 x.j.n 1 0 x.j.n,.d (.val (.slice none 0 0)),.int x.j.s],.dat 5 1 (ak x.j.l),.box 190 ([.int x.room,.int x.term]++(x.sh.flatMap tu++[.int x.wr])),II x,dg x.lines,.box 160 [.ptr 0 0,.ptr 6 0,.ptr 7 0,.int x.j.cnt,.int x.j.aX],.box 243 [.ptr 0 0,.int 0,.int ((x.j.n / 4:Nat):Int)],.box 245 [.ptr 0 0,.int ((2*(x.j.n / 4):Nat):Int),.int ((x.j.n-2*(x.j.n / 4):Nat):Int),.int x.j.us]]
theorem Ld (k:Nat) (hk:8≤k) (x:bR):(Fa x).all (dQ k)=true:=by
 have h:∀ i,i<8→i<k:=fun i hi=>by omega
 simp [Fa,II,dg,List.all_cons,List.all_nil,dQ,Bool.and_true,bU,cH,eX,eU,LV.int,LV.bool,bK,cA,h]
end Dv
