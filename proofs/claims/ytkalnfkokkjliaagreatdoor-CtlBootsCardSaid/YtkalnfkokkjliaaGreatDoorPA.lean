set_option linter.unusedVariables false
set_option linter.unusedSimpArgs false
/- The logical machine and its plain laws: parts P1, P2, P3, P4, P5, P6, P7, proved sound. -/
namespace Dv
structure bu where
 up:Bool
 bV:Bool
 aU:Bool
 version:Int
 bW:Int
 deriving DecidableEq
structure ct where
 queue:Int
 prio:Int
 min:Int
 max:Int
 work:Int
 ia:Int
 phase:Int
 inc:Int
 nodes:Int
 since:Int
 mI:Int
 cK:Int
 deriving DecidableEq
structure aI where
 nodes:Int
 bn:Int
 cv:Int
 gJ:Int
 eF:Int
 eE:Int
 deadline:Int
 room:Int
 gq:Int
 deriving DecidableEq
structure ai where
 nodes:List bu
 jobs:List ct
 goal:Int
 bH:Int
 mode:Int
 term:Int
 deriving DecidableEq
structure dH where
 kind:Int
 a:Int
 b:Int
 c:Int
 d:Int
 e:Int
 f:Int
 deriving DecidableEq
structure Fp where
 node:Int
 kind:Int
 term:Int
 gen:Int
 bW:Int
 inc:Int
 version:Int
 cK:Int
 mI:Int
 mode:Int
 work:Int
 deriving DecidableEq
def BJ:dH:=⟨0,0,0,0,0,0,0⟩
def Hx:Fp:=⟨0,0,0,0,0,0,0,0,0,0,0⟩
def aK:ct:=⟨0,0,0,0,0,0,0,0,0,0,0,0⟩
def an:bu:=⟨false,false,false,0,0⟩
def nt (s:ai):Int:=if s.mode=2 then s.bH else s.goal
def cu (l:List ct) (q:Int):Int:=((l.filter (fun j=>decide (j.queue=q)&&decide (j.phase=3))).length:Int)
theorem zu (l:List ct) (q:Int):0≤cu l q∧cu l q≤l.length:=by
 unfold cu
 have:=List.length_filter_le (fun j:ct=>decide (j.queue=q)&&decide (j.phase=3)) l
 omega
theorem ou (l:List ct) (j:ct) (q:Int):cu (l++[j]) q=cu l q+if j.queue=q∧j.phase=3 then 1 else 0:=by
 unfold cu
 by_cases h1:j.queue=q <;> by_cases h2:j.phase=3 <;> simp [List.filter_append,List.filter_cons,h1,h2]
def hasB (n:Int) (i:Nat):Bool:=decide (n / 2 ^ i % 2=1)
def Iy (n:Int) (i:Nat):Int:=if hasB n i then 1 else 0
def jo (n:Int):Nat→Int
 | 0=>0
 | k+1=>jo n k+Iy n k
def many (n:Int):Int:=jo n 6
theorem AY (n:Int):∀ k:Nat,0≤jo n k∧jo n k≤k
 | 0=>by simp [jo]
 | k+1=>by
   have:=AY n k
   unfold jo Iy
   split <;> omega
def aT (n lo hi:Int):Bool:=decide (lo≤n∧n≤hi)
def eC (nodes:Int) (takes:bu→Bool):List bu→Nat→Int→Bool
 | [],_,_=>true
 | n::l,i,v=>
   if hasB nodes i=false then eC nodes takes l (i+1) v
   else if takes n=true∧n.version=(if v=0 then n.version else v) then eC nodes takes l (i+1) (if v=0 then n.version else v) else false
def jE (ns:List bu) (j:ct) (nodes:Int) (takes:bu→Bool):Bool:=
 if nodes<0∨2 ^ ns.length≤nodes then false
 else if aT (many nodes) j.min j.max=true then eC nodes takes ns 0 j.ia else false
def gV (c:aI) (j:ct):Bool:=aT j.queue 0 (c.bn-1)&&aT j.prio 0 9&&aT j.min 1 j.max&&aT j.max 1 c.nodes&&aT j.work 1 1000&&aT j.ia 0 9
def d_ (p:Int):Bool:=decide (p=1∨p=2∨p=3)
def iH (c:aI):Bool:=aT c.nodes 1 6&&aT c.bn 1 3&&aT c.cv 0 4&&aT c.gJ 1 6&&aT c.eF 2 30&&aT c.eE 1 20&&aT c.deadline 1 60&&aT c.room 0 5000&&aT c.gq 2000 40000
def kA (number:Int) (n:bu):Bool:=n.up&&!n.aU&&decide (n.bW=number)
def g_ (c:aI) (s:ai) (j:ct) (number:Int):Bool:=
 gV c j&&aT j.phase 0 4&&aT j.inc 0 1000000&&aT j.since 0 1000000&&aT j.mI 0 1000000&&aT j.cK 0 j.inc&&
 (if d_ j.phase=true then jE s.nodes j j.nodes (kA number) else decide (j.nodes=0))
def mL (s:ai) (n:bu) (number:Nat):Bool:=
 aT n.version 1 9&&aT n.bW 0 s.jobs.length&&!(n.aU&&(!n.up||!n.bV||decide (n.bW≠0)))&&
 (decide (n.bW=0)||hasB (s.jobs.getD (n.bW-1).toNat aK).nodes number)
def fm (c:aI) (s:ai):List ct→Nat→Bool
 | [],_=>true
 | j::l,k=>g_ c s j (k+1)&&fm c s l (k+1)
def fI (s:ai):List bu→Nat→Bool
 | [],_=>true
 | n::l,k=>mL s n k&&fI s l (k+1)
def di (c:aI) (s:ai):Nat→Nat→Bool
 | _,0=>true
 | q,n+1=>!decide (c.cv<cu s.jobs q)&&di c s (q+1) n
def iy (c:aI) (s:ai):Bool:=
 iH c&&decide ((s.nodes.length:Int)=c.nodes)&&decide (s.jobs.length≤24)&&aT s.goal 1 9&&aT s.bH 1 9&&aT s.mode 0 2&&aT s.term 0 1000000&&
 fm c s s.jobs 0&&fI s s.nodes 0&&di c s 0 c.bn.toNat
theorem drop_cons {α:Type} (l:List α) (k:Nat) (z:α) (h:k<l.length):l.drop k=l.getD k z::l.drop (k+1):=by
 rw [List.drop_eq_getElem_cons h]; simp [List.getD,h]
end Dv
namespace Dv
def AI (s:ai) (bW:Int):Int:=(s.jobs.getD (bW-1).toNat aK).ia
def Yg (s:ai) (n:bu):Bool:=if n.bW=0 then false else decide (AI s n.bW≠0)&&decide (AI s n.bW≠nt s)
def Hp (s:ai) (i:Int):Bool:=if i<0∨(s.nodes.length:Int)≤i then false else Yg s (s.nodes.getD i.toNat an)
structure Hv (c:aI) (s:ai):Prop where
 Ah:1≤c.nodes∧c.nodes≤6∧1≤c.bn∧c.bn≤3∧0≤c.cv∧c.cv≤4∧1≤c.gJ∧c.gJ≤6∧2≤c.eF∧c.eF≤30∧1≤c.eE∧c.eE≤20∧1≤c.deadline∧c.deadline≤60∧0≤c.room∧c.room≤5000∧2000≤c.gq∧c.gq≤40000
 nodes:(s.nodes.length:Int)=c.nodes
 jobs:s.jobs.length≤24
 acn:1≤s.goal∧s.goal≤9∧1≤s.bH∧s.bH≤9∧0≤s.mode∧s.mode≤2∧0≤s.term∧s.term≤1000000
 stands:∀ k,k<s.jobs.length→g_ c s (s.jobs.getD k aK) (k+1)=true
 sound:∀ k,k<s.nodes.length→mL s (s.nodes.getD k an) k=true
 cv:∀ q:Nat,(q:Int)<c.bn→cu s.jobs q≤c.cv
theorem bf {n lo hi:Int} (h:aT n lo hi=true):lo≤n∧n≤hi:=of_decide_eq_true h
theorem pz (c:aI) (s:ai):∀ (l:List ct) (k:Nat),fm c s l k=true→∀ i,i<l.length→g_ c s (l.getD i aK) ((k+i:Nat)+1)=true
 | [],_,_,i,hi=>by simp at hi
 | j::l,k,h,i,hi=>by
   unfold fm at h
   simp only [Bool.and_eq_true] at h
   cases i with
   | zero=>simpa using h.1
   | succ i=>
     have:=pz c s l (k+1) h.2 i (by simpa using hi)
     rw [show k+(i+1)=k+1+i by omega]
     simpa using this
theorem rN (s:ai):∀ (l:List bu) (k:Nat),fI s l k=true→∀ i,i<l.length→mL s (l.getD i an) (k+i)=true
 | [],_,_,i,hi=>by simp at hi
 | j::l,k,h,i,hi=>by
   unfold fI at h
   simp only [Bool.and_eq_true] at h
   cases i with
   | zero=>simpa using h.1
   | succ i=>
     have:=rN s l (k+1) h.2 i (by simpa using hi)
     rw [show k+(i+1)=k+1+i by omega]
     simpa using this
theorem rQ (c:aI) (s:ai):∀ (n q:Nat),di c s q n=true→∀ i,i<n→cu s.jobs ((q+i:Nat):Int)≤c.cv
 | 0,_,_,i,hi=>by omega
 | n+1,q,h,i,hi=>by
   unfold di at h
   simp only [Bool.and_eq_true,Bool.not_eq_true',decide_eq_false_iff_not] at h
   cases i with
   | zero=>have:=h.1; simp; omega
   | succ i=>
     have:=rQ c s n (q+1) h.2 i (by omega)
     rw [show q+(i+1)=q+1+i by omega]
     exact this
theorem yb {c:aI} {s:ai} (h:iy c s=true):Hv c s:=by
 unfold iy iH at h
 simp only [Bool.and_eq_true,decide_eq_true_eq] at h
 obtain ⟨⟨⟨⟨⟨⟨⟨⟨⟨⟨⟨⟨⟨⟨⟨⟨⟨h1,h2⟩,h3⟩,h4⟩,h5⟩,h6⟩,h7⟩,h8⟩,h9⟩,n1⟩,n2⟩,g1⟩,g2⟩,g3⟩,g4⟩,st⟩,so⟩,qu⟩:=h
 have h1:=bf h1
 have h2:=bf h2
 have h3:=bf h3
 have h4:=bf h4
 have h5:=bf h5
 have h6:=bf h6
 have h7:=bf h7
 have h8:=bf h8
 have h9:=bf h9
 have g1:=bf g1
 have g2:=bf g2
 have g3:=bf g3
 have g4:=bf g4
 exact ⟨⟨h1.1,h1.2,h2.1,h2.2,h3.1,h3.2,h4.1,h4.2,h5.1,h5.2,h6.1,h6.2,h7.1,h7.2,h8.1,h8.2,h9.1,h9.2⟩,n1,n2,⟨g1.1,g1.2,g2.1,g2.2,g3.1,g3.2,g4.1,g4.2⟩,
  fun k hk=>by have:=pz c s s.jobs 0 st k hk; simpa using this,
  fun k hk=>by have:=rN s s.nodes 0 so k hk; simpa using this,
  fun q hq=>by have:=rQ c s _ 0 qu q (by omega); simpa using this⟩
theorem Hv.node {c:aI} {s:ai} (h:Hv c s) {k:Nat} (hk:k<s.nodes.length) :
  1≤(s.nodes.getD k an).version∧(s.nodes.getD k an).version≤9∧0≤(s.nodes.getD k an).bW∧(s.nodes.getD k an).bW≤s.jobs.length:=by
 have:=h.sound k hk
 unfold mL at this
 simp only [Bool.and_eq_true] at this
 have h1:=bf this.1.1.1
 have h2:=bf this.1.1.2
 omega
theorem Hv.bW {c:aI} {s:ai} (h:Hv c s) {k:Nat} (hk:k<s.jobs.length) :
  let j:=s.jobs.getD k aK
  (0≤j.queue∧j.queue≤c.bn-1)∧(0≤j.prio∧j.prio≤9)∧(1≤j.min∧j.min≤j.max)∧(1≤j.max∧j.max≤c.nodes)∧(1≤j.work∧j.work≤1000)∧(0≤j.ia∧j.ia≤9)∧(0≤j.phase∧j.phase≤4)∧(0≤j.inc∧j.inc≤1000000)∧(0≤j.since∧j.since≤1000000)∧(0≤j.mI∧j.mI≤1000000)∧(0≤j.cK∧j.cK≤j.inc):=by
 have:=h.stands k hk
 unfold g_ gV at this
 simp only [Bool.and_eq_true] at this
 obtain ⟨⟨⟨⟨⟨⟨⟨⟨⟨⟨⟨a1,a2⟩,a3⟩,a4⟩,a5⟩,a6⟩,b1⟩,b2⟩,b3⟩,b4⟩,b5⟩,_⟩:=this
 exact ⟨bf a1,bf a2,bf a3,bf a4,bf a5,bf a6,bf b1,bf b2,bf b3,bf b4,bf b5⟩
theorem tD (n:Nat) (h:n≤6):(2:Int) ^ n≤64:=by
 have:n=0∨n=1∨n=2∨n=3∨n=4∨n=5∨n=6:=by omega
 rcases this with h | h | h | h | h | h | h <;> subst h <;> simp
theorem Hv.bits {c:aI} {s:ai} (h:Hv c s) {k:Nat} (hk:k<s.jobs.length):0≤(s.jobs.getD k aK).nodes∧(s.jobs.getD k aK).nodes<64:=by
 have:=h.stands k hk
 have hc:=h.Ah
 have hn:=h.nodes
 unfold g_ at this
 simp only [Bool.and_eq_true] at this
 have h2:=this.2
 split at h2
 ·unfold jE at h2
  split at h2
  ·cases h2
  ·rename_i hq
   have:=tD s.nodes.length (by omega)
   omega
 ·have:=of_decide_eq_true h2
  omega
end Dv
namespace Dv
inductive vG (s:ai):dH→Prop where
 | opened (a:Int):vG s ⟨17,a,0,0,0,0,0⟩
 | shut (a:Int) (h:Hp s a=false):vG s ⟨16,a,0,0,0,0,0⟩
 | move (a:Int) (h:Hp s a=false):vG s ⟨18,a,0,0,0,0,0⟩
 | shrink (j a:Int) (h:Hp s a=false):vG s ⟨20,j,a,0,0,0,0⟩
 | abj (i:Nat) (hi:i<s.nodes.length) (h0:(s.nodes.getD i an).bW≠0) (h:AI s (s.nodes.getD i an).bW=0∨AI s (s.nodes.getD i an).bW=nt s):vG s ⟨11,(s.nodes.getD i an).bW,0,0,0,0,0⟩
 | drain (i:Nat) (t:Int) (hi:i<s.nodes.length) (h0:(s.nodes.getD i an).bW≠0) (h:AI s (s.nodes.getD i an).bW=0∨AI s (s.nodes.getD i an).bW=nt s):vG s ⟨12,(s.nodes.getD i an).bW,t,0,0,0,0⟩
end Dv
namespace Dv
def fD {α:Type} (g:Nat→α→α) (l:List α) (k:Nat):List α:=l.mapIdx fun i x=>if i<k then g i x else x
section
variable {α:Type} (g:Nat→α→α) (l:List α)
@[simp] theorem gX (k:Nat):(fD g l k).length=l.length:=by simp [fD]
theorem nU:fD g l 0=l:=by
 apply List.ext_getElem
 ·simp
 ·intro i h1 h2; simp [fD]
theorem nW:fD g l l.length=l.mapIdx g:=by
 apply List.ext_getElem
 ·simp
 ·intro i h1 h2
  simp at h1
  simp [fD,h1]
theorem ta {k:Nat} (h:k<l.length):(fD g l k)[k]? = some l[k]:=by
 simp [fD,h]
theorem mY {k:Nat} {x:α} (h:k<l.length) (hx:g k l[k]=x):(fD g l k).set k x=fD g l (k+1):=by
 apply List.ext_getElem
 ·simp
 ·intro i h1 h2
  simp only [fD,List.getElem_set,List.getElem_mapIdx]
  by_cases hi:k=i
  ·subst hi; simp [hx]
  ·rw [if_neg hi]
   by_cases h3:i<k
   ·rw [if_pos h3,if_pos (by omega)]
   ·rw [if_neg h3,if_neg (by omega)]
theorem nV {k:Nat} (h:k<l.length) (hx:g k l[k]=l[k]):fD g l k=fD g l (k+1):=by
 rw [← mY g l h hx]
 apply List.ext_getElem
 ·simp
 ·intro i h1 h2
  rw [List.getElem_set]
  split
  ·rename_i h; subst h; simp [fD]
  ·rfl
end
def bg (s:ai) (i:Int):bu:=s.nodes.getD i.toNat an
def bG (s:ai) (a:Int):ct:=s.jobs.getD (a-1).toNat aK
def jr (n:bu):Bool:=n.up&&!n.bV&&!n.aU&&decide (n.bW=0)
def fo (s:ai) (i:Int) (n:bu):ai:={ s with nodes:=s.nodes.set i.toNat n }
def eN (s:ai) (a:Int) (j:ct):ai:={ s with jobs:=s.jobs.set (a-1).toNat j }
def lets (number:Int) (_:Nat) (n:bu):bu:=if n.bW=number then { n with bW:=0 } else n
def eG (bits number:Int) (i:Nat) (n:bu):bu:=if hasB bits i then { n with bW:=number } else n
def eA (s:ai) (number phase:Int):ai:=
 { s with nodes:=s.nodes.mapIdx (lets number),jobs:=s.jobs.set (number-1).toNat { bG s number with phase:=phase,nodes:=0,since:=0,mI:=0 } }
def gD (o:dH):ct:=⟨o.a,o.b,o.c,o.d,o.e,o.f,0,0,0,0,0,0⟩
def jf (c:aI) (s:ai) (o:dH):ai×Int:=if gV c (gD o)=false then (s,1) else if 24≤s.jobs.length then (s,3) else ({ s with jobs:=s.jobs++[gD o] },0)
def jZ (s:ai) (o:dH):ai×Int:=if (bG s o.a).phase=4 then (s,5) else (eA s o.a 4,0)
def jT (s:ai) (o:dH):ai×Int:=if aT o.a 1 9=false then (s,1) else ({ s with bH:=nt s,goal:=o.a,mode:=0 },0)
def gr (s:ai) (ok:Bool) (to:Int):ai×Int:=if ok=true then ({ s with mode:=to },0) else (s,5)
def qp (s:ai) (o:dH):ai×Int:=if (bg s o.a).up=false then (s,5) else
 let t:=if (bg s o.a).bW≠0 then eA s (bg s o.a).bW 0 else s
 (fo t o.a { bg t o.a with up:=false,aU:=false },0)
def LS (s:ai) (o:dH):ai×Int:=if aT o.b 1 9=false then (s,1) else if (bg s o.a).up=true then (s,5) else (fo s o.a { bg s o.a with up:=true,version:=o.b },0)
def nE (s:ai) (o:dH):ai×Int:=if (bG s o.a).phase≠0 then (s,5) else if jE s.nodes (bG s o.a) o.b jr=false∨1000000≤(bG s o.a).inc then (s,8) else
 ({ eN s o.a { bG s o.a with phase:=1,inc:=(bG s o.a).inc+1,nodes:=o.b } with nodes:=s.nodes.mapIdx (eG o.b o.a) },0)
def mJ (s:ai) (o:dH):ai×Int:=if (bG s o.a).phase≠1 then (s,5) else (eN s o.a { bG s o.a with phase:=2,since:=o.b },0)
def jS (s:ai) (o:dH):ai×Int:=if (bG s o.a).phase≠1 then (s,5) else (eA s o.a 0,0)
def lX (c:aI) (s:ai) (o:dH):ai×Int:=if (bG s o.a).phase≠2 then (s,5) else if c.cv≤cu s.jobs (bG s o.a).queue then (s,7) else (eN s o.a { bG s o.a with phase:=3,mI:=o.b },0)
def kG (j:ct):Bool:=decide (j.phase=2)||decide (j.phase=3)
def jF (s:ai) (o:dH):ai×Int:=if kG (bG s o.a)=false then (s,5) else if o.b≠(bG s o.a).inc∨o.b≤(bG s o.a).cK then (s,6) else (eN s o.a { bG s o.a with cK:=o.b },0)
def mV (s:ai) (o:dH):ai×Int:=if (bG s o.a).phase≠3 then (s,5) else (eA s o.a 0,0)
def rX (s:ai) (o:dH):ai×Int:=if kG (bG s o.a)=false then (s,5) else (eA s o.a 4,0)
def kW (s:ai) (o:dH):ai×Int:=if (bg s o.a).up=false∨(bg s o.a).bV=true then (s,5) else (fo s o.a { bg s o.a with bV:=true },0)
def gY (s:ai) (o:dH):ai×Int:=if (bg s o.a).bV=false∨(bg s o.a).aU=true then (s,5) else (fo s o.a { bg s o.a with bV:=false },0)
def tR (s:ai) (o:dH):ai×Int:=if (bg s o.a).up=false∨(bg s o.a).bV=false∨(bg s o.a).aU=true∨(bg s o.a).bW≠0 then (s,5) else (fo s o.a { bg s o.a with aU:=true },0)
def lR (s:ai) (o:dH):ai×Int:=if aT o.b 1 9=false then (s,1) else if (bg s o.a).aU=false then (s,5) else (fo s o.a { bg s o.a with version:=o.b,aU:=false,bV:=false },0)
def kI (n b:Int):Int:=if hasB n b.toNat then n-2 ^ b.toNat else n
def gF (s:ai) (o:dH):ai×Int:=if (s.nodes.length:Int)≤o.b then (s,4) else if (bG s o.a).phase≠2 then (s,5) else if (bg s o.b).bW≠o.a∨many (bG s o.a).nodes≤(bG s o.a).min then (s,8) else
 (fo (eN s o.a { bG s o.a with nodes:=kI (bG s o.a).nodes o.b }) o.b { bg s o.b with bW:=0 },0)
def iG (s:ai):ai×Int:=if 1000000≤s.term then (s,3) else ({ s with term:=s.term+1 },0)
def cq (k:Int):Nat:=if k=1 then 6 else if k=4∨k=5∨k=6∨k=21 then 0 else if k=8∨k=9∨k=10∨k=12∨k=13∨k=19∨k=20 then 2 else 1
def oJ (n:Int) (given:Bool):Bool:=decide (0≤n∧n≤1000000)&&(given||decide (n=0))
def dX (o:dH):Bool:=decide (1≤o.kind∧o.kind≤21)&&oJ o.a (decide (0<cq o.kind))&&oJ o.b (decide (1<cq o.kind))&&oJ o.c (decide (2<cq o.kind))&&oJ o.d (decide (3<cq o.kind))&&oJ o.e (decide (4<cq o.kind))&&oJ o.f (decide (5<cq o.kind))
def iz (k:Int):Bool:=decide (k=2∨k=9∨k=10∨k=11∨k=12∨k=13∨k=14∨k=15∨k=20)
def fe (k:Int):Bool:=decide (k=7∨k=8∨k=16∨k=17∨k=18∨k=19)
def aW (c:aI) (s:ai) (o:dH):ai×Int:=
 if o.kind=1 then jf c s o else if o.kind=2 then jZ s o else if o.kind=3 then jT s o
 else if o.kind=4 then gr s (s.mode==0) 1 else if o.kind=5 then gr s (s.mode==1) 0 else if o.kind=6 then gr s (s.mode !=2) 2
 else if o.kind=7 then qp s o else if o.kind=8 then LS s o else if o.kind=9 then nE s o else if o.kind=10 then mJ s o
 else if o.kind=11 then jS s o else if o.kind=12 then lX c s o else if o.kind=13 then jF s o else if o.kind=14 then mV s o
 else if o.kind=15 then rX s o else if o.kind=16 then kW s o else if o.kind=17 then gY s o else if o.kind=18 then tR s o
 else if o.kind=19 then lR s o else if o.kind=20 then gF s o else iG s
def kY:ai:=⟨[],[],0,0,0,0⟩
def Aj (c:aI) (s:ai) (o:dH):ai×Int:=
 if dX o=false then (s,1)
 else if iz o.kind=true∧(o.a<1∨(s.jobs.length:Int)<o.a) then (s,4)
 else if fe o.kind=true∧(s.nodes.length:Int)≤o.a then (s,4)
 else aW c s o
def bC (c:aI) (s:ai) (o:dH):ai×Int:=if iy c s=false then (kY,1) else Aj c s o
end Dv
namespace Dv
def eS (s:ai) (i:Nat):bu:=s.nodes.getD i an
def fJ (s:ai) (k:Nat):ct:=s.jobs.getD k aK
structure qB (c:aI) (j:ct):Prop where
 asked:gV c j=true
 phase:0≤j.phase∧j.phase≤4
 inc:0≤j.inc∧j.inc≤1000000
 since:0≤j.since∧j.since≤1000000
 mI:0≤j.mI∧j.mI≤1000000
 cK:0≤j.cK∧j.cK≤j.inc
structure s8 (ns:List bu) (j:ct):Prop where
 lo:0≤j.nodes
 hi:j.nodes<2 ^ ns.length
 many:j.min≤many j.nodes∧many j.nodes≤j.max
 Hy:∃ u,(j.ia=0∨u=j.ia)∧∀ i,i<ns.length→hasB j.nodes i=true→(ns.getD i an).version=u
structure cm (c:aI) (s:ai):Prop where
 Ah:iH c=true
 nodes:(s.nodes.length:Int)=c.nodes
 jobs:s.jobs.length≤24
 goal:1≤s.goal∧s.goal≤9
 bH:1≤s.bH∧s.bH≤9
 mode:0≤s.mode∧s.mode≤2
 term:0≤s.term∧s.term≤1000000
 num:∀ k,k<s.jobs.length→qB c (fJ s k)
 mO:∀ k,k<s.jobs.length→d_ (fJ s k).phase=true→s8 s.nodes (fJ s k)
 idle:∀ k,k<s.jobs.length→d_ (fJ s k).phase=false→(fJ s k).nodes=0
 Hy:∀ i,i<s.nodes.length→1≤(eS s i).version∧(eS s i).version≤9
 bW:∀ i,i<s.nodes.length→0≤(eS s i).bW∧(eS s i).bW≤s.jobs.length
 aU:∀ i,i<s.nodes.length→(eS s i).aU=true→(eS s i).up=true∧(eS s i).bV=true∧(eS s i).bW=0
 up:∀ i,i<s.nodes.length→(eS s i).bW≠0→(eS s i).up=true
 link:∀ i k,i<s.nodes.length→k<s.jobs.length→(hasB (fJ s k).nodes i=true↔(eS s i).bW=k+1)
 cv:∀ q:Nat,(q:Int)<c.bn→cu s.jobs q≤c.cv
theorem lS {c:aI} (h:iH c=true):1≤c.nodes∧c.nodes≤6:=by
 unfold iH at h
 simp only [Bool.and_eq_true] at h
 exact bf h.1.1.1.1.1.1.1.1
theorem cm.len {c:aI} {s:ai} (h:cm c s):1≤s.nodes.length∧s.nodes.length≤6:=by
 have:=lS h.Ah
 have:=h.nodes
 omega
theorem p8 (i:Nat):hasB 0 i=false:=by simp [hasB]
theorem um (m:Int) (takes:bu→Bool):∀ (l:List bu) (i:Nat) (v:Int),(∀ k,k<l.length→1≤(l.getD k an).version)→
  (eC m takes l i v=true↔∃ u,(v=0∨u=v)∧∀ k,k<l.length→hasB m (i+k)=true→takes (l.getD k an)=true∧(l.getD k an).version=u)
 | [],i,v,_=>by
   simp only [eC,List.length_nil,true_iff]
   exact ⟨v,.inr rfl,fun k hk=>by omega⟩
 | n::l,i,v,hv=>by
   have h0:1≤n.version:=by simpa using hv 0 (by simp)
   have ih:=fun v=>um m takes l (i+1) v (fun k hk=>by simpa using hv (k+1) (by simpa using hk))
   have shift:∀ u,(∀ k,k<(n::l).length→hasB m (i+k)=true→takes ((n::l).getD k an)=true∧((n::l).getD k an).version=u)↔
     (hasB m i=true→takes n=true∧n.version=u)∧∀ k,k<l.length→hasB m (i+1+k)=true→takes (l.getD k an)=true∧(l.getD k an).version=u:=by
    intro u
    refine ⟨fun h=>⟨fun h1=>by simpa using h 0 (by simp) h1,fun k hk h1=>?_⟩,fun h k hk h1=>?_⟩
    ·have:=h (k+1) (by simpa using hk) (by rw [← h1]; congr 1; omega)
     simpa using this
    ·cases k with
     | zero=>simpa using h.1 h1
     | succ k=>
       have:=h.2 k (by simpa using hk) (by rw [← h1]; congr 1; omega)
       simpa using this
   unfold eC
   by_cases hb:hasB m i=false
   ·rw [if_pos hb,ih v]
    refine exists_congr fun u=>and_congr_right fun _=>?_
    rw [shift u]
    simp [hb]
   ·rw [if_neg hb]
    have hb':hasB m i=true:=by simpa using hb
    by_cases ht:takes n=true
    ·by_cases hq:n.version=(if v=0 then n.version else v)
     ·rw [if_pos ⟨ht,hq⟩,ih,← hq]
      constructor
      ·rintro ⟨u,h1,h2⟩
       have hu:u=n.version:=by omega
       refine ⟨u,?_,(shift u).2 ⟨fun _=>⟨ht,hu.symm⟩,h2⟩⟩
       by_cases h3:v=0
       ·exact .inl h3
       ·rw [if_neg h3] at hq; exact .inr (by omega)
      ·rintro ⟨u,h1,h2⟩
       obtain ⟨h3,h4⟩:=(shift u).1 h2
       exact ⟨u,.inr (h3 hb').2.symm,h4⟩
     ·rw [if_neg (fun h=>hq h.2)]
      refine ⟨fun h=>(by cases h),?_⟩
      rintro ⟨u,h1,h2⟩
      have h3:=((shift u).1 h2).1 hb'
      refine absurd ?_ hq
      by_cases h4:v=0
      ·rw [if_pos h4]
      ·rw [if_neg h4]; omega
    ·rw [if_neg (fun h=>ht h.1)]
     refine ⟨fun h=>(by cases h),?_⟩
     rintro ⟨u,h1,h2⟩
     exact absurd (((shift u).1 h2).1 hb').1 ht
theorem vv (ns:List bu) (j:ct) (m:Int) (takes:bu→Bool) (hv:∀ k,k<ns.length→1≤(ns.getD k an).version) :
  jE ns j m takes=true↔(0≤m∧m<2 ^ ns.length)∧(j.min≤many m∧many m≤j.max)∧∃ u,(j.ia=0∨u=j.ia)∧∀ k,k<ns.length→hasB m k=true→takes (ns.getD k an)=true∧(ns.getD k an).version=u:=by
 unfold jE
 by_cases h1:m<0∨2 ^ ns.length≤m
 ·rw [if_pos h1]
  refine ⟨fun h=>(by cases h),fun h=>?_⟩
  omega
 ·rw [if_neg h1]
  by_cases h2:aT (many m) j.min j.max=true
  ·rw [if_pos h2,um m takes ns 0 j.ia hv]
   have h3:=bf h2
   simp only [Nat.zero_add]
   exact ⟨fun h=>⟨by omega,h3,h⟩,fun h=>h.2.2⟩
  ·rw [if_neg h2]
   refine ⟨fun h=>(by cases h),fun h=>absurd ?_ h2⟩
   exact decide_eq_true h.2.1
theorem vI (c:aI) (s:ai) (j:ct) (number:Int) (hv:∀ k,k<s.nodes.length→1≤(s.nodes.getD k an).version) :
  g_ c s j number=true↔qB c j∧(d_ j.phase=true→s8 s.nodes j∧∀ i,i<s.nodes.length→hasB j.nodes i=true→kA number (eS s i)=true)∧(d_ j.phase=false→j.nodes=0):=by
 unfold g_
 simp only [Bool.and_eq_true]
 have key:(if d_ j.phase=true then jE s.nodes j j.nodes (kA number) else decide (j.nodes=0))=true↔(d_ j.phase=true→s8 s.nodes j∧∀ i,i<s.nodes.length→hasB j.nodes i=true→kA number (eS s i)=true)∧(d_ j.phase=false→j.nodes=0):=by
  cases hp:d_ j.phase with
  | true=>
    rw [if_pos rfl,vv _ _ _ _ hv]
    constructor
    ·rintro ⟨⟨a,b⟩,e,u,f,g⟩
     exact ⟨fun _=>⟨⟨a,b,e,u,f,fun i hi h=>(g i hi h).2⟩,fun i hi h=>(g i hi h).1⟩,fun h=>by cases h⟩
    ·rintro ⟨h,_⟩
     obtain ⟨⟨a,b,e,u,f,g⟩,h⟩:=h rfl
     exact ⟨⟨a,b⟩,e,u,f,fun i hi hb=>⟨h i hi hb,g i hi hb⟩⟩
  | false=>simp
 rw [key]
 constructor
 ·rintro ⟨⟨⟨⟨⟨⟨a,b⟩,d⟩,e⟩,f⟩,g⟩,h⟩
  exact ⟨⟨a,bf b,bf d,bf e,bf f,bf g⟩,h⟩
 ·rintro ⟨⟨a,b,d,e,f,g⟩,h⟩
  exact ⟨⟨⟨⟨⟨⟨a,decide_eq_true b⟩,decide_eq_true d⟩,decide_eq_true e⟩,decide_eq_true f⟩,decide_eq_true g⟩,h⟩
theorem lG (c:aI) (s:ai):∀ (l:List ct) (k:Nat),fm c s l k=true↔∀ i,i<l.length→g_ c s (l.getD i aK) ((k+i:Nat)+1)=true
 | [],k=>by simp [fm]
 | j::l,k=>by
   unfold fm
   rw [Bool.and_eq_true,lG c s l (k+1)]
   constructor
   ·rintro ⟨h1,h2⟩ i hi
    cases i with
    | zero=>simpa using h1
    | succ i=>
      have:=h2 i (by simpa using hi)
      rw [show k+(i+1)=k+1+i by omega]
      simpa using this
   ·intro h
    refine ⟨by simpa using h 0 (by simp),fun i hi=>?_⟩
    have:=h (i+1) (by simpa using hi)
    rw [show k+1+i=k+(i+1) by omega]
    simpa using this
theorem mK (s:ai):∀ (l:List bu) (k:Nat),fI s l k=true↔∀ i,i<l.length→mL s (l.getD i an) (k+i)=true
 | [],k=>by simp [fI]
 | j::l,k=>by
   unfold fI
   rw [Bool.and_eq_true,mK s l (k+1)]
   constructor
   ·rintro ⟨h1,h2⟩ i hi
    cases i with
    | zero=>simpa using h1
    | succ i=>
      have:=h2 i (by simpa using hi)
      rw [show k+(i+1)=k+1+i by omega]
      simpa using this
   ·intro h
    refine ⟨by simpa using h 0 (by simp),fun i hi=>?_⟩
    have:=h (i+1) (by simpa using hi)
    rw [show k+1+i=k+(i+1) by omega]
    simpa using this
theorem iE (c:aI) (s:ai):∀ (n q:Nat),di c s q n=true↔∀ i,i<n→cu s.jobs ((q+i:Nat):Int)≤c.cv
 | 0,q=>by simp [di]
 | n+1,q=>by
   unfold di
   rw [Bool.and_eq_true,iE c s n (q+1),Bool.not_eq_true',decide_eq_false_iff_not]
   constructor
   ·rintro ⟨h1,h2⟩ i hi
    cases i with
    | zero=>simpa using h1
    | succ i=>
      have:=h2 i (by omega)
      rw [show q+(i+1)=q+1+i by omega]
      exact this
   ·intro h
    refine ⟨by have:=h 0 (by omega); simpa using this,fun i hi=>?_⟩
    have:=h (i+1) (by omega)
    rw [show q+1+i=q+(i+1) by omega]
    exact this
theorem xT (s:ai) (n:bu) (i:Nat):mL s n i=true↔(1≤n.version∧n.version≤9)∧(0≤n.bW∧n.bW≤s.jobs.length)∧(n.aU=true→n.up=true∧n.bV=true∧n.bW=0)∧(n.bW≠0→hasB (s.jobs.getD (n.bW-1).toNat aK).nodes i=true):=by
 unfold mL aT
 cases n.aU <;> cases n.up <;> cases n.bV <;> by_cases h0:n.bW=0 <;> simp [h0,and_assoc]
theorem gA (c:aI) (s:ai):iy c s=true↔cm c s:=by
 unfold iy
 simp only [Bool.and_eq_true]
 constructor
 ·rintro ⟨⟨⟨⟨⟨⟨⟨⟨⟨h1,h2⟩,h3⟩,h4⟩,h5⟩,h6⟩,h7⟩,h8⟩,h9⟩,h10⟩
  rw [lG] at h8
  rw [mK] at h9
  rw [iE] at h10
  have h3:=of_decide_eq_true h3
  have hs:∀ i,i<s.nodes.length→_:=fun i hi=>(xT s (s.nodes.getD i an) i).1 (by simpa using h9 i hi)
  have hv:∀ k,k<s.nodes.length→1≤(s.nodes.getD k an).version:=fun k hk=>(hs k hk).1.1
  have hst:∀ i,i<s.jobs.length→_:=fun i hi=>(vI c s (s.jobs.getD i aK) (i+1) hv).1 (by simpa using h8 i hi)
  have qY:∀ i k,i<s.nodes.length→k<s.jobs.length→hasB (fJ s k).nodes i=true→kA (k+1) (eS s i)=true:=fun i k hi hk hb=>by
   cases hp:d_ (s.jobs.getD k aK).phase with
   | true=>exact ((hst k hk).2.1 hp).2 i hi hb
   | false=>
     have:=(hst k hk).2.2 hp
     unfold fJ at hb
     rw [this,p8] at hb; cases hb
  have hl2:∀ i k,i<s.nodes.length→k<s.jobs.length→(eS s i).bW=k+1→hasB (fJ s k).nodes i=true:=fun i k hi hk hj=>by
   have:=(hs i hi).2.2.2 (by unfold eS at hj; omega)
   unfold eS at hj
   rw [hj] at this
   simpa [fJ] using this
  refine ⟨h1,of_decide_eq_true h2,h3,bf h4,bf h5,bf h6,bf h7,fun k hk=>(hst k hk).1,fun k hk hp=>((hst k hk).2.1 hp).1,fun k hk hp=>(hst k hk).2.2 hp,fun i hi=>(hs i hi).1,fun i hi=>(hs i hi).2.1,fun i hi=>(hs i hi).2.2.1,fun i hi h0=>?_,fun i k hi hk=>⟨fun hb=>?_,hl2 i k hi hk⟩,fun q hq=>?_⟩
  ·have h:=(hs i hi).2.1
   have:=qY i ((eS s i).bW-1).toNat hi (by unfold eS at *; omega) (hl2 i _ hi (by unfold eS at *; omega) (by unfold eS at *; omega))
   simp only [kA,Bool.and_eq_true] at this
   exact this.1.1
  ·have:=qY i k hi hk hb
   simp only [kA,Bool.and_eq_true,decide_eq_true_eq] at this
   exact this.2
  ·have:=h10 q (by omega)
   simpa using this
 ·intro h
  have hv:∀ k,k<s.nodes.length→1≤(s.nodes.getD k an).version:=fun k hk=>(h.Hy k hk).1
  refine ⟨⟨⟨⟨⟨⟨⟨⟨⟨h.Ah,decide_eq_true h.nodes⟩,decide_eq_true h.jobs⟩,decide_eq_true h.goal⟩,decide_eq_true h.bH⟩,decide_eq_true h.mode⟩,decide_eq_true h.term⟩,?_⟩,?_⟩,?_⟩
  ·rw [lG]
   intro k hk
   rw [Nat.zero_add,vI _ _ _ _ hv]
   refine ⟨h.num k hk,fun hp=>⟨h.mO k hk hp,fun i hi hb=>?_⟩,h.idle k hk⟩
   have hj:=(h.link i k hi hk).1 hb
   have hm:(eS s i).aU=false:=by
    cases hm:(eS s i).aU with
    | false=>rfl
    | true=>have:=(h.aU i hi hm).2.2; omega
   simp only [kA,Bool.and_eq_true,decide_eq_true_eq,hm,h.up i hi (by omega),hj,Bool.not_false,and_self]
  ·rw [mK]
   intro i hi
   rw [Nat.zero_add,xT]
   refine ⟨h.Hy i hi,h.bW i hi,h.aU i hi,fun h0=>?_⟩
   have hj:=h.bW i hi
   have:=(h.link i ((eS s i).bW-1).toNat hi (by unfold eS at *; omega)).2 (by unfold eS at *; omega)
   exact this
  ·rw [iE]
   intro i hi
   have:=h.cv i (by omega)
   simpa using this
end Dv
namespace Dv
def nH (ns:List bu) (m ia:Int):Nat→Nat→Int→Bool
 | 0,_,_=>true
 | f+1,i,v=>if hasB m i=false then nH ns m ia f (i+1) v
   else if ns.length≤i then false
   else if (v≠0∧(ns.getD i an).version≠v)∨(ia≠0∧(ns.getD i an).version≠ia) then false
   else nH ns m ia f (i+1) (ns.getD i an).version
def iA (ns:List bu) (j:ct) (m:Int):Bool:=
 if m<0∨64≤m∨many m<j.min∨j.max<many m then false else nH ns m j.ia 6 0 0
def yE (s:ai) (n:bu):Bool:=aT n.version 1 9&&aT n.bW 0 s.jobs.length&&!(n.aU&&!(n.up&&n.bV&&decide (n.bW=0)))
def mS (s:ai):List bu→Bool
 | []=>true
 | n::l=>yE s n&&mS s l
def sK (j:ct) (k:Nat) (n:bu) (i:Nat):Bool:=decide (decide (n.bW=k+1)=hasB j.nodes i)&&!(decide (n.bW=k+1)&&(!n.up||n.aU))
def mw (j:ct) (k:Nat):List bu→Nat→Bool
 | [],_=>true
 | n::l,i=>sK j k n i&&mw j k l (i+1)
def D3 (c:aI) (j:ct):Bool:=gV c j&&aT j.phase 0 4&&aT j.inc 0 1000000&&aT j.since 0 1000000&&aT j.mI 0 1000000&&aT j.cK 0 j.inc
def El (c:aI) (s:ai) (j:ct) (k:Nat):Bool:=D3 c j&&(if d_ j.phase=true then iA s.nodes j j.nodes else decide (j.nodes=0))&&mw j k s.nodes 0
def iQ (c:aI) (s:ai):List ct→Nat→Bool
 | [],_=>true
 | j::l,k=>El c s j k&&iQ c s l (k+1)
def kP (c:aI) (s:ai):Bool:=
 iH c&&decide ((s.nodes.length:Int)=c.nodes)&&decide (s.jobs.length≤24)&&aT s.goal 1 9&&aT s.bH 1 9&&aT s.mode 0 2&&aT s.term 0 1000000&&
 mS s s.nodes&&di c s 0 c.bn.toNat&&iQ c s s.jobs 0
theorem Bt (ns:List bu) (m ia:Int):∀ (f i:Nat) (v:Int),(∀ k,k<ns.length→1≤(ns.getD k an).version)→
  (nH ns m ia f i v=true↔∃ u,(v=0∨u=v)∧∀ k,i≤k→k<i+f→hasB m k=true→k<ns.length∧(ns.getD k an).version=u∧(ia=0∨(ns.getD k an).version=ia))
 | 0,i,v,_=>by
   simp only [nH,true_iff]
   exact ⟨v,.inr rfl,fun k h1 h2=>by omega⟩
 | f+1,i,v,hv=>by
   have ih:=fun v=>Bt ns m ia f (i+1) v hv
   have shift:∀ u,(∀ k,i≤k→k<i+(f+1)→hasB m k=true→k<ns.length∧(ns.getD k an).version=u∧(ia=0∨(ns.getD k an).version=ia))↔
     (hasB m i=true→i<ns.length∧(ns.getD i an).version=u∧(ia=0∨(ns.getD i an).version=ia))∧∀ k,i+1≤k→k<i+1+f→hasB m k=true→k<ns.length∧(ns.getD k an).version=u∧(ia=0∨(ns.getD k an).version=ia):=by
    intro u
    refine ⟨fun h=>⟨fun hb=>h i (by omega) (by omega) hb,fun k h1 h2=>h k (by omega) (by omega)⟩,fun h k h1 h2=>?_⟩
    by_cases hk:k=i
    ·subst hk; exact h.1
    ·exact h.2 k (by omega) (by omega)
   unfold nH
   by_cases hb:hasB m i=false
   ·rw [if_pos hb,ih v]
    refine exists_congr fun u=>and_congr_right fun _=>?_
    rw [shift u]
    simp [hb]
   ·rw [if_neg hb]
    have hb':hasB m i=true:=by simpa using hb
    by_cases hl:ns.length≤i
    ·rw [if_pos hl]
     refine ⟨fun h=>(by cases h),?_⟩
     rintro ⟨u,h1,h2⟩
     have:=(((shift u).1 h2).1 hb').1
     omega
    ·rw [if_neg hl]
     have h0:=hv i (by omega)
     by_cases hq:(v≠0∧(ns.getD i an).version≠v)∨(ia≠0∧(ns.getD i an).version≠ia)
     ·rw [if_pos hq]
      refine ⟨fun h=>(by cases h),?_⟩
      rintro ⟨u,h1,h2⟩
      have:=((shift u).1 h2).1 hb'
      omega
     ·rw [if_neg hq,ih]
      constructor
      ·rintro ⟨u,h1,h2⟩
       exact ⟨u,by omega,(shift u).2 ⟨fun _=>⟨by omega,by omega,by omega⟩,h2⟩⟩
      ·rintro ⟨u,h1,h2⟩
       obtain ⟨h3,h4⟩:=(shift u).1 h2
       have:=h3 hb'
       exact ⟨u,by omega,h4⟩
theorem Kv (m n:Nat) (hm:m<64) (hn:n≤6):m<2 ^ n↔∀ i,i<6→hasB (m:Int) i=true→i<n:=by
 have:∀ n:Nat,n≤6→∀ m:Nat,m<64→(m<2 ^ n↔∀ i,i<6→hasB (m:Int) i=true→i<n):=by decide +kernel
 exact this n hn m hm
theorem sS (ns:List bu) (j:ct) (m:Int) (hn:ns.length≤6) (hv:∀ k,k<ns.length→1≤(ns.getD k an).version) :
  iA ns j m=true↔(0≤m∧m<2 ^ ns.length)∧(j.min≤many m∧many m≤j.max)∧∃ u,(j.ia=0∨u=j.ia)∧∀ k,k<ns.length→hasB m k=true→(ns.getD k an).version=u:=by
 unfold iA
 have hp:∀ n:Nat,n≤6→(2:Int) ^ n≤64:=fun n hn=>tD n hn
 by_cases h1:m<0∨64≤m∨many m<j.min∨j.max<many m
 ·rw [if_pos h1]
  refine ⟨fun h=>(by cases h),fun h=>?_⟩
  have:=hp _ hn
  omega
 ·rw [if_neg h1,Bt ns m j.ia 6 0 0 hv]
  obtain ⟨q,rfl⟩:=Int.eq_ofNat_of_zero_le (show 0≤m by omega)
  have hq:=Kv q ns.length (by omega) hn
  have hc:((q:Int)<2 ^ ns.length)↔q<2 ^ ns.length:=by
   rw [← Int.ofNat_lt,Int.natCast_pow]; rfl
  rw [hc,hq]
  constructor
  ·rintro ⟨u,_,h⟩
   refine ⟨⟨by omega,fun i hi hb=>(h i (by omega) (by omega) hb).1⟩,by omega,if j.ia=0 then u else j.ia,?_,fun k hk hb=>?_⟩
   ·by_cases h0:j.ia=0
    ·exact .inl h0
    ·exact .inr (if_neg h0)
   ·have:=h k (by omega) (by omega) hb
    split <;> omega
  ·rintro ⟨⟨_,h1⟩,_,u,h2,h3⟩
   refine ⟨u,.inl rfl,fun k _ hk hb=>?_⟩
   have h4:=h1 k (by omega) hb
   have h5:=h3 k h4 hb
   exact ⟨h4,h5,by omega⟩
theorem sI (s:ai):∀ (l:List bu),mS s l=true↔∀ i,i<l.length→yE s (l.getD i an)=true
 | []=>by simp [mS]
 | n::l=>by
   unfold mS
   rw [Bool.and_eq_true,sI s l]
   constructor
   ·rintro ⟨h1,h2⟩ i hi
    cases i with
    | zero=>simpa using h1
    | succ i=>simpa using h2 i (by simpa using hi)
   ·intro h
    exact ⟨by simpa using h 0 (by simp),fun i hi=>by simpa using h (i+1) (by simpa using hi)⟩
theorem vh (j:ct) (k:Nat):∀ (l:List bu) (q:Nat),mw j k l q=true↔∀ i,i<l.length→sK j k (l.getD i an) (q+i)=true
 | [],q=>by simp [mw]
 | n::l,q=>by
   unfold mw
   rw [Bool.and_eq_true,vh j k l (q+1)]
   constructor
   ·rintro ⟨h1,h2⟩ i hi
    cases i with
    | zero=>simpa using h1
    | succ i=>
      have:=h2 i (by simpa using hi)
      rw [show q+(i+1)=q+1+i by omega]
      simpa using this
   ·intro h
    refine ⟨by simpa using h 0 (by simp),fun i hi=>?_⟩
    have:=h (i+1) (by simpa using hi)
    rw [show q+1+i=q+(i+1) by omega]
    simpa using this
theorem sL (c:aI) (s:ai):∀ (l:List ct) (q:Nat),iQ c s l q=true↔∀ i,i<l.length→El c s (l.getD i aK) (q+i)=true
 | [],q=>by simp [iQ]
 | n::l,q=>by
   unfold iQ
   rw [Bool.and_eq_true,sL c s l (q+1)]
   constructor
   ·rintro ⟨h1,h2⟩ i hi
    cases i with
    | zero=>simpa using h1
    | succ i=>
      have:=h2 i (by simpa using hi)
      rw [show q+(i+1)=q+1+i by omega]
      simpa using this
   ·intro h
    refine ⟨by simpa using h 0 (by simp),fun i hi=>?_⟩
    have:=h (i+1) (by simpa using hi)
    rw [show q+1+i=q+(i+1) by omega]
    simpa using this
theorem sJ (s:ai) (n:bu):yE s n=true↔(1≤n.version∧n.version≤9)∧(0≤n.bW∧n.bW≤s.jobs.length)∧(n.aU=true→n.up=true∧n.bV=true∧n.bW=0):=by
 unfold yE aT
 cases n.aU <;> cases n.up <;> cases n.bV <;> by_cases h0:n.bW=0 <;> simp [h0]
theorem yM (j:ct) (k:Nat) (n:bu) (i:Nat):sK j k n i=true↔(hasB j.nodes i=true↔n.bW=k+1)∧(n.bW=k+1→n.up=true∧n.aU=false):=by
 unfold sK
 cases n.aU <;> cases n.up <;> cases hasB j.nodes i <;> by_cases h0:n.bW=k+1 <;> simp [h0]
theorem AS (c:aI) (j:ct):D3 c j=true↔qB c j:=by
 unfold D3
 simp only [Bool.and_eq_true]
 constructor
 ·rintro ⟨⟨⟨⟨⟨a,b⟩,d⟩,e⟩,f⟩,g⟩
  exact ⟨a,bf b,bf d,bf e,bf f,bf g⟩
 ·rintro ⟨a,b,d,e,f,g⟩
  exact ⟨⟨⟨⟨⟨a,decide_eq_true b⟩,decide_eq_true d⟩,decide_eq_true e⟩,decide_eq_true f⟩,decide_eq_true g⟩
theorem FZ (c:aI) (s:ai):kP c s=true↔cm c s:=by
 unfold kP
 simp only [Bool.and_eq_true]
 constructor
 ·rintro ⟨⟨⟨⟨⟨⟨⟨⟨⟨h1,h2⟩,h3⟩,h4⟩,h5⟩,h6⟩,h7⟩,h9⟩,h10⟩,h8⟩
  rw [sL] at h8
  rw [sI] at h9
  rw [iE] at h10
  have h2:=of_decide_eq_true h2
  have h3:=of_decide_eq_true h3
  have hmn:=lS h1
  have hs:∀ i,i<s.nodes.length→_:=fun i hi=>(sJ s (s.nodes.getD i an)).1 (h9 i hi)
  have hv:∀ k,k<s.nodes.length→1≤(s.nodes.getD k an).version:=fun k hk=>(hs k hk).1.1
  have hj:∀ k,k<s.jobs.length→qB c (fJ s k)∧(if d_ (fJ s k).phase=true then iA s.nodes (fJ s k) (fJ s k).nodes else decide ((fJ s k).nodes=0))=true∧
    ∀ i,i<s.nodes.length→(hasB (fJ s k).nodes i=true↔(eS s i).bW=k+1)∧((eS s i).bW=k+1→(eS s i).up=true∧(eS s i).aU=false):=fun k hk=>by
   have:=h8 k hk
   unfold El at this
   simp only [Bool.and_eq_true] at this
   rw [AS,vh] at this
   refine ⟨this.1.1,this.1.2,fun i hi=>?_⟩
   have h:=this.2 i hi
   rw [yM] at h
   simpa [fJ,eS] using h
  refine ⟨h1,h2,h3,bf h4,bf h5,bf h6,bf h7,fun k hk=>(hj k hk).1,fun k hk hp=>?_,fun k hk hp=>?_,fun i hi=>(hs i hi).1,fun i hi=>(hs i hi).2.1,fun i hi=>(hs i hi).2.2,fun i hi h0=>?_,fun i k hi hk=>((hj k hk).2.2 i hi).1,fun q hq=>?_⟩
  ·have:=(hj k hk).2.1
   rw [if_pos hp,sS _ _ _ (by omega) hv] at this
   obtain ⟨⟨a,b⟩,d,e⟩:=this
   exact ⟨a,b,d,e⟩
  ·have:=(hj k hk).2.1
   rw [if_neg (by simp [hp])] at this
   exact of_decide_eq_true this
  ·have hb:=(hs i hi).2.1
   have:=(hj ((eS s i).bW-1).toNat (by unfold eS at *; omega)).2.2 i hi
   exact (this.2 (by unfold eS at *; omega)).1
  ·have:=h10 q (by omega)
   simpa using this
 ·intro h
  have hv:∀ k,k<s.nodes.length→1≤(s.nodes.getD k an).version:=fun k hk=>(h.Hy k hk).1
  refine ⟨⟨⟨⟨⟨⟨⟨⟨⟨h.Ah,decide_eq_true h.nodes⟩,decide_eq_true h.jobs⟩,decide_eq_true h.goal⟩,decide_eq_true h.bH⟩,decide_eq_true h.mode⟩,decide_eq_true h.term⟩,?_⟩,?_⟩,?_⟩
  ·rw [sI]
   intro i hi
   rw [sJ]
   exact ⟨h.Hy i hi,h.bW i hi,h.aU i hi⟩
  ·rw [iE]
   intro i hi
   have:=h.cv i (by omega)
   simpa using this
  ·rw [sL]
   intro k hk
   unfold El
   simp only [Bool.and_eq_true]
   rw [AS,vh]
   refine ⟨⟨h.num k hk,?_⟩,fun i hi=>?_⟩
   ·cases hp:d_ (s.jobs.getD k aK).phase with
    | true=>
      rw [if_pos rfl,sS _ _ _ h.len.2 hv]
      obtain ⟨a,b,d,e⟩:=h.mO k hk hp
      exact ⟨⟨a,b⟩,d,e⟩
    | false=>
      rw [if_neg (by simp)]
      exact decide_eq_true (h.idle k hk hp)
   ·rw [yM,Nat.zero_add,Nat.zero_add]
    refine ⟨h.link i k hi hk,fun hj=>⟨h.up i hi (by unfold eS; omega),?_⟩⟩
    cases hm:(s.nodes.getD i an).aU with
    | false=>rfl
    | true=>have:=(h.aU i hi hm).2.2; unfold eS at this; omega
theorem AF (c:aI) (s:ai):iy c s=kP c s:=by
 rw [Bool.eq_iff_iff,gA,FZ]
def er (s:ai) (bW phase:Int):ai:=
 { s with jobs:=s.jobs.set (bW-1).toNat { bG s bW with phase:=phase,nodes:=0,since:=0,mI:=0 },nodes:=s.nodes.mapIdx (lets bW) }
def fu (bits:Int):List bu→Nat→Bool
 | [],_=>true
 | n::l,i=>(!hasB bits i||jr n)&&fu bits l (i+1)
def zM (s:ai) (o:dH):Bool:=
 let j:=bG s o.a
 let n:=bg s o.a
 if o.kind=2 then j.phase !=4 else if o.kind=4 then s.mode==0 else if o.kind=5 then s.mode==1 else if o.kind=6 then s.mode !=2
 else if o.kind=7 then n.up else if o.kind=8 then !n.up else if o.kind=9 then j.phase==0 else if o.kind=10∨o.kind=11 then j.phase==1
 else if o.kind=12∨o.kind=20 then j.phase==2 else if o.kind=13∨o.kind=15 then kG j else if o.kind=14 then j.phase==3
 else if o.kind=16 then n.up&&!n.bV else if o.kind=17 then n.bV&&!n.aU else if o.kind=18 then n.up&&n.bV&&!n.aU&&decide (n.bW=0)
 else if o.kind=19 then n.aU else false
def dJ (c:aI) (s:ai) (o:dH):Int:=
 if dX o=false then 1
 else if o.kind=1 then (if gV c (gD o)=false then 1 else if s.jobs.length=24 then 3 else 0)
 else if o.kind=21 then (if s.term=1000000 then 3 else 0)
 else if iz o.kind=true∧(o.a<1∨(s.jobs.length:Int)<o.a) then 4
 else if fe o.kind=true∧(s.nodes.length:Int)≤o.a then 4
 else if o.kind=3 then (if aT o.a 1 9=false then 1 else 0)
 else if (o.kind=8∨o.kind=19)∧aT o.b 1 9=false then 1
 else if o.kind=20∧(s.nodes.length:Int)≤o.b then 4
 else if zM s o=false then 5
 else if o.kind=9∧¬ (iA s.nodes (bG s o.a) o.b=true∧(bG s o.a).inc<1000000∧fu o.b s.nodes 0=true) then 8
 else if o.kind=12∧c.cv≤cu s.jobs (bG s o.a).queue then 7
 else if o.kind=13∧(o.b≠(bG s o.a).inc∨o.b≤(bG s o.a).cK) then 6
 else if o.kind=20∧(hasB (bG s o.a).nodes o.b.toNat=false∨many (bG s o.a).nodes≤(bG s o.a).min) then 8
 else 0
def fS (m:Int) (b:Int):Nat→Int
 | 0=>0
 | k+1=>fS m b k+if hasB m k=true∧(k:Int)≠b then 2 ^ k else 0
def mD (s:ai) (o:dH):ai:=
 let j:=bG s o.a
 let n:=bg s o.a
 if o.kind=1 then { s with jobs:=s.jobs++[gD o] }
 else if o.kind=2∨o.kind=15 then er s o.a 4
 else if o.kind=3 then { s with bH:=nt s,goal:=o.a,mode:=0 }
 else if o.kind=4 then { s with mode:=1 } else if o.kind=5 then { s with mode:=0 } else if o.kind=6 then { s with mode:=2 }
 else if o.kind=7 then
  let t:=if 0<n.bW then er s n.bW 0 else s
  fo t o.a { bg t o.a with up:=false,aU:=false }
 else if o.kind=8 then fo s o.a { n with up:=true,version:=o.b }
 else if o.kind=9 then { eN s o.a { j with phase:=1,inc:=j.inc+1,nodes:=o.b } with nodes:=s.nodes.mapIdx (eG o.b o.a) }
 else if o.kind=10 then eN s o.a { j with phase:=2,since:=o.b }
 else if o.kind=11∨o.kind=14 then er s o.a 0
 else if o.kind=12 then eN s o.a { j with phase:=3,mI:=o.b }
 else if o.kind=13 then eN s o.a { j with cK:=o.b }
 else if o.kind=16 then fo s o.a { n with bV:=true }
 else if o.kind=17 then fo s o.a { n with bV:=false }
 else if o.kind=18 then fo s o.a { n with aU:=true }
 else if o.kind=19 then fo s o.a { n with aU:=false,bV:=false,version:=o.b }
 else if o.kind=20 then fo (eN s o.a { j with nodes:=fS j.nodes o.b 6 }) o.b { bg s o.b with bW:=0 }
 else if o.kind=21 then { s with term:=s.term+1 }
 else s
def oB (c:aI) (s:ai) (o:dH):ai×Int:=if dJ c s o≠0 then (s,dJ c s o) else (mD s o,0)
end Dv
namespace Dv
theorem zf {α:Type} (l:List α) (k i:Nat) (x z:α) (h:k<l.length):(l.set k x).getD i z=if i=k then x else l.getD i z:=by
 by_cases hi:i=k
 ·subst hi; simp [List.getD,h]
 ·rw [if_neg hi]; simp [List.getD,List.getElem?_set_ne (fun e=>hi e.symm)]
theorem mA {α:Type} (l:List α) (g:Nat→α→α) (i:Nat) (z:α) (h:i<l.length):(l.mapIdx g).getD i z=g i (l.getD i z):=by
 simp [List.getD,h]
def Cp (q:Int) (j:ct):Bool:=decide (j.queue=q)&&decide (j.phase=3)
theorem uq (j:ct) (l:List ct) (q:Int):cu (j::l) q=(if Cp q j then 1 else 0)+cu l q:=by
 unfold cu
 have:(fun j:ct=>decide (j.queue=q)&&decide (j.phase=3))=Cp q:=rfl
 rw [this]
 cases h:Cp q j
 ·simp [List.filter_cons,h]
 ·simp [List.filter_cons,h]; omega
theorem wm (q:Int) (j':ct):∀ (l:List ct) (k:Nat),k<l.length→cu (l.set k j') q+(if Cp q (l.getD k aK) then 1 else 0)=cu l q+(if Cp q j' then 1 else 0)
 | [],k,h=>by simp at h
 | j::l,0,_=>by
   simp only [List.set_cons_zero,uq,List.getD_cons_zero]
   omega
 | j::l,k+1,h=>by
   have:=wm q j' l k (by simpa using h)
   simp only [List.set_cons_succ,uq,List.getD_cons_succ]
   omega
theorem zw (q:Int) (j:ct) (l:List ct):cu (l++[j]) q=cu l q+(if Cp q j then 1 else 0):=by
 rw [ou]
 unfold Cp
 by_cases h1:j.queue=q <;> by_cases h2:j.phase=3 <;> simp [h1,h2]
structure mH (c:aI) (s:ai) (k0:Nat) (j':ct) (ns':List bu):Prop where
 hk:k0<s.jobs.length
 num:qB c j'
 fixed:j'.queue=(fJ s k0).queue∧j'.prio=(fJ s k0).prio∧j'.min=(fJ s k0).min∧j'.max=(fJ s k0).max∧j'.work=(fJ s k0).work∧j'.ia=(fJ s k0).ia
 grow:(fJ s k0).inc≤j'.inc∧(fJ s k0).cK≤j'.cK
 ended:(fJ s k0).phase≠4
 len:ns'.length=s.nodes.length
 same:∀ i,i<s.nodes.length→(ns'.getD i an).up=(eS s i).up∧(ns'.getD i an).bV=(eS s i).bV∧(ns'.getD i an).aU=(eS s i).aU∧(ns'.getD i an).version=(eS s i).version
 mO:d_ j'.phase=true→s8 s.nodes j'
 idle:d_ j'.phase=false→j'.nodes=0
 link:∀ i,i<s.nodes.length→(hasB j'.nodes i=true↔(ns'.getD i an).bW=k0+1)
 others:∀ i k,i<s.nodes.length→k<s.jobs.length→k≠k0→((ns'.getD i an).bW=k+1↔(eS s i).bW=k+1)
 range:∀ i,i<s.nodes.length→0≤(ns'.getD i an).bW∧(ns'.getD i an).bW≤s.jobs.length
 use:∀ i,i<s.nodes.length→(ns'.getD i an).bW≠0→(eS s i).up=true∧(eS s i).aU=false
 cv:j'.phase=3→(fJ s k0).phase=3∨cu s.jobs (fJ s k0).queue<c.cv
structure uI (s:ai) (i0:Nat) (n':bu):Prop where
 hi:i0<s.nodes.length
 Hy:1≤n'.version∧n'.version≤9
 bW:n'.bW=(eS s i0).bW
 keep:(eS s i0).bW≠0→n'.version=(eS s i0).version
 aU:n'.aU=true→n'.up=true∧n'.bV=true∧n'.bW=0
 up:n'.bW≠0→n'.up=true
structure IX (s:ai) (g p m t:Int):Prop where
 goal:1≤g∧g≤9
 bH:1≤p∧p≤9
 mode:0≤m∧m≤2
 term:s.term≤t∧t≤1000000
structure Fq (c:aI) (s:ai) (j:ct):Prop where
 len:s.jobs.length<24
 num:qB c j
 phase:j.phase=0
 nodes:j.nodes=0
inductive Step (c:aI) (s:ai):ai→Prop where
 | num {g p m t:Int} (h:IX s g p m t):Step c s { s with goal:=g,bH:=p,mode:=m,term:=t }
 | bW {k0:Nat} {j':ct} {ns':List bu} (h:mH c s k0 j' ns'):Step c s { s with nodes:=ns',jobs:=s.jobs.set k0 j' }
 | node {i0:Nat} {n':bu} (h:uI s i0 n'):Step c s { s with nodes:=s.nodes.set i0 n' }
 | both {k0:Nat} {j':ct} {ns':List bu} {i0:Nat} {n':bu} (h:mH c s k0 j' ns') (h2:uI { s with nodes:=ns',jobs:=s.jobs.set k0 j' } i0 n'):Step c s { s with nodes:=ns'.set i0 n',jobs:=s.jobs.set k0 j' }
 | more {j:ct} (h:Fq c s j):Step c s { s with jobs:=s.jobs++[j] }
section
variable {c:aI} {s:ai}
theorem s8.of {ns ns':List bu} {j:ct} (h:s8 ns j) (hl:ns'.length=ns.length) (hv:∀ i,i<ns.length→hasB j.nodes i=true→(ns'.getD i an).version=(ns.getD i an).version):s8 ns' j:=by
 obtain ⟨a,b,d,u,e,f⟩:=h
 refine ⟨a,by rw [hl]; exact b,d,u,e,fun i hi hb=>?_⟩
 rw [hl] at hi
 rw [hv i hi hb]; exact f i hi hb
theorem cm.yT (h:cm c s) {k0:Nat} {j':ct} {ns':List bu} (q:mH c s k0 j' ns'):cm c { s with nodes:=ns',jobs:=s.jobs.set k0 j' }:=by
 have hlj:(s.jobs.set k0 j').length=s.jobs.length:=by simp
 have hjo:∀ k,fJ { s with nodes:=ns',jobs:=s.jobs.set k0 j' } k=if k=k0 then j' else fJ s k:=fun k=>zf _ _ _ _ _ q.hk
 have hno:∀ i,eS { s with nodes:=ns',jobs:=s.jobs.set k0 j' } i=ns'.getD i an:=fun i=>rfl
 refine ⟨h.Ah,by rw [← h.nodes]; exact congrArg _ q.len,by dsimp only; rw [hlj]; exact h.jobs,h.goal,h.bH,h.mode,h.term,fun k hk=>?_,fun k hk hp=>?_,fun k hk hp=>?_,fun i hi=>?_,fun i hi=>?_,fun i hi hm=>?_,fun i hi h0=>?_,fun i k hi hk=>?_,fun p hp=>?_⟩
 ·dsimp only at hk; rw [hlj] at hk; rw [hjo]; split
  ·exact q.num
  ·exact h.num k hk
 ·dsimp only at hk; rw [hlj] at hk; rw [hjo] at hp ⊢; dsimp only
  split
  ·rename_i e; rw [if_pos e] at hp
   exact (q.mO hp).of q.len fun i hi _=>(q.same i hi).2.2.2
  ·rename_i e; rw [if_neg e] at hp
   exact (h.mO k hk hp).of q.len fun i hi _=>(q.same i hi).2.2.2
 ·dsimp only at hk; rw [hlj] at hk; rw [hjo] at hp ⊢
  split
  ·rename_i e; rw [if_pos e] at hp; exact q.idle hp
  ·rename_i e; rw [if_neg e] at hp; exact h.idle k hk hp
 ·dsimp only at hi; rw [q.len] at hi; rw [hno,(q.same i hi).2.2.2]; exact h.Hy i hi
 ·dsimp only at hi ⊢; rw [q.len] at hi; rw [hno,hlj]; exact q.range i hi
 ·dsimp only at hi; rw [q.len] at hi; rw [hno] at hm ⊢
  obtain ⟨a,b,d,_⟩:=q.same i hi
  rw [d] at hm
  have:=h.aU i hi hm
  rw [a,b]
  refine ⟨this.1,this.2.1,?_⟩
  by_cases h0:(ns'.getD i an).bW=0
  ·exact h0
  ·have:=(q.use i hi h0).2; rw [hm] at this; cases this
 ·dsimp only at hi; rw [q.len] at hi; rw [hno] at h0 ⊢
  rw [(q.same i hi).1]; exact (q.use i hi h0).1
 ·dsimp only at hi hk; rw [q.len] at hi; rw [hlj] at hk; rw [hno,hjo]
  split
  ·rename_i e; subst e; exact q.link i hi
  ·rename_i e; rw [q.others i k hi hk e]; exact h.link i k hi hk
 ·have h1:=wm p j' s.jobs k0 q.hk
  have h2:=h.cv p hp
  have h3:=q.fixed.1
  have h4:=q.cv
  dsimp only
  unfold fJ at h3 h4
  generalize s.jobs.getD k0 aK=j at *
  unfold Cp at h1
  by_cases e1:j'.queue=p
  ·have e2:j.queue=p:=by omega
   by_cases e3:j'.phase=3
   ·rcases h4 e3 with e4 | e4
    ·simp only [e1,e2,e3,e4,decide_true,Bool.and_true,if_true] at h1; omega
    ·by_cases e5:j.phase=3
     ·simp only [e1,e2,e3,e5,decide_true,Bool.and_true,if_true] at h1; omega
     ·simp only [e1,e2,e3,e5,decide_true,decide_false,Bool.and_true,Bool.and_false,if_true] at h1
      rw [e2] at e4
      simp at h1
      omega
   ·simp [e1,e2,e3] at h1
    split at h1 <;> omega
  ·have e2:j.queue≠p:=by omega
   simp [e1,e2] at h1
   omega
theorem cm.AV (h:cm c s) {i0:Nat} {n':bu} (q:uI s i0 n'):cm c { s with nodes:=s.nodes.set i0 n' }:=by
 have rD:(s.nodes.set i0 n').length=s.nodes.length:=by simp
 have hno:∀ k,eS { s with nodes:=s.nodes.set i0 n' } k=if k=i0 then n' else eS s k:=fun k=>zf _ _ _ _ _ q.hi
 have hjo:∀ i,fJ { s with nodes:=s.nodes.set i0 n' } i=fJ s i:=fun i=>rfl
 refine ⟨h.Ah,by dsimp only; rw [rD]; exact h.nodes,h.jobs,h.goal,h.bH,h.mode,h.term,h.num,fun k hk hp=>?_,h.idle,fun i hi=>?_,fun i hi=>?_,fun i hi hm=>?_,fun i hi h0=>?_,fun i k hi hk=>?_,h.cv⟩
 ·refine (h.mO k hk hp).of rD fun i hi hb=>?_
  have:=hno i
  unfold eS at this
  dsimp only at this ⊢
  rw [this]
  split
  ·rename_i e; subst e
   have hj:=(h.link i k hi hk).1 hb
   exact q.keep (by omega)
  ·rfl
 ·dsimp only at hi; rw [rD] at hi; rw [hno]; split
  ·exact q.Hy
  ·exact h.Hy i hi
 ·dsimp only at hi; rw [rD] at hi; rw [hno]; split
  ·rename_i e; subst e; rw [q.bW]; exact h.bW i hi
  ·exact h.bW i hi
 ·dsimp only at hi; rw [rD] at hi; rw [hno] at hm ⊢
  by_cases e:i=i0
  ·rw [if_pos e] at hm ⊢; exact q.aU hm
  ·rw [if_neg e] at hm ⊢; exact h.aU i hi hm
 ·dsimp only at hi; rw [rD] at hi; rw [hno] at h0 ⊢
  by_cases e:i=i0
  ·rw [if_pos e] at h0 ⊢; exact q.up h0
  ·rw [if_neg e] at h0 ⊢; exact h.up i hi h0
 ·dsimp only at hi hk; rw [rD] at hi; rw [hno,hjo]
  split
  ·rename_i e; subst e; rw [q.bW]; exact h.link i k hi hk
  ·exact h.link i k hi hk
theorem cm.MC (h:cm c s) {g p m t:Int} (q:IX s g p m t):cm c { s with goal:=g,bH:=p,mode:=m,term:=t }:=
 ⟨h.Ah,h.nodes,h.jobs,q.goal,q.bH,q.mode,⟨by have:=h.term; have:=q.term; dsimp only; omega,q.term.2⟩,h.num,h.mO,h.idle,h.Hy,h.bW,h.aU,h.up,h.link,h.cv⟩
theorem KC (l:List ct) (j:ct) (k:Nat):(l++[j]).getD k aK=if k<l.length then l.getD k aK else if k=l.length then j else aK:=by
 by_cases h:k<l.length
 ·rw [if_pos h]; simp [List.getD,List.getElem?_append_left h]
 ·rw [if_neg h]
  by_cases e:k=l.length
  ·rw [if_pos e]; subst e; simp
  ·rw [if_neg e]; simp [List.getD,List.getElem?_append_right (show l.length≤k by omega)]
   rw [List.getElem?_eq_none (by simp; omega)]; rfl
theorem cm.JK (h:cm c s) {j:ct} (q:Fq c s j):cm c { s with jobs:=s.jobs++[j] }:=by
 have hjo:∀ k,k<(s.jobs++[j]).length→fJ { s with jobs:=s.jobs++[j] } k=if k<s.jobs.length then fJ s k else j:=fun k hk=>by
  unfold fJ
  dsimp only
  rw [KC]
  simp at hk
  by_cases e:k<s.jobs.length
  ·rw [if_pos e,if_pos e]
  ·rw [if_neg e,if_neg e,if_pos (by omega)]
 have hlen:(s.jobs++[j]).length=s.jobs.length+1:=by simp
 refine ⟨h.Ah,h.nodes,by dsimp only; rw [hlen]; have:=q.len; omega,h.goal,h.bH,h.mode,h.term,fun k hk=>?_,fun k hk hp=>?_,fun k hk hp=>?_,h.Hy,fun i hi=>?_,h.aU,h.up,fun i k hi hk=>?_,fun p hp=>?_⟩
 ·rw [hjo k hk]; split
  ·rename_i e; exact h.num k e
  ·exact q.num
 ·rw [hjo k hk] at hp ⊢
  by_cases e:k<s.jobs.length
  ·rw [if_pos e] at hp ⊢; exact h.mO k e hp
  ·rw [if_neg e,q.phase] at hp; cases hp
 ·rw [hjo k hk] at hp ⊢
  by_cases e:k<s.jobs.length
  ·rw [if_pos e] at hp ⊢; exact h.idle k e hp
  ·rw [if_neg e]; exact q.nodes
 ·have:=h.bW i hi
  have e:eS { s with jobs:=s.jobs++[j] } i=eS s i:=rfl
  dsimp only
  rw [hlen,e]
  omega
 ·rw [hjo k hk]
  have e:eS { s with jobs:=s.jobs++[j] } i=eS s i:=rfl
  rw [e]
  by_cases e:k<s.jobs.length
  ·rw [if_pos e]; exact h.link i k hi e
  ·rw [if_neg e,q.nodes,p8]
   have:=h.bW i hi
   simp only [Bool.false_eq_true,false_iff]
   omega
 ·have:=zw p j s.jobs
  have h2:=h.cv p hp
  dsimp only
  rw [this]
  unfold Cp
  rw [q.phase]
  simp
  exact h2
theorem Step.right (h:cm c s) {t:ai} (q:Step c s t):cm c t:=by
 cases q with
 | num q=>exact h.MC q
 | bW q=>exact h.yT q
 | node q=>exact h.AV q
 | both q q2=>exact (h.yT q).AV q2
 | more q=>exact h.JK q
end
end Dv
