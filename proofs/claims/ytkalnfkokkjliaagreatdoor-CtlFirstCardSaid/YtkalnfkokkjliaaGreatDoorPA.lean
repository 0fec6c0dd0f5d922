/- The logical machine and its plain laws: parts P1, P2, P3, P4, P5, P6, P7, proved sound. -/
namespace Dv
structure bK where
 up:Bool
 ct:Bool
 bu:Bool
 version:Int
 aN:Int
 deriving DecidableEq
structure bU where
 queue:Int
 prio:Int
 min:Int
 max:Int
 work:Int
 pin:Int
 phase:Int
 inc:Int
 nodes:Int
 since:Int
 til:Int
 epoch:Int
 deriving DecidableEq
structure aH where
 nodes:Int
 bG:Int
 cD:Int
 wave:Int
 b_:Int
 eE:Int
 deadline:Int
 room:Int
 fG:Int
 deriving DecidableEq
structure aa where
 nodes:List bK
 jobs:List bU
 goal:Int
 prior:Int
 mode:Int
 term:Int
 deriving DecidableEq
structure cH where
 kind:Int
 a:Int
 b:Int
 c:Int
 d:Int
 e:Int
 f:Int
 deriving DecidableEq
structure dc where
 node:Int
 kind:Int
 term:Int
 gen:Int
 aN:Int
 inc:Int
 version:Int
 epoch:Int
 til:Int
 mode:Int
 work:Int
 deriving DecidableEq
def gh:cH:=⟨0,0,0,0,0,0,0⟩
def gO:dc:=⟨0,0,0,0,0,0,0,0,0,0,0⟩
def ax:bU:=⟨0,0,0,0,0,0,0,0,0,0,0,0⟩
def ag:bK:=⟨false,false,false,0,0⟩
def fk (s:aa):Int:=if s.mode=2 then s.prior else s.goal
def cA (l:List bU) (q:Int):Int:=((l.filter (fun j=>decide (j.queue=q)&&decide (j.phase=3))).length:Int)
theorem Ef (l:List bU) (q:Int):0≤cA l q∧cA l q≤l.length:=by
 unfold cA
 have:=List.length_filter_le (fun j:bU=>decide (j.queue=q)&&decide (j.phase=3)) l
 omega
theorem rQ (l:List bU) (j:bU) (q:Int):cA (l++[j]) q=cA l q+if j.queue=q∧j.phase=3 then 1 else 0:=by
 unfold cA
 by_cases h1:j.queue=q <;> by_cases h2:j.phase=3 <;> simp [List.filter_append,h1,h2]
def hasB (n:Int) (i:Nat):Bool:=decide (n / 2 ^ i % 2=1)
def Si (n:Int) (i:Nat):Int:=if hasB n i then 1 else 0
def sV (n:Int):Nat→Int
 | 0=>0
 | k+1=>sV n k+Si n k
def many (n:Int):Int:=sV n 6
theorem yG (n:Int):∀ k:Nat,0≤sV n k∧sV n k≤k
 | 0=>by simp [sV]
 | k+1=>by
   have:=yG n k
   unfold sV Si
   split <;> omega
def bF (n lo hi:Int):Bool:=decide (lo≤n∧n≤hi)
def dK (nodes:Int) (takes:bK→Bool):List bK→Nat→Int→Bool
 | [],_,_=>true
 | n::l,i,v=>
   if hasB nodes i=false then dK nodes takes l (i+1) v
   else if takes n=true∧n.version=(if v=0 then n.version else v) then dK nodes takes l (i+1) (if v=0 then n.version else v) else false
def kC (ns:List bK) (j:bU) (nodes:Int) (takes:bK→Bool):Bool:=
 if nodes<0∨2 ^ ns.length≤nodes then false
 else if bF (many nodes) j.min j.max=true then dK nodes takes ns 0 j.pin else false
def jX (c:aH) (j:bU):Bool:=bF j.queue 0 (c.bG-1)&&bF j.prio 0 9&&bF j.min 1 j.max&&bF j.max 1 c.nodes&&bF j.work 1 1000&&bF j.pin 0 9
def dW (p:Int):Bool:=decide (p=1∨p=2∨p=3)
def gL (c:aH):Bool:=bF c.nodes 1 6&&bF c.bG 1 3&&bF c.cD 0 4&&bF c.wave 1 6&&bF c.b_ 2 30&&bF c.eE 1 20&&bF c.deadline 1 60&&bF c.room 0 5000&&bF c.fG 2000 40000
def iV (number:Int) (n:bK):Bool:=n.up&&!n.bu&&decide (n.aN=number)
def fP (c:aH) (s:aa) (j:bU) (number:Int):Bool:=
 jX c j&&bF j.phase 0 4&&bF j.inc 0 1000000&&bF j.since 0 1000000&&bF j.til 0 1000000&&bF j.epoch 0 j.inc&&
 (if dW j.phase=true then kC s.nodes j j.nodes (iV number) else decide (j.nodes=0))
def kO (s:aa) (n:bK) (number:Nat):Bool:=
 bF n.version 1 9&&bF n.aN 0 s.jobs.length&&!(n.bu&&(!n.up||!n.ct||decide (n.aN≠0)))&&
 (decide (n.aN=0)||hasB (s.jobs.getD (n.aN-1).toNat ax).nodes number)
def eB (c:aH) (s:aa):List bU→Nat→Bool
 | [],_=>true
 | j::l,k=>fP c s j (k+1)&&eB c s l (k+1)
def eO (s:aa):List bK→Nat→Bool
 | [],_=>true
 | n::l,k=>kO s n k&&eO s l (k+1)
def ew (c:aH) (s:aa):Nat→Nat→Bool
 | _,0=>true
 | q,n+1=>!decide (c.cD<cA s.jobs q)&&ew c s (q+1) n
def jJ (c:aH) (s:aa):Bool:=
 gL c&&decide ((s.nodes.length:Int)=c.nodes)&&decide (s.jobs.length≤24)&&bF s.goal 1 9&&bF s.prior 1 9&&bF s.mode 0 2&&bF s.term 0 1000000&&
 eB c s s.jobs 0&&eO s s.nodes 0&&ew c s 0 c.bG.toNat
theorem drop_cons {α:Type} (l:List α) (k:Nat) (z:α) (h:k<l.length):l.drop k=l.getD k z::l.drop (k+1):=by
 rw [List.drop_eq_getElem_cons h]; simp [List.getD,h]
end Dv
namespace Dv
def jw (s:aa) (n:bK):Bool:=n.up&&!n.bu&&decide (n.version≠fk s)
def vE (s:aa) (aN:Int):Int:=(s.jobs.getD (aN-1).toNat ax).pin
def om (s:aa) (n:bK):Bool:=if n.aN=0 then false else decide (vE s n.aN≠0)&&decide (vE s n.aN≠fk s)
def qz (s:aa) (i:Int):Bool:=if i<0∨(s.nodes.length:Int)≤i then false else om s (s.nodes.getD i.toNat ag)
def nr (l:List bK):Int:=((l.filter (·.ct)).length:Int)
theorem Iq (l:List bK):0≤nr l∧nr l≤l.length:=by
 unfold nr
 have:=List.length_filter_le (fun n:bK=>n.ct) l
 omega
theorem CP (l:List bK) (n:bK):nr (l++[n])=nr l+if n.ct then 1 else 0:=by
 unfold nr
 cases h:n.ct <;> simp [List.filter_append,h]
def EY (s:aa) (n:bK):Bool:=n.ct&&n.up&&!n.bu&&(!jw s n||om s n)
def mF (c:aH) (s:aa) (now:Int) (n:bK) (i:Int):Option cH:=
 if n.ct=false∨jw s n=false∨om s n=true then none
 else if n.aN=0 then some ⟨18,i,0,0,0,0,0⟩
 else
  let j:=s.jobs.getD (n.aN-1).toNat ax
  if j.phase=1 then some ⟨11,n.aN,0,0,0,0,0⟩
  else if j.phase=2∧j.min<many (j.nodes % 64) then some ⟨20,n.aN,i,0,0,0,0⟩
  else if j.phase=2∧cA s.jobs j.queue<c.cD then some ⟨12,n.aN,(if 1000000≤now+c.deadline then 1000000 else now+c.deadline),0,0,0,0⟩
  else none
def EN (c:aH) (s:aa) (n:bK):Bool:=!n.ct&&jw s n&&!om s n&&decide (nr s.nodes<c.wave)
def gj (f:bK→Int→Option cH):List bK→Nat→Option cH
 | [],_=>none
 | n::l,k=>match f n k with
   | some o=>some o
   | none=>gj f l (k+1)
def Jk (s:aa) (n:bK) (i:Int):Option cH:=if EY s n=true then some ⟨17,i,0,0,0,0,0⟩ else none
def yg (c:aH) (s:aa) (n:bK) (i:Int):Option cH:=if EN c s n=true then some ⟨16,i,0,0,0,0,0⟩ else none
def Br (c:aH) (s:aa) (now:Int):Option cH:=
 if s.mode=1 then none
 else match gj (Jk s) s.nodes 0 with
  | some o=>some o
  | none=>match gj (mF c s now) s.nodes 0 with
    | some o=>some o
    | none=>gj (yg c s) s.nodes 0
structure AH (c:aH) (s:aa):Prop where
 tn:1≤c.nodes∧c.nodes≤6∧1≤c.bG∧c.bG≤3∧0≤c.cD∧c.cD≤4∧1≤c.wave∧c.wave≤6∧2≤c.b_∧c.b_≤30∧1≤c.eE∧c.eE≤20∧1≤c.deadline∧c.deadline≤60∧0≤c.room∧c.room≤5000∧2000≤c.fG∧c.fG≤40000
 nodes:(s.nodes.length:Int)=c.nodes
 jobs:s.jobs.length≤24
 Z5:1≤s.goal∧s.goal≤9∧1≤s.prior∧s.prior≤9∧0≤s.mode∧s.mode≤2∧0≤s.term∧s.term≤1000000
 stands:∀ k,k<s.jobs.length→fP c s (s.jobs.getD k ax) (k+1)=true
 sound:∀ k,k<s.nodes.length→kO s (s.nodes.getD k ag) k=true
 cD:∀ q:Nat,(q:Int)<c.bG→cA s.jobs q≤c.cD
theorem aS {n lo hi:Int} (h:bF n lo hi=true):lo≤n∧n≤hi:=of_decide_eq_true h
theorem nH (c:aH) (s:aa):∀ (l:List bU) (k:Nat),eB c s l k=true→∀ i,i<l.length→fP c s (l.getD i ax) ((k+i:Nat)+1)=true
 | [],_,_,i,hi=>by simp at hi
 | j::l,k,h,i,hi=>by
   unfold eB at h
   simp only [Bool.and_eq_true] at h
   cases i with
   | zero=>simpa using h.1
   | succ i=>
     have:=nH c s l (k+1) h.2 i (by simpa using hi)
     rw [show k+(i+1)=k+1+i by omega]
     simpa using this
theorem o8 (s:aa):∀ (l:List bK) (k:Nat),eO s l k=true→∀ i,i<l.length→kO s (l.getD i ag) (k+i)=true
 | [],_,_,i,hi=>by simp at hi
 | j::l,k,h,i,hi=>by
   unfold eO at h
   simp only [Bool.and_eq_true] at h
   cases i with
   | zero=>simpa using h.1
   | succ i=>
     have:=o8 s l (k+1) h.2 i (by simpa using hi)
     rw [show k+(i+1)=k+1+i by omega]
     simpa using this
theorem o_ (c:aH) (s:aa):∀ (n q:Nat),ew c s q n=true→∀ i,i<n→cA s.jobs ((q+i:Nat):Int)≤c.cD
 | 0,_,_,i,hi=>by omega
 | n+1,q,h,i,hi=>by
   unfold ew at h
   simp only [Bool.and_eq_true,Bool.not_eq_true',decide_eq_false_iff_not] at h
   cases i with
   | zero=>have:=h.1; simp; omega
   | succ i=>
     have:=o_ c s n (q+1) h.2 i (by omega)
     rw [show q+(i+1)=q+1+i by omega]
     exact this
theorem vv {c:aH} {s:aa} (h:jJ c s=true):AH c s:=by
 unfold jJ gL at h
 simp only [Bool.and_eq_true,decide_eq_true_eq] at h
 obtain ⟨⟨⟨⟨⟨⟨⟨⟨⟨⟨⟨⟨⟨⟨⟨⟨⟨h1,h2⟩,h3⟩,h4⟩,h5⟩,h6⟩,h7⟩,h8⟩,h9⟩,n1⟩,n2⟩,g1⟩,g2⟩,g3⟩,g4⟩,st⟩,so⟩,qu⟩:=h
 have h1:=aS h1
 have h2:=aS h2
 have h3:=aS h3
 have h4:=aS h4
 have h5:=aS h5
 have h6:=aS h6
 have h7:=aS h7
 have h8:=aS h8
 have h9:=aS h9
 have g1:=aS g1
 have g2:=aS g2
 have g3:=aS g3
 have g4:=aS g4
 exact ⟨⟨h1.1,h1.2,h2.1,h2.2,h3.1,h3.2,h4.1,h4.2,h5.1,h5.2,h6.1,h6.2,h7.1,h7.2,h8.1,h8.2,h9.1,h9.2⟩,n1,n2,⟨g1.1,g1.2,g2.1,g2.2,g3.1,g3.2,g4.1,g4.2⟩,
  fun k hk=>by have:=nH c s s.jobs 0 st k hk; simpa using this,
  fun k hk=>by have:=o8 s s.nodes 0 so k hk; simpa using this,
  fun q hq=>by have:=o_ c s _ 0 qu q (by omega); simpa using this⟩
theorem AH.node {c:aH} {s:aa} (h:AH c s) {k:Nat} (hk:k<s.nodes.length) :
  1≤(s.nodes.getD k ag).version∧(s.nodes.getD k ag).version≤9∧0≤(s.nodes.getD k ag).aN∧(s.nodes.getD k ag).aN≤s.jobs.length:=by
 have:=h.sound k hk
 unfold kO at this
 simp only [Bool.and_eq_true] at this
 have h1:=aS this.1.1.1
 have h2:=aS this.1.1.2
 omega
theorem AH.aN {c:aH} {s:aa} (h:AH c s) {k:Nat} (hk:k<s.jobs.length) :
  let j:=s.jobs.getD k ax
  (0≤j.queue∧j.queue≤c.bG-1)∧(0≤j.prio∧j.prio≤9)∧(1≤j.min∧j.min≤j.max)∧(1≤j.max∧j.max≤c.nodes)∧(1≤j.work∧j.work≤1000)∧(0≤j.pin∧j.pin≤9)∧(0≤j.phase∧j.phase≤4)∧(0≤j.inc∧j.inc≤1000000)∧(0≤j.since∧j.since≤1000000)∧(0≤j.til∧j.til≤1000000)∧(0≤j.epoch∧j.epoch≤j.inc):=by
 have:=h.stands k hk
 unfold fP jX at this
 simp only [Bool.and_eq_true] at this
 obtain ⟨⟨⟨⟨⟨⟨⟨⟨⟨⟨⟨a1,a2⟩,a3⟩,a4⟩,a5⟩,a6⟩,b1⟩,b2⟩,b3⟩,b4⟩,b5⟩,_⟩:=this
 exact ⟨aS a1,aS a2,aS a3,aS a4,aS a5,aS a6,aS b1,aS b2,aS b3,aS b4,aS b5⟩
theorem Ja (n:Nat) (h:n≤6):(2:Int) ^ n≤64:=by
 have:n=0∨n=1∨n=2∨n=3∨n=4∨n=5∨n=6:=by omega
 rcases this with h | h | h | h | h | h | h <;> subst h <;> simp
theorem AH.bits {c:aH} {s:aa} (h:AH c s) {k:Nat} (hk:k<s.jobs.length):0≤(s.jobs.getD k ax).nodes∧(s.jobs.getD k ax).nodes<64:=by
 have:=h.stands k hk
 have hc:=h.tn
 have hn:=h.nodes
 unfold fP at this
 simp only [Bool.and_eq_true] at this
 have h2:=this.2
 split at h2
 ·unfold kC at h2
  split at h2
  ·cases h2
  ·rename_i hq
   have:=Ja s.nodes.length (by omega)
   omega
 ·have:=of_decide_eq_true h2
  omega
end Dv
namespace Dv
inductive tD (s:aa):cH→Prop where
 | opened (a:Int):tD s ⟨17,a,0,0,0,0,0⟩
 | shut (a:Int) (h:qz s a=false):tD s ⟨16,a,0,0,0,0,0⟩
 | move (a:Int) (h:qz s a=false):tD s ⟨18,a,0,0,0,0,0⟩
 | shrink (j a:Int) (h:qz s a=false):tD s ⟨20,j,a,0,0,0,0⟩
 | XW (i:Nat) (hi:i<s.nodes.length) (h0:(s.nodes.getD i ag).aN≠0) (h:vE s (s.nodes.getD i ag).aN=0∨vE s (s.nodes.getD i ag).aN=fk s):tD s ⟨11,(s.nodes.getD i ag).aN,0,0,0,0,0⟩
 | drain (i:Nat) (t:Int) (hi:i<s.nodes.length) (h0:(s.nodes.getD i ag).aN≠0) (h:vE s (s.nodes.getD i ag).aN=0∨vE s (s.nodes.getD i ag).aN=fk s):tD s ⟨12,(s.nodes.getD i ag).aN,t,0,0,0,0⟩
theorem xm (s:aa) (i:Nat) (hi:i<s.nodes.length):qz s (i:Int)=om s (s.nodes.getD i ag):=by
 unfold qz
 rw [if_neg (by omega)]
 simp
end Dv
namespace Dv
def f_ {α:Type} (g:Nat→α→α) (l:List α) (k:Nat):List α:=l.mapIdx fun i x=>if i<k then g i x else x
section
variable {α:Type} (g:Nat→α→α) (l:List α)
@[simp] theorem lX (k:Nat):(f_ g l k).length=l.length:=by simp [f_]
theorem uU:f_ g l 0=l:=by
 apply List.ext_getElem
 ·simp
 ·intro i h1 h2; simp [f_]
theorem uW:f_ g l l.length=l.mapIdx g:=by
 apply List.ext_getElem
 ·simp
 ·intro i h1 h2
  simp at h1
  simp [f_,h1]
theorem AT {k:Nat} (h:k<l.length):(f_ g l k)[k]? = some l[k]:=by
 simp [f_,h]
theorem sB {k:Nat} {x:α} (h:k<l.length) (hx:g k l[k]=x):(f_ g l k).set k x=f_ g l (k+1):=by
 apply List.ext_getElem
 ·simp
 ·intro i h1 h2
  simp only [f_,List.getElem_set,List.getElem_mapIdx]
  by_cases hi:k=i
  ·subst hi; simp [hx]
  ·rw [if_neg hi]
   by_cases h3:i<k
   ·rw [if_pos h3,if_pos (by omega)]
   ·rw [if_neg h3,if_neg (by omega)]
theorem uV {k:Nat} (h:k<l.length) (hx:g k l[k]=l[k]):f_ g l k=f_ g l (k+1):=by
 rw [← sB g l h hx]
 apply List.ext_getElem
 ·simp
 ·intro i h1 h2
  rw [List.getElem_set]
  split
  ·rename_i h; subst h; simp [f_]
  ·rfl
end
def cE (s:aa) (i:Int):bK:=s.nodes.getD i.toNat ag
def dM (s:aa) (a:Int):bU:=s.jobs.getD (a-1).toNat ax
def jW (n:bK):Bool:=n.up&&!n.ct&&!n.bu&&decide (n.aN=0)
def iW (s:aa) (i:Int) (n:bK):aa:={ s with nodes:=s.nodes.set i.toNat n }
def fm (s:aa) (a:Int) (j:bU):aa:={ s with jobs:=s.jobs.set (a-1).toNat j }
def lets (number:Int) (_:Nat) (n:bK):bK:=if n.aN=number then { n with aN:=0 } else n
def fH (bits number:Int) (i:Nat) (n:bK):bK:=if hasB bits i then { n with aN:=number } else n
def dS (s:aa) (number phase:Int):aa:=
 { s with nodes:=s.nodes.mapIdx (lets number),jobs:=s.jobs.set (number-1).toNat { dM s number with phase:=phase,nodes:=0,since:=0,til:=0 } }
def kU (o:cH):bU:=⟨o.a,o.b,o.c,o.d,o.e,o.f,0,0,0,0,0,0⟩
def ji (c:aH) (s:aa) (o:cH):aa×Int:=if jX c (kU o)=false then (s,1) else if 24≤s.jobs.length then (s,3) else ({ s with jobs:=s.jobs++[kU o] },0)
def kI (s:aa) (o:cH):aa×Int:=if (dM s o.a).phase=4 then (s,5) else (dS s o.a 4,0)
def kg (s:aa) (o:cH):aa×Int:=if bF o.a 1 9=false then (s,1) else ({ s with prior:=fk s,goal:=o.a,mode:=0 },0)
def gF (s:aa) (ok:Bool) (to:Int):aa×Int:=if ok=true then ({ s with mode:=to },0) else (s,5)
def rS (s:aa) (o:cH):aa×Int:=if (cE s o.a).up=false then (s,5) else
 let t:=if (cE s o.a).aN≠0 then dS s (cE s o.a).aN 0 else s
 (iW t o.a { cE t o.a with up:=false,bu:=false },0)
def LK (s:aa) (o:cH):aa×Int:=if bF o.b 1 9=false then (s,1) else if (cE s o.a).up=true then (s,5) else (iW s o.a { cE s o.a with up:=true,version:=o.b },0)
def nX (s:aa) (o:cH):aa×Int:=if (dM s o.a).phase≠0 then (s,5) else if kC s.nodes (dM s o.a) o.b jW=false∨1000000≤(dM s o.a).inc then (s,8) else
 ({ fm s o.a { dM s o.a with phase:=1,inc:=(dM s o.a).inc+1,nodes:=o.b } with nodes:=s.nodes.mapIdx (fH o.b o.a) },0)
def nG (s:aa) (o:cH):aa×Int:=if (dM s o.a).phase≠1 then (s,5) else (fm s o.a { dM s o.a with phase:=2,since:=o.b },0)
def kf (s:aa) (o:cH):aa×Int:=if (dM s o.a).phase≠1 then (s,5) else (dS s o.a 0,0)
def mD (c:aH) (s:aa) (o:cH):aa×Int:=if (dM s o.a).phase≠2 then (s,5) else if c.cD≤cA s.jobs (dM s o.a).queue then (s,7) else (fm s o.a { dM s o.a with phase:=3,til:=o.b },0)
def qQ (j:bU):Bool:=decide (j.phase=2)||decide (j.phase=3)
def jH (s:aa) (o:cH):aa×Int:=if qQ (dM s o.a)=false then (s,5) else if o.b≠(dM s o.a).inc∨o.b≤(dM s o.a).epoch then (s,6) else (fm s o.a { dM s o.a with epoch:=o.b },0)
def oc (s:aa) (o:cH):aa×Int:=if (dM s o.a).phase≠3 then (s,5) else (dS s o.a 0,0)
def ug (s:aa) (o:cH):aa×Int:=if qQ (dM s o.a)=false then (s,5) else (dS s o.a 4,0)
def mE (s:aa) (o:cH):aa×Int:=if (cE s o.a).up=false∨(cE s o.a).ct=true then (s,5) else (iW s o.a { cE s o.a with ct:=true },0)
def iy (s:aa) (o:cH):aa×Int:=if (cE s o.a).ct=false∨(cE s o.a).bu=true then (s,5) else (iW s o.a { cE s o.a with ct:=false },0)
def vV (s:aa) (o:cH):aa×Int:=if (cE s o.a).up=false∨(cE s o.a).ct=false∨(cE s o.a).bu=true∨(cE s o.a).aN≠0 then (s,5) else (iW s o.a { cE s o.a with bu:=true },0)
def me (s:aa) (o:cH):aa×Int:=if bF o.b 1 9=false then (s,1) else if (cE s o.a).bu=false then (s,5) else (iW s o.a { cE s o.a with version:=o.b,bu:=false,ct:=false },0)
def ku (n b:Int):Int:=if hasB n b.toNat then n-2 ^ b.toNat else n
def gv (s:aa) (o:cH):aa×Int:=if (s.nodes.length:Int)≤o.b then (s,4) else if (dM s o.a).phase≠2 then (s,5) else if (cE s o.b).aN≠o.a∨many (dM s o.a).nodes≤(dM s o.a).min then (s,8) else
 (iW (fm s o.a { dM s o.a with nodes:=ku (dM s o.a).nodes o.b }) o.b { cE s o.b with aN:=0 },0)
def gq (s:aa):aa×Int:=if 1000000≤s.term then (s,3) else ({ s with term:=s.term+1 },0)
def gX (k:Int):Nat:=if k=1 then 6 else if k=4∨k=5∨k=6∨k=21 then 0 else if k=8∨k=9∨k=10∨k=12∨k=13∨k=19∨k=20 then 2 else 1
def pg (n:Int) (given:Bool):Bool:=decide (0≤n∧n≤1000000)&&(given||decide (n=0))
def gH (o:cH):Bool:=decide (1≤o.kind∧o.kind≤21)&&pg o.a (decide (0<gX o.kind))&&pg o.b (decide (1<gX o.kind))&&pg o.c (decide (2<gX o.kind))&&pg o.d (decide (3<gX o.kind))&&pg o.e (decide (4<gX o.kind))&&pg o.f (decide (5<gX o.kind))
def DH (k:Int):Bool:=decide (k=2∨k=9∨k=10∨k=11∨k=12∨k=13∨k=14∨k=15∨k=20)
def vR (k:Int):Bool:=decide (k=7∨k=8∨k=16∨k=17∨k=18∨k=19)
def bM (c:aH) (s:aa) (o:cH):aa×Int:=
 if o.kind=1 then ji c s o else if o.kind=2 then kI s o else if o.kind=3 then kg s o
 else if o.kind=4 then gF s (s.mode==0) 1 else if o.kind=5 then gF s (s.mode==1) 0 else if o.kind=6 then gF s (s.mode !=2) 2
 else if o.kind=7 then rS s o else if o.kind=8 then LK s o else if o.kind=9 then nX s o else if o.kind=10 then nG s o
 else if o.kind=11 then kf s o else if o.kind=12 then mD c s o else if o.kind=13 then jH s o else if o.kind=14 then oc s o
 else if o.kind=15 then ug s o else if o.kind=16 then mE s o else if o.kind=17 then iy s o else if o.kind=18 then vV s o
 else if o.kind=19 then me s o else if o.kind=20 then gv s o else gq s
def kZ:aa:=⟨[],[],0,0,0,0⟩
def xV (c:aH) (s:aa) (o:cH):aa×Int:=
 if gH o=false then (s,1)
 else if DH o.kind=true∧(o.a<1∨(s.jobs.length:Int)<o.a) then (s,4)
 else if vR o.kind=true∧(s.nodes.length:Int)≤o.a then (s,4)
 else bM c s o
def bO (c:aH) (s:aa) (o:cH):aa×Int:=if jJ c s=false then (kZ,1) else xV c s o
end Dv
namespace Dv
def dm (s:aa) (i:Nat):bK:=s.nodes.getD i ag
def cZ (s:aa) (k:Nat):bU:=s.jobs.getD k ax
structure tC (c:aH) (j:bU):Prop where
 asked:jX c j=true
 phase:0≤j.phase∧j.phase≤4
 inc:0≤j.inc∧j.inc≤1000000
 since:0≤j.since∧j.since≤1000000
 til:0≤j.til∧j.til≤1000000
 epoch:0≤j.epoch∧j.epoch≤j.inc
structure qA (ns:List bK) (j:bU):Prop where
 lo:0≤j.nodes
 hi:j.nodes<2 ^ ns.length
 many:j.min≤many j.nodes∧many j.nodes≤j.max
 Is:∃ u,(j.pin=0∨u=j.pin)∧∀ i,i<ns.length→hasB j.nodes i=true→(ns.getD i ag).version=u
structure bT (c:aH) (s:aa):Prop where
 tn:gL c=true
 nodes:(s.nodes.length:Int)=c.nodes
 jobs:s.jobs.length≤24
 goal:1≤s.goal∧s.goal≤9
 prior:1≤s.prior∧s.prior≤9
 mode:0≤s.mode∧s.mode≤2
 term:0≤s.term∧s.term≤1000000
 num:∀ k,k<s.jobs.length→tC c (cZ s k)
 kR:∀ k,k<s.jobs.length→dW (cZ s k).phase=true→qA s.nodes (cZ s k)
 idle:∀ k,k<s.jobs.length→dW (cZ s k).phase=false→(cZ s k).nodes=0
 Is:∀ i,i<s.nodes.length→1≤(dm s i).version∧(dm s i).version≤9
 aN:∀ i,i<s.nodes.length→0≤(dm s i).aN∧(dm s i).aN≤s.jobs.length
 bu:∀ i,i<s.nodes.length→(dm s i).bu=true→(dm s i).up=true∧(dm s i).ct=true∧(dm s i).aN=0
 up:∀ i,i<s.nodes.length→(dm s i).aN≠0→(dm s i).up=true
 link:∀ i k,i<s.nodes.length→k<s.jobs.length→(hasB (cZ s k).nodes i=true↔(dm s i).aN=k+1)
 cD:∀ q:Nat,(q:Int)<c.bG→cA s.jobs q≤c.cD
theorem mg {c:aH} (h:gL c=true):1≤c.nodes∧c.nodes≤6:=by
 unfold gL at h
 simp only [Bool.and_eq_true] at h
 exact aS h.1.1.1.1.1.1.1.1
theorem bT.len {c:aH} {s:aa} (h:bT c s):1≤s.nodes.length∧s.nodes.length≤6:=by
 have:=mg h.tn
 have:=h.nodes
 omega
theorem nY (i:Nat):hasB 0 i=false:=by simp [hasB]
theorem rN (m:Int) (takes:bK→Bool):∀ (l:List bK) (i:Nat) (v:Int),(∀ k,k<l.length→1≤(l.getD k ag).version)→
  (dK m takes l i v=true↔∃ u,(v=0∨u=v)∧∀ k,k<l.length→hasB m (i+k)=true→takes (l.getD k ag)=true∧(l.getD k ag).version=u)
 | [],i,v,_=>by
   simp only [dK,List.length_nil,true_iff]
   exact ⟨v,.inr rfl,fun k hk=>by omega⟩
 | n::l,i,v,hv=>by
   have h0:1≤n.version:=by simpa using hv 0 (by simp)
   have ih:=fun v=>rN m takes l (i+1) v (fun k hk=>by simpa using hv (k+1) (by simpa using hk))
   have shift:∀ u,(∀ k,k<(n::l).length→hasB m (i+k)=true→takes ((n::l).getD k ag)=true∧((n::l).getD k ag).version=u)↔
     (hasB m i=true→takes n=true∧n.version=u)∧∀ k,k<l.length→hasB m (i+1+k)=true→takes (l.getD k ag)=true∧(l.getD k ag).version=u:=by
    intro u
    refine ⟨fun h=>⟨fun h1=>by simpa using h 0 (by simp) h1,fun k hk h1=>?_⟩,fun h k hk h1=>?_⟩
    ·have:=h (k+1) (by simpa using hk) (by rw [← h1]; congr 1; omega)
     simpa using this
    ·cases k with
     | zero=>simpa using h.1 h1
     | succ k=>
       have:=h.2 k (by simpa using hk) (by rw [← h1]; congr 1; omega)
       simpa using this
   unfold dK
   by_cases hb:hasB m i=false
   ·rw [if_pos hb,ih v]
    refine exists_congr fun u=>and_congr_right fun _=>?_
    rw [shift u]
    simp [hb]
   ·rw [if_neg hb]
    have hb':hasB m i=true:=by simpa using hb
    by_cases ht:takes n=true
    ·by_cases hq:n.version=(if v=0 then n.version else v)
     ·rw [if_pos ⟨ht,hq⟩,ih,← hq]
      constructor
      ·rintro ⟨u,h1,h2⟩
       have hu:u=n.version:=by omega
       refine ⟨u,?_,(shift u).2 ⟨fun _=>⟨ht,hu.symm⟩,h2⟩⟩
       by_cases h3:v=0
       ·exact .inl h3
       ·rw [if_neg h3] at hq; exact .inr (by omega)
      ·rintro ⟨u,h1,h2⟩
       obtain ⟨h3,h4⟩:=(shift u).1 h2
       exact ⟨u,.inr (h3 hb').2.symm,h4⟩
     ·rw [if_neg (fun h=>hq h.2)]
      refine ⟨fun h=>(by cases h),?_⟩
      rintro ⟨u,h1,h2⟩
      have h3:=((shift u).1 h2).1 hb'
      refine absurd ?_ hq
      by_cases h4:v=0
      ·rw [if_pos h4]
      ·rw [if_neg h4]; omega
    ·rw [if_neg (fun h=>ht h.1)]
     refine ⟨fun h=>(by cases h),?_⟩
     rintro ⟨u,h1,h2⟩
     exact absurd (((shift u).1 h2).1 hb').1 ht
theorem yY (ns:List bK) (j:bU) (m:Int) (takes:bK→Bool) (hv:∀ k,k<ns.length→1≤(ns.getD k ag).version) :
  kC ns j m takes=true↔(0≤m∧m<2 ^ ns.length)∧(j.min≤many m∧many m≤j.max)∧∃ u,(j.pin=0∨u=j.pin)∧∀ k,k<ns.length→hasB m k=true→takes (ns.getD k ag)=true∧(ns.getD k ag).version=u:=by
 unfold kC
 by_cases h1:m<0∨2 ^ ns.length≤m
 ·rw [if_pos h1]
  refine ⟨fun h=>(by cases h),fun h=>?_⟩
  omega
 ·rw [if_neg h1]
  by_cases h2:bF (many m) j.min j.max=true
  ·rw [if_pos h2,rN m takes ns 0 j.pin hv]
   have h3:=aS h2
   simp only [Nat.zero_add]
   exact ⟨fun h=>⟨by omega,h3,h⟩,fun h=>h.2.2⟩
  ·rw [if_neg h2]
   refine ⟨fun h=>(by cases h),fun h=>absurd ?_ h2⟩
   exact decide_eq_true h.2.1
theorem tJ (c:aH) (s:aa) (j:bU) (number:Int) (hv:∀ k,k<s.nodes.length→1≤(s.nodes.getD k ag).version) :
  fP c s j number=true↔tC c j∧(dW j.phase=true→qA s.nodes j∧∀ i,i<s.nodes.length→hasB j.nodes i=true→iV number (dm s i)=true)∧(dW j.phase=false→j.nodes=0):=by
 unfold fP
 simp only [Bool.and_eq_true]
 have key:(if dW j.phase=true then kC s.nodes j j.nodes (iV number) else decide (j.nodes=0))=true↔(dW j.phase=true→qA s.nodes j∧∀ i,i<s.nodes.length→hasB j.nodes i=true→iV number (dm s i)=true)∧(dW j.phase=false→j.nodes=0):=by
  cases hp:dW j.phase with
  | true=>
    rw [if_pos rfl,yY _ _ _ _ hv]
    constructor
    ·rintro ⟨⟨a,b⟩,e,u,f,g⟩
     exact ⟨fun _=>⟨⟨a,b,e,u,f,fun i hi h=>(g i hi h).2⟩,fun i hi h=>(g i hi h).1⟩,fun h=>by cases h⟩
    ·rintro ⟨h,_⟩
     obtain ⟨⟨a,b,e,u,f,g⟩,h⟩:=h rfl
     exact ⟨⟨a,b⟩,e,u,f,fun i hi hb=>⟨h i hi hb,g i hi hb⟩⟩
  | false=>simp
 rw [key]
 constructor
 ·rintro ⟨⟨⟨⟨⟨⟨a,b⟩,d⟩,e⟩,f⟩,g⟩,h⟩
  exact ⟨⟨a,aS b,aS d,aS e,aS f,aS g⟩,h⟩
 ·rintro ⟨⟨a,b,d,e,f,g⟩,h⟩
  exact ⟨⟨⟨⟨⟨⟨a,decide_eq_true b⟩,decide_eq_true d⟩,decide_eq_true e⟩,decide_eq_true f⟩,decide_eq_true g⟩,h⟩
theorem jG (c:aH) (s:aa):∀ (l:List bU) (k:Nat),eB c s l k=true↔∀ i,i<l.length→fP c s (l.getD i ax) ((k+i:Nat)+1)=true
 | [],k=>by simp [eB]
 | j::l,k=>by
   unfold eB
   rw [Bool.and_eq_true,jG c s l (k+1)]
   constructor
   ·rintro ⟨h1,h2⟩ i hi
    cases i with
    | zero=>simpa using h1
    | succ i=>
      have:=h2 i (by simpa using hi)
      rw [show k+(i+1)=k+1+i by omega]
      simpa using this
   ·intro h
    refine ⟨by simpa using h 0 (by simp),fun i hi=>?_⟩
    have:=h (i+1) (by simpa using hi)
    rw [show k+1+i=k+(i+1) by omega]
    simpa using this
theorem kN (s:aa):∀ (l:List bK) (k:Nat),eO s l k=true↔∀ i,i<l.length→kO s (l.getD i ag) (k+i)=true
 | [],k=>by simp [eO]
 | j::l,k=>by
   unfold eO
   rw [Bool.and_eq_true,kN s l (k+1)]
   constructor
   ·rintro ⟨h1,h2⟩ i hi
    cases i with
    | zero=>simpa using h1
    | succ i=>
      have:=h2 i (by simpa using hi)
      rw [show k+(i+1)=k+1+i by omega]
      simpa using this
   ·intro h
    refine ⟨by simpa using h 0 (by simp),fun i hi=>?_⟩
    have:=h (i+1) (by simpa using hi)
    rw [show k+1+i=k+(i+1) by omega]
    simpa using this
theorem kQ (c:aH) (s:aa):∀ (n q:Nat),ew c s q n=true↔∀ i,i<n→cA s.jobs ((q+i:Nat):Int)≤c.cD
 | 0,q=>by simp [ew]
 | n+1,q=>by
   unfold ew
   rw [Bool.and_eq_true,kQ c s n (q+1),Bool.not_eq_true',decide_eq_false_iff_not]
   constructor
   ·rintro ⟨h1,h2⟩ i hi
    cases i with
    | zero=>simpa using h1
    | succ i=>
      have:=h2 i (by omega)
      rw [show q+(i+1)=q+1+i by omega]
      exact this
   ·intro h
    refine ⟨by have:=h 0 (by omega); simpa using this,fun i hi=>?_⟩
    have:=h (i+1) (by omega)
    rw [show q+1+i=q+(i+1) by omega]
    exact this
theorem vp (s:aa) (n:bK) (i:Nat):kO s n i=true↔(1≤n.version∧n.version≤9)∧(0≤n.aN∧n.aN≤s.jobs.length)∧(n.bu=true→n.up=true∧n.ct=true∧n.aN=0)∧(n.aN≠0→hasB (s.jobs.getD (n.aN-1).toNat ax).nodes i=true):=by
 unfold kO bF
 cases n.bu <;> cases n.up <;> cases n.ct <;> by_cases h0:n.aN=0 <;> simp [h0,and_assoc]
theorem gG (c:aH) (s:aa):jJ c s=true↔bT c s:=by
 unfold jJ
 simp only [Bool.and_eq_true]
 constructor
 ·rintro ⟨⟨⟨⟨⟨⟨⟨⟨⟨h1,h2⟩,h3⟩,h4⟩,h5⟩,h6⟩,h7⟩,h8⟩,h9⟩,h10⟩
  rw [jG] at h8
  rw [kN] at h9
  rw [kQ] at h10
  have h3:=of_decide_eq_true h3
  have hs:∀ i,i<s.nodes.length→_:=fun i hi=>(vp s (s.nodes.getD i ag) i).1 (by simpa using h9 i hi)
  have hv:∀ k,k<s.nodes.length→1≤(s.nodes.getD k ag).version:=fun k hk=>(hs k hk).1.1
  have hst:∀ i,i<s.jobs.length→_:=fun i hi=>(tJ c s (s.jobs.getD i ax) (i+1) hv).1 (by simpa using h8 i hi)
  have XG:∀ i k,i<s.nodes.length→k<s.jobs.length→hasB (cZ s k).nodes i=true→iV (k+1) (dm s i)=true:=fun i k hi hk hb=>by
   cases hp:dW (s.jobs.getD k ax).phase with
   | true=>exact ((hst k hk).2.1 hp).2 i hi hb
   | false=>
     have:=(hst k hk).2.2 hp
     unfold cZ at hb
     rw [this,nY] at hb; cases hb
  have hl2:∀ i k,i<s.nodes.length→k<s.jobs.length→(dm s i).aN=k+1→hasB (cZ s k).nodes i=true:=fun i k hi hk hj=>by
   have:=(hs i hi).2.2.2 (by unfold dm at hj; omega)
   unfold dm at hj
   rw [hj] at this
   simpa [cZ] using this
  refine ⟨h1,of_decide_eq_true h2,h3,aS h4,aS h5,aS h6,aS h7,fun k hk=>(hst k hk).1,fun k hk hp=>((hst k hk).2.1 hp).1,fun k hk hp=>(hst k hk).2.2 hp,fun i hi=>(hs i hi).1,fun i hi=>(hs i hi).2.1,fun i hi=>(hs i hi).2.2.1,fun i hi h0=>?_,fun i k hi hk=>⟨fun hb=>?_,hl2 i k hi hk⟩,fun q hq=>?_⟩
  ·have h:=(hs i hi).2.1
   have:=XG i ((dm s i).aN-1).toNat hi (by unfold dm at *; omega) (hl2 i _ hi (by unfold dm at *; omega) (by unfold dm at *; omega))
   simp only [iV,Bool.and_eq_true] at this
   exact this.1.1
  ·have:=XG i k hi hk hb
   simp only [iV,Bool.and_eq_true,decide_eq_true_eq] at this
   exact this.2
  ·have:=h10 q (by omega)
   simpa using this
 ·intro h
  have hv:∀ k,k<s.nodes.length→1≤(s.nodes.getD k ag).version:=fun k hk=>(h.Is k hk).1
  refine ⟨⟨⟨⟨⟨⟨⟨⟨⟨h.tn,decide_eq_true h.nodes⟩,decide_eq_true h.jobs⟩,decide_eq_true h.goal⟩,decide_eq_true h.prior⟩,decide_eq_true h.mode⟩,decide_eq_true h.term⟩,?_⟩,?_⟩,?_⟩
  ·rw [jG]
   intro k hk
   rw [Nat.zero_add,tJ _ _ _ _ hv]
   refine ⟨h.num k hk,fun hp=>⟨h.kR k hk hp,fun i hi hb=>?_⟩,h.idle k hk⟩
   have hj:=(h.link i k hi hk).1 hb
   have hm:(dm s i).bu=false:=by
    cases hm:(dm s i).bu with
    | false=>rfl
    | true=>have:=(h.bu i hi hm).2.2; omega
   simp only [iV,Bool.and_eq_true,decide_eq_true_eq,hm,h.up i hi (by omega),hj,Bool.not_false,and_self]
  ·rw [kN]
   intro i hi
   rw [Nat.zero_add,vp]
   refine ⟨h.Is i hi,h.aN i hi,h.bu i hi,fun h0=>?_⟩
   have hj:=h.aN i hi
   have:=(h.link i ((dm s i).aN-1).toNat hi (by unfold dm at *; omega)).2 (by unfold dm at *; omega)
   exact this
  ·rw [kQ]
   intro i hi
   have:=h.cD i (by omega)
   simpa using this
end Dv
namespace Dv
end Dv
namespace Dv
theorem wD {α:Type} (l:List α) (k i:Nat) (x z:α) (h:k<l.length):(l.set k x).getD i z=if i=k then x else l.getD i z:=by
 by_cases hi:i=k
 ·subst hi; simp [List.getD,h]
 ·rw [if_neg hi]; simp [List.getD,List.getElem?_set_ne (fun e=>hi e.symm)]
theorem kz {α:Type} (l:List α) (g:Nat→α→α) (i:Nat) (z:α) (h:i<l.length):(l.mapIdx g).getD i z=g i (l.getD i z):=by
 simp [List.getD,h]
def zY (q:Int) (j:bU):Bool:=decide (j.queue=q)&&decide (j.phase=3)
theorem rR (j:bU) (l:List bU) (q:Int):cA (j::l) q=(if zY q j then 1 else 0)+cA l q:=by
 unfold cA
 have:(fun j:bU=>decide (j.queue=q)&&decide (j.phase=3))=zY q:=rfl
 rw [this]
 cases h:zY q j
 ·simp [h]
 ·simp [h]; omega
theorem uf (q:Int) (j':bU):∀ (l:List bU) (k:Nat),k<l.length→cA (l.set k j') q+(if zY q (l.getD k ax) then 1 else 0)=cA l q+(if zY q j' then 1 else 0)
 | [],k,h=>by simp at h
 | j::l,0,_=>by
   simp only [List.set_cons_zero,rR,List.getD_cons_zero]
   omega
 | j::l,k+1,h=>by
   have:=uf q j' l k (by simpa using h)
   simp only [List.set_cons_succ,rR,List.getD_cons_succ]
   omega
theorem wO (q:Int) (j:bU) (l:List bU):cA (l++[j]) q=cA l q+(if zY q j then 1 else 0):=by
 rw [rQ]
 unfold zY
 by_cases h1:j.queue=q <;> by_cases h2:j.phase=3 <;> simp [h1,h2]
structure kM (c:aH) (s:aa) (k0:Nat) (j':bU) (ns':List bK):Prop where
 hk:k0<s.jobs.length
 num:tC c j'
 fixed:j'.queue=(cZ s k0).queue∧j'.prio=(cZ s k0).prio∧j'.min=(cZ s k0).min∧j'.max=(cZ s k0).max∧j'.work=(cZ s k0).work∧j'.pin=(cZ s k0).pin
 grow:(cZ s k0).inc≤j'.inc∧(cZ s k0).epoch≤j'.epoch
 ended:(cZ s k0).phase≠4
 len:ns'.length=s.nodes.length
 same:∀ i,i<s.nodes.length→(ns'.getD i ag).up=(dm s i).up∧(ns'.getD i ag).ct=(dm s i).ct∧(ns'.getD i ag).bu=(dm s i).bu∧(ns'.getD i ag).version=(dm s i).version
 kR:dW j'.phase=true→qA s.nodes j'
 idle:dW j'.phase=false→j'.nodes=0
 link:∀ i,i<s.nodes.length→(hasB j'.nodes i=true↔(ns'.getD i ag).aN=k0+1)
 others:∀ i k,i<s.nodes.length→k<s.jobs.length→k≠k0→((ns'.getD i ag).aN=k+1↔(dm s i).aN=k+1)
 range:∀ i,i<s.nodes.length→0≤(ns'.getD i ag).aN∧(ns'.getD i ag).aN≤s.jobs.length
 use:∀ i,i<s.nodes.length→(ns'.getD i ag).aN≠0→(dm s i).up=true∧(dm s i).bu=false
 cD:j'.phase=3→(cZ s k0).phase=3∨cA s.jobs (cZ s k0).queue<c.cD
structure sn (s:aa) (i0:Nat) (n':bK):Prop where
 hi:i0<s.nodes.length
 Is:1≤n'.version∧n'.version≤9
 aN:n'.aN=(dm s i0).aN
 keep:(dm s i0).aN≠0→n'.version=(dm s i0).version
 bu:n'.bu=true→n'.up=true∧n'.ct=true∧n'.aN=0
 up:n'.aN≠0→n'.up=true
structure FX (s:aa) (g p m t:Int):Prop where
 goal:1≤g∧g≤9
 prior:1≤p∧p≤9
 mode:0≤m∧m≤2
 term:s.term≤t∧t≤1000000
structure CB (c:aH) (s:aa) (j:bU):Prop where
 len:s.jobs.length<24
 num:tC c j
 phase:j.phase=0
 nodes:j.nodes=0
inductive Step (c:aH) (s:aa):aa→Prop where
 | num {g p m t:Int} (h:FX s g p m t):Step c s { s with goal:=g,prior:=p,mode:=m,term:=t }
 | aN {k0:Nat} {j':bU} {ns':List bK} (h:kM c s k0 j' ns'):Step c s { s with nodes:=ns',jobs:=s.jobs.set k0 j' }
 | node {i0:Nat} {n':bK} (h:sn s i0 n'):Step c s { s with nodes:=s.nodes.set i0 n' }
 | both {k0:Nat} {j':bU} {ns':List bK} {i0:Nat} {n':bK} (h:kM c s k0 j' ns') (h2:sn { s with nodes:=ns',jobs:=s.jobs.set k0 j' } i0 n'):Step c s { s with nodes:=ns'.set i0 n',jobs:=s.jobs.set k0 j' }
 | more {j:bU} (h:CB c s j):Step c s { s with jobs:=s.jobs++[j] }
section
variable {c:aH} {s:aa}
theorem qA.of {ns ns':List bK} {j:bU} (h:qA ns j) (hl:ns'.length=ns.length) (hv:∀ i,i<ns.length→hasB j.nodes i=true→(ns'.getD i ag).version=(ns.getD i ag).version):qA ns' j:=by
 obtain ⟨a,b,d,u,e,f⟩:=h
 refine ⟨a,by rw [hl]; exact b,d,u,e,fun i hi hb=>?_⟩
 rw [hl] at hi
 rw [hv i hi hb]; exact f i hi hb
theorem bT.v8 (h:bT c s) {k0:Nat} {j':bU} {ns':List bK} (q:kM c s k0 j' ns'):bT c { s with nodes:=ns',jobs:=s.jobs.set k0 j' }:=by
 have hlj:(s.jobs.set k0 j').length=s.jobs.length:=by simp
 have hjo:∀ k,cZ { s with nodes:=ns',jobs:=s.jobs.set k0 j' } k=if k=k0 then j' else cZ s k:=fun k=>wD _ _ _ _ _ q.hk
 have hno:∀ i,dm { s with nodes:=ns',jobs:=s.jobs.set k0 j' } i=ns'.getD i ag:=fun i=>rfl
 refine ⟨h.tn,by rw [← h.nodes]; exact congrArg _ q.len,by dsimp only; rw [hlj]; exact h.jobs,h.goal,h.prior,h.mode,h.term,fun k hk=>?_,fun k hk hp=>?_,fun k hk hp=>?_,fun i hi=>?_,fun i hi=>?_,fun i hi hm=>?_,fun i hi h0=>?_,fun i k hi hk=>?_,fun p hp=>?_⟩
 ·dsimp only at hk; rw [hlj] at hk; rw [hjo]; split
  ·exact q.num
  ·exact h.num k hk
 ·dsimp only at hk; rw [hlj] at hk; rw [hjo] at hp ⊢; dsimp only
  split
  ·rename_i e; rw [if_pos e] at hp
   exact (q.kR hp).of q.len fun i hi _=>(q.same i hi).2.2.2
  ·rename_i e; rw [if_neg e] at hp
   exact (h.kR k hk hp).of q.len fun i hi _=>(q.same i hi).2.2.2
 ·dsimp only at hk; rw [hlj] at hk; rw [hjo] at hp ⊢
  split
  ·rename_i e; rw [if_pos e] at hp; exact q.idle hp
  ·rename_i e; rw [if_neg e] at hp; exact h.idle k hk hp
 ·dsimp only at hi; rw [q.len] at hi; rw [hno,(q.same i hi).2.2.2]; exact h.Is i hi
 ·dsimp only at hi ⊢; rw [q.len] at hi; rw [hno,hlj]; exact q.range i hi
 ·dsimp only at hi; rw [q.len] at hi; rw [hno] at hm ⊢
  obtain ⟨a,b,d,_⟩:=q.same i hi
  rw [d] at hm
  have:=h.bu i hi hm
  rw [a,b]
  refine ⟨this.1,this.2.1,?_⟩
  by_cases h0:(ns'.getD i ag).aN=0
  ·exact h0
  ·have:=(q.use i hi h0).2; rw [hm] at this; cases this
 ·dsimp only at hi; rw [q.len] at hi; rw [hno] at h0 ⊢
  rw [(q.same i hi).1]; exact (q.use i hi h0).1
 ·dsimp only at hi hk; rw [q.len] at hi; rw [hlj] at hk; rw [hno,hjo]
  split
  ·rename_i e; subst e; exact q.link i hi
  ·rename_i e; rw [q.others i k hi hk e]; exact h.link i k hi hk
 ·have h1:=uf p j' s.jobs k0 q.hk
  have h2:=h.cD p hp
  have h3:=q.fixed.1
  have h4:=q.cD
  dsimp only
  unfold cZ at h3 h4
  generalize s.jobs.getD k0 ax=j at *
  unfold zY at h1
  by_cases e1:j'.queue=p
  ·have e2:j.queue=p:=by omega
   by_cases e3:j'.phase=3
   ·rcases h4 e3 with e4 | e4
    ·simp only [e1,e2,e3,e4,decide_true,Bool.and_true,if_true] at h1; omega
    ·by_cases e5:j.phase=3
     ·simp only [e1,e2,e3,e5,decide_true,Bool.and_true,if_true] at h1; omega
     ·simp only [e1,e2,e3,e5,decide_true,decide_false,Bool.and_true,Bool.and_false,if_true] at h1
      rw [e2] at e4
      simp at h1
      omega
   ·simp [e1,e2,e3] at h1
    split at h1 <;> omega
  ·have e2:j.queue≠p:=by omega
   simp [e1,e2] at h1
   omega
theorem bT.yD (h:bT c s) {i0:Nat} {n':bK} (q:sn s i0 n'):bT c { s with nodes:=s.nodes.set i0 n' }:=by
 have Ae:(s.nodes.set i0 n').length=s.nodes.length:=by simp
 have hno:∀ k,dm { s with nodes:=s.nodes.set i0 n' } k=if k=i0 then n' else dm s k:=fun k=>wD _ _ _ _ _ q.hi
 have hjo:∀ i,cZ { s with nodes:=s.nodes.set i0 n' } i=cZ s i:=fun i=>rfl
 refine ⟨h.tn,by dsimp only; rw [Ae]; exact h.nodes,h.jobs,h.goal,h.prior,h.mode,h.term,h.num,fun k hk hp=>?_,h.idle,fun i hi=>?_,fun i hi=>?_,fun i hi hm=>?_,fun i hi h0=>?_,fun i k hi hk=>?_,h.cD⟩
 ·refine (h.kR k hk hp).of Ae fun i hi hb=>?_
  have:=hno i
  unfold dm at this
  dsimp only at this ⊢
  rw [this]
  split
  ·rename_i e; subst e
   have hj:=(h.link i k hi hk).1 hb
   exact q.keep (by omega)
  ·rfl
 ·dsimp only at hi; rw [Ae] at hi; rw [hno]; split
  ·exact q.Is
  ·exact h.Is i hi
 ·dsimp only at hi; rw [Ae] at hi; rw [hno]; split
  ·rename_i e; subst e; rw [q.aN]; exact h.aN i hi
  ·exact h.aN i hi
 ·dsimp only at hi; rw [Ae] at hi; rw [hno] at hm ⊢
  by_cases e:i=i0
  ·rw [if_pos e] at hm ⊢; exact q.bu hm
  ·rw [if_neg e] at hm ⊢; exact h.bu i hi hm
 ·dsimp only at hi; rw [Ae] at hi; rw [hno] at h0 ⊢
  by_cases e:i=i0
  ·rw [if_pos e] at h0 ⊢; exact q.up h0
  ·rw [if_neg e] at h0 ⊢; exact h.up i hi h0
 ·dsimp only at hi hk; rw [Ae] at hi; rw [hno,hjo]
  split
  ·rename_i e; subst e; rw [q.aN]; exact h.link i k hi hk
  ·exact h.link i k hi hk
theorem bT.Jt (h:bT c s) {g p m t:Int} (q:FX s g p m t):bT c { s with goal:=g,prior:=p,mode:=m,term:=t }:=
 ⟨h.tn,h.nodes,h.jobs,q.goal,q.prior,q.mode,⟨by have:=h.term; have:=q.term; dsimp only; omega,q.term.2⟩,h.num,h.kR,h.idle,h.Is,h.aN,h.bu,h.up,h.link,h.cD⟩
theorem Hh (l:List bU) (j:bU) (k:Nat):(l++[j]).getD k ax=if k<l.length then l.getD k ax else if k=l.length then j else ax:=by
 by_cases h:k<l.length
 ·rw [if_pos h]; simp [List.getD,List.getElem?_append_left h]
 ·rw [if_neg h]
  by_cases e:k=l.length
  ·rw [if_pos e]; subst e; simp
  ·rw [if_neg e]; simp [List.getD,List.getElem?_append_right (show l.length≤k by omega)]
   rw [List.getElem?_eq_none (by simp; omega)]; rfl
theorem bT.GH (h:bT c s) {j:bU} (q:CB c s j):bT c { s with jobs:=s.jobs++[j] }:=by
 have hjo:∀ k,k<(s.jobs++[j]).length→cZ { s with jobs:=s.jobs++[j] } k=if k<s.jobs.length then cZ s k else j:=fun k hk=>by
  unfold cZ
  dsimp only
  rw [Hh]
  simp at hk
  by_cases e:k<s.jobs.length
  ·rw [if_pos e,if_pos e]
  ·rw [if_neg e,if_neg e,if_pos (by omega)]
 have hlen:(s.jobs++[j]).length=s.jobs.length+1:=by simp
 refine ⟨h.tn,h.nodes,by dsimp only; rw [hlen]; have:=q.len; omega,h.goal,h.prior,h.mode,h.term,fun k hk=>?_,fun k hk hp=>?_,fun k hk hp=>?_,h.Is,fun i hi=>?_,h.bu,h.up,fun i k hi hk=>?_,fun p hp=>?_⟩
 ·rw [hjo k hk]; split
  ·rename_i e; exact h.num k e
  ·exact q.num
 ·rw [hjo k hk] at hp ⊢
  by_cases e:k<s.jobs.length
  ·rw [if_pos e] at hp ⊢; exact h.kR k e hp
  ·rw [if_neg e,q.phase] at hp; cases hp
 ·rw [hjo k hk] at hp ⊢
  by_cases e:k<s.jobs.length
  ·rw [if_pos e] at hp ⊢; exact h.idle k e hp
  ·rw [if_neg e]; exact q.nodes
 ·have:=h.aN i hi
  have e:dm { s with jobs:=s.jobs++[j] } i=dm s i:=rfl
  dsimp only
  rw [hlen,e]
  omega
 ·rw [hjo k hk]
  have e:dm { s with jobs:=s.jobs++[j] } i=dm s i:=rfl
  rw [e]
  by_cases e:k<s.jobs.length
  ·rw [if_pos e]; exact h.link i k hi e
  ·rw [if_neg e,q.nodes,nY]
   have:=h.aN i hi
   simp only [Bool.false_eq_true,false_iff]
   omega
 ·have:=wO p j s.jobs
  have h2:=h.cD p hp
  dsimp only
  rw [this]
  unfold zY
  rw [q.phase]
  simp
  exact h2
theorem Step.right (h:bT c s) {t:aa} (q:Step c s t):bT c t:=by
 cases q with
 | num q=>exact h.Jt q
 | aN q=>exact h.v8 q
 | node q=>exact h.yD q
 | both q q2=>exact (h.v8 q).yD q2
 | more q=>exact h.GH q
end
end Dv
