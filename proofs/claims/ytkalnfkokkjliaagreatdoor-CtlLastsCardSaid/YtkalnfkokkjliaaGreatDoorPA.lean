/- part -/
set_option linter.all false
namespace Dv
structure br where
 up:Bool
 cQ:Bool
 bG:Bool
 version:Int
 aQ:Int
 deriving DecidableEq
structure bQ where
 queue:Int
 prio:Int
 min:Int
 max:Int
 work:Int
 pin:Int
 phase:Int
 inc:Int
 nodes:Int
 since:Int
 til:Int
 epoch:Int
 deriving DecidableEq
structure aF where
 nodes:Int
 bL:Int
 cE:Int
 gT:Int
 cc:Int
 eG:Int
 deadline:Int
 room:Int
 ga:Int
 deriving DecidableEq
structure aa where
 nodes:List br
 jobs:List bQ
 goal:Int
 prior:Int
 mode:Int
 term:Int
 deriving DecidableEq
structure cB where
 kind:Int
 a:Int
 b:Int
 c:Int
 d:Int
 e:Int
 f:Int
 deriving DecidableEq
structure dL where
 node:Int
 kind:Int
 term:Int
 gen:Int
 aQ:Int
 inc:Int
 version:Int
 epoch:Int
 til:Int
 mode:Int
 work:Int
 deriving DecidableEq
def iA:cB:=⟨0,0,0,0,0,0,0⟩
def jg:dL:=⟨0,0,0,0,0,0,0,0,0,0,0⟩
def az:bQ:=⟨0,0,0,0,0,0,0,0,0,0,0,0⟩
def ai:br:=⟨false,false,false,0,0⟩
def gh (s:aa):Int:=if s.mode=2 then s.prior else s.goal
def cV (l:List bQ) (q:Int):Int:=((l.filter (fun j=>decide (j.queue=q)&&decide (j.phase=3))).length:Int)
theorem Jq (l:List bQ) (q:Int):0≤cV l q∧cV l q≤l.length:=by
 unfold cV
 have:=List.length_filter_le (fun j:bQ=>decide (j.queue=q)&&decide (j.phase=3)) l
 omega
theorem vv (l:List bQ) (j:bQ) (q:Int):cV (l++[j]) q=cV l q+if j.queue=q∧j.phase=3 then 1 else 0:=by
 unfold cV
 by_cases h1:j.queue=q <;> by_cases h2:j.phase=3 <;> simp [List.filter_append,List.filter_cons,h1,h2]
def hasB (n:Int) (i:Nat):Bool:=decide (n / 2 ^ i % 2=1)
def Y7 (n:Int) (i:Nat):Int:=if hasB n i then 1 else 0
def wB (n:Int):Nat→Int
 | 0=>0
 | k+1=>wB n k+Y7 n k
def many (n:Int):Int:=wB n 6
theorem CC (n:Int):∀ k:Nat,0≤wB n k∧wB n k≤k
 | 0=>by simp [wB]
 | k+1=>by
   have:=CC n k
   unfold wB Y7
   split <;> omega
def bN (n lo hi:Int):Bool:=decide (lo≤n∧n≤hi)
def ez (nodes:Int) (takes:br→Bool):List br→Nat→Int→Bool
 | [],_,_=>true
 | n::l,i,v=>
   if hasB nodes i=false then ez nodes takes l (i+1) v
   else if takes n=true∧n.version=(if v=0 then n.version else v) then ez nodes takes l (i+1) (if v=0 then n.version else v) else false
def mZ (ns:List br) (j:bQ) (nodes:Int) (takes:br→Bool):Bool:=
 if nodes<0∨2 ^ ns.length≤nodes then false
 else if bN (many nodes) j.min j.max=true then ez nodes takes ns 0 j.pin else false
def mC (c:aF) (j:bQ):Bool:=bN j.queue 0 (c.bL-1)&&bN j.prio 0 9&&bN j.min 1 j.max&&bN j.max 1 c.nodes&&bN j.work 1 1000&&bN j.pin 0 9
def eP (p:Int):Bool:=decide (p=1∨p=2∨p=3)
def gH (c:aF):Bool:=bN c.nodes 1 6&&bN c.bL 1 3&&bN c.cE 0 4&&bN c.gT 1 6&&bN c.cc 2 30&&bN c.eG 1 20&&bN c.deadline 1 60&&bN c.room 0 5000&&bN c.ga 2000 40000
def kC (number:Int) (n:br):Bool:=n.up&&!n.bG&&decide (n.aQ=number)
def gW (c:aF) (s:aa) (j:bQ) (number:Int):Bool:=
 mC c j&&bN j.phase 0 4&&bN j.inc 0 1000000&&bN j.since 0 1000000&&bN j.til 0 1000000&&bN j.epoch 0 j.inc&&
 (if eP j.phase=true then mZ s.nodes j j.nodes (kC number) else decide (j.nodes=0))
def nD (s:aa) (n:br) (number:Nat):Bool:=
 bN n.version 1 9&&bN n.aQ 0 s.jobs.length&&!(n.bG&&(!n.up||!n.cQ||decide (n.aQ≠0)))&&
 (decide (n.aQ=0)||hasB (s.jobs.getD (n.aQ-1).toNat az).nodes number)
def fo (c:aF) (s:aa):List bQ→Nat→Bool
 | [],_=>true
 | j::l,k=>gW c s j (k+1)&&fo c s l (k+1)
def fH (s:aa):List br→Nat→Bool
 | [],_=>true
 | n::l,k=>nD s n k&&fH s l (k+1)
def ff (c:aF) (s:aa):Nat→Nat→Bool
 | _,0=>true
 | q,n+1=>!decide (c.cE<cV s.jobs q)&&ff c s (q+1) n
def iR (c:aF) (s:aa):Bool:=
 gH c&&decide ((s.nodes.length:Int)=c.nodes)&&decide (s.jobs.length≤24)&&bN s.goal 1 9&&bN s.prior 1 9&&bN s.mode 0 2&&bN s.term 0 1000000&&
 fo c s s.jobs 0&&fH s s.nodes 0&&ff c s 0 c.bL.toNat
theorem drop_cons {α:Type} (l:List α) (k:Nat) (z:α) (h:k<l.length):l.drop k=l.getD k z::l.drop (k+1):=by
 rw [List.drop_eq_getElem_cons h]; simp [List.getD,h]
end Dv
namespace Dv
def k_ (s:aa) (n:br):Bool:=n.up&&!n.bG&&decide (n.version≠gh s)
def uH (s:aa) (aQ:Int):Int:=(s.jobs.getD (aQ-1).toNat az).pin
def mH (s:aa) (n:br):Bool:=if n.aQ=0 then false else decide (uH s n.aQ≠0)&&decide (uH s n.aQ≠gh s)
def tY (s:aa) (i:Int):Bool:=if i<0∨(s.nodes.length:Int)≤i then false else mH s (s.nodes.getD i.toNat ai)
def qb (l:List br):Int:=((l.filter (·.cQ)).length:Int)
theorem NU (l:List br):0≤qb l∧qb l≤l.length:=by
 unfold qb
 have:=List.length_filter_le (fun n:br=>n.cQ) l
 omega
theorem Hv (l:List br) (n:br):qb (l++[n])=qb l+if n.cQ then 1 else 0:=by
 unfold qb
 cases h:n.cQ <;> simp [List.filter_append,List.filter_cons,h]
def Kg (s:aa) (n:br):Bool:=n.cQ&&n.up&&!n.bG&&(!k_ s n||mH s n)
def mz (c:aF) (s:aa) (now:Int) (n:br) (i:Int):Option cB:=
 if n.cQ=false∨k_ s n=false∨mH s n=true then none
 else if n.aQ=0 then some ⟨18,i,0,0,0,0,0⟩
 else
  let j:=s.jobs.getD (n.aQ-1).toNat az
  if j.phase=1 then some ⟨11,n.aQ,0,0,0,0,0⟩
  else if j.phase=2∧j.min<many (j.nodes % 64) then some ⟨20,n.aQ,i,0,0,0,0⟩
  else if j.phase=2∧cV s.jobs j.queue<c.cE then some ⟨12,n.aQ,(if 1000000≤now+c.deadline then 1000000 else now+c.deadline),0,0,0,0⟩
  else none
def Ff (c:aF) (s:aa) (n:br):Bool:=!n.cQ&&k_ s n&&!mH s n&&decide (qb s.nodes<c.gT)
def fM (f:br→Int→Option cB):List br→Nat→Option cB
 | [],_=>none
 | n::l,k=>match f n k with
   | some o=>some o
   | none=>fM f l (k+1)
def FF (s:aa) (n:br) (i:Int):Option cB:=if Kg s n=true then some ⟨17,i,0,0,0,0,0⟩ else none
def zz (c:aF) (s:aa) (n:br) (i:Int):Option cB:=if Ff c s n=true then some ⟨16,i,0,0,0,0,0⟩ else none
def Aj (c:aF) (s:aa) (now:Int):Option cB:=
 if s.mode=1 then none
 else match fM (FF s) s.nodes 0 with
  | some o=>some o
  | none=>match fM (mz c s now) s.nodes 0 with
    | some o=>some o
    | none=>fM (zz c s) s.nodes 0
structure EN (c:aF) (s:aa):Prop where
 vE:1≤c.nodes∧c.nodes≤6∧1≤c.bL∧c.bL≤3∧0≤c.cE∧c.cE≤4∧1≤c.gT∧c.gT≤6∧2≤c.cc∧c.cc≤30∧1≤c.eG∧c.eG≤20∧1≤c.deadline∧c.deadline≤60∧0≤c.room∧c.room≤5000∧2000≤c.ga∧c.ga≤40000
 nodes:(s.nodes.length:Int)=c.nodes
 jobs:s.jobs.length≤24
 ac8:1≤s.goal∧s.goal≤9∧1≤s.prior∧s.prior≤9∧0≤s.mode∧s.mode≤2∧0≤s.term∧s.term≤1000000
 Oe:∀ k,k<s.jobs.length→gW c s (s.jobs.getD k az) (k+1)=true
 sound:∀ k,k<s.nodes.length→nD s (s.nodes.getD k ai) k=true
 cE:∀ q:Nat,(q:Int)<c.bL→cV s.jobs q≤c.cE
theorem bp {n lo hi:Int} (h:bN n lo hi=true):lo≤n∧n≤hi:=of_decide_eq_true h
theorem qy (c:aF) (s:aa):∀ (l:List bQ) (k:Nat),fo c s l k=true→∀ i,i<l.length→gW c s (l.getD i az) ((k+i:Nat)+1)=true
 | [],_,_,i,hi=>by simp at hi
 | j::l,k,h,i,hi=>by
   unfold fo at h
   simp only [Bool.and_eq_true] at h
   cases i with
   | zero=>simpa using h.1
   | succ i=>
     have:=qy c s l (k+1) h.2 i (by simpa using hi)
     rw [show k+(i+1)=k+1+i by omega]
     simpa using this
theorem sG (s:aa):∀ (l:List br) (k:Nat),fH s l k=true→∀ i,i<l.length→nD s (l.getD i ai) (k+i)=true
 | [],_,_,i,hi=>by simp at hi
 | j::l,k,h,i,hi=>by
   unfold fH at h
   simp only [Bool.and_eq_true] at h
   cases i with
   | zero=>simpa using h.1
   | succ i=>
     have:=sG s l (k+1) h.2 i (by simpa using hi)
     rw [show k+(i+1)=k+1+i by omega]
     simpa using this
theorem sJ (c:aF) (s:aa):∀ (n q:Nat),ff c s q n=true→∀ i,i<n→cV s.jobs ((q+i:Nat):Int)≤c.cE
 | 0,_,_,i,hi=>by omega
 | n+1,q,h,i,hi=>by
   unfold ff at h
   simp only [Bool.and_eq_true,Bool.not_eq_true',decide_eq_false_iff_not] at h
   cases i with
   | zero=>have:=h.1; simp; omega
   | succ i=>
     have:=sJ c s n (q+1) h.2 i (by omega)
     rw [show q+(i+1)=q+1+i by omega]
     exact this
theorem uB {c:aF} {s:aa} (h:iR c s=true):EN c s:=by
 unfold iR gH at h
 simp only [Bool.and_eq_true,decide_eq_true_eq] at h
 obtain ⟨⟨⟨⟨⟨⟨⟨⟨⟨⟨⟨⟨⟨⟨⟨⟨⟨h1,h2⟩,h3⟩,h4⟩,h5⟩,h6⟩,h7⟩,h8⟩,h9⟩,n1⟩,n2⟩,g1⟩,g2⟩,g3⟩,g4⟩,st⟩,so⟩,qu⟩:=h
 have h1:=bp h1
 have h2:=bp h2
 have h3:=bp h3
 have h4:=bp h4
 have h5:=bp h5
 have h6:=bp h6
 have h7:=bp h7
 have h8:=bp h8
 have h9:=bp h9
 have g1:=bp g1
 have g2:=bp g2
 have g3:=bp g3
 have g4:=bp g4
 exact ⟨⟨h1.1,h1.2,h2.1,h2.2,h3.1,h3.2,h4.1,h4.2,h5.1,h5.2,h6.1,h6.2,h7.1,h7.2,h8.1,h8.2,h9.1,h9.2⟩,n1,n2,⟨g1.1,g1.2,g2.1,g2.2,g3.1,g3.2,g4.1,g4.2⟩,
  fun k hk=>by have:=qy c s s.jobs 0 st k hk; simpa using this,
  fun k hk=>by have:=sG s s.nodes 0 so k hk; simpa using this,
  fun q hq=>by have:=sJ c s _ 0 qu q (by omega); simpa using this⟩
theorem EN.node {c:aF} {s:aa} (h:EN c s) {k:Nat} (hk:k<s.nodes.length) :
  1≤(s.nodes.getD k ai).version∧(s.nodes.getD k ai).version≤9∧0≤(s.nodes.getD k ai).aQ∧(s.nodes.getD k ai).aQ≤s.jobs.length:=by
 have:=h.sound k hk
 unfold nD at this
 simp only [Bool.and_eq_true] at this
 have h1:=bp this.1.1.1
 have h2:=bp this.1.1.2
 omega
theorem EN.aQ {c:aF} {s:aa} (h:EN c s) {k:Nat} (hk:k<s.jobs.length) :
  let j:=s.jobs.getD k az
  (0≤j.queue∧j.queue≤c.bL-1)∧(0≤j.prio∧j.prio≤9)∧(1≤j.min∧j.min≤j.max)∧(1≤j.max∧j.max≤c.nodes)∧(1≤j.work∧j.work≤1000)∧(0≤j.pin∧j.pin≤9)∧(0≤j.phase∧j.phase≤4)∧(0≤j.inc∧j.inc≤1000000)∧(0≤j.since∧j.since≤1000000)∧(0≤j.til∧j.til≤1000000)∧(0≤j.epoch∧j.epoch≤j.inc):=by
 have:=h.Oe k hk
 unfold gW mC at this
 simp only [Bool.and_eq_true] at this
 obtain ⟨⟨⟨⟨⟨⟨⟨⟨⟨⟨⟨a1,a2⟩,a3⟩,a4⟩,a5⟩,a6⟩,b1⟩,b2⟩,b3⟩,b4⟩,b5⟩,_⟩:=this
 exact ⟨bp a1,bp a2,bp a3,bp a4,bp a5,bp a6,bp b1,bp b2,bp b3,bp b4,bp b5⟩
theorem OH (n:Nat) (h:n≤6):(2:Int) ^ n≤64:=by
 have:n=0∨n=1∨n=2∨n=3∨n=4∨n=5∨n=6:=by omega
 rcases this with h | h | h | h | h | h | h <;> subst h <;> simp
theorem EN.bits {c:aF} {s:aa} (h:EN c s) {k:Nat} (hk:k<s.jobs.length):0≤(s.jobs.getD k az).nodes∧(s.jobs.getD k az).nodes<64:=by
 have:=h.Oe k hk
 have hc:=h.vE
 have hn:=h.nodes
 unfold gW at this
 simp only [Bool.and_eq_true] at this
 have h2:=this.2
 split at h2
 ·unfold mZ at h2
  split at h2
  ·cases h2
  ·rename_i hq
   have:=OH s.nodes.length (by omega)
   omega
 ·have:=of_decide_eq_true h2
  omega
end Dv
namespace Dv
theorem m_ (f:br→Int→Option cB):∀ (l:List br) (k:Nat) (o:cB),fM f l k=some o→∃ i,i<l.length∧f (l.getD i ai) ((k+i:Nat):Int)=some o
 | [],_,_,h=>by simp [fM] at h
 | n::l,k,o,h=>by
   unfold fM at h
   cases hf:f n k with
   | some p=>
     rw [hf] at h
     exact ⟨0,by simp,by simpa using hf.trans h⟩
   | none=>
     rw [hf] at h
     obtain ⟨i,hi,h2⟩:=m_ f l (k+1) o h
     refine ⟨i+1,by simpa using hi,?_⟩
     rw [show k+(i+1)=k+1+i by omega]
     simpa using h2
inductive ud (s:aa):cB→Prop where
 | opened (a:Int):ud s ⟨17,a,0,0,0,0,0⟩
 | shut (a:Int) (h:tY s a=false):ud s ⟨16,a,0,0,0,0,0⟩
 | move (a:Int) (h:tY s a=false):ud s ⟨18,a,0,0,0,0,0⟩
 | shrink (j a:Int) (h:tY s a=false):ud s ⟨20,j,a,0,0,0,0⟩
 | Zn (i:Nat) (hi:i<s.nodes.length) (h0:(s.nodes.getD i ai).aQ≠0) (h:uH s (s.nodes.getD i ai).aQ=0∨uH s (s.nodes.getD i ai).aQ=gh s):ud s ⟨11,(s.nodes.getD i ai).aQ,0,0,0,0,0⟩
 | drain (i:Nat) (t:Int) (hi:i<s.nodes.length) (h0:(s.nodes.getD i ai).aQ≠0) (h:uH s (s.nodes.getD i ai).aQ=0∨uH s (s.nodes.getD i ai).aQ=gh s):ud s ⟨12,(s.nodes.getD i ai).aQ,t,0,0,0,0⟩
theorem rI (s:aa) (i:Nat) (hi:i<s.nodes.length):tY s (i:Int)=mH s (s.nodes.getD i ai):=by
 unfold tY
 rw [if_neg (by omega)]
 simp
theorem Ij (c:aF) (s:aa) (now:Int) (o:cB) (h:Aj c s now=some o):ud s o:=by
 unfold Aj at h
 split at h
 ·cases h
 cases h1:fM (FF s) s.nodes 0 with
 | some p=>
   rw [h1] at h
   obtain ⟨i,hi,h2⟩:=m_ _ _ _ _ h1
   cases h
   unfold FF at h2
   split at h2
   ·cases h2; exact .opened _
   ·cases h2
 | none=>
   rw [h1] at h
   cases h3:fM (mz c s now) s.nodes 0 with
   | some p=>
     rw [h3] at h
     cases h
     obtain ⟨i,hi,h2⟩:=m_ _ _ _ _ h3
     have ha:=rI s i hi
     rw [Nat.zero_add] at h2
     unfold mz at h2
     split at h2
     ·cases h2
     rename_i hn
     have hal:mH s (s.nodes.getD i ai)=false:=by
      cases hx:mH s (s.nodes.getD i ai) with
      | false=>rfl
      | true=>exact absurd (Or.inr (Or.inr hx)) hn
     rw [hal] at ha
     split at h2
     ·cases h2; exact .move _ ha
     rename_i h0
     have hp:uH s (s.nodes.getD i ai).aQ=0∨uH s (s.nodes.getD i ai).aQ=gh s:=by
      unfold mH at hal
      rw [if_neg h0] at hal
      simp only [Bool.and_eq_false_iff,decide_eq_false_iff_not,Decidable.not_not] at hal
      exact hal
     dsimp only at h2
     split at h2
     ·cases h2; exact .Zn i hi h0 hp
     split at h2
     ·cases h2; exact .shrink _ _ ha
     split at h2
     ·cases h2; exact .drain i _ hi h0 hp
     ·cases h2
   | none=>
     rw [h3] at h
     obtain ⟨i,hi,h2⟩:=m_ _ _ _ _ h
     have ha:=rI s i hi
     rw [Nat.zero_add] at h2
     unfold zz at h2
     split at h2
     ·rename_i hs
      cases h2
      refine .shut _ (ha.trans ?_)
      unfold Ff at hs
      simp only [Bool.and_eq_true,Bool.not_eq_true'] at hs
      exact hs.1.2
     ·cases h2
end Dv
namespace Dv
def iq {α:Type} (g:Nat→α→α) (l:List α) (k:Nat):List α:=l.mapIdx fun i x=>if i<k then g i x else x
section
variable {α:Type} (g:Nat→α→α) (l:List α)
@[simp] theorem oF (k:Nat):(iq g l k).length=l.length:=by simp [iq]
theorem y_:iq g l 0=l:=by
 apply List.ext_getElem
 ·simp
 ·intro i h1 h2; simp [iq]
theorem zb:iq g l l.length=l.mapIdx g:=by
 apply List.ext_getElem
 ·simp
 ·intro i h1 h2
  simp at h1
  simp [iq,h1]
theorem E7 {k:Nat} (h:k<l.length):(iq g l k)[k]? = some l[k]:=by
 simp [iq,h]
theorem vU {k:Nat} {x:α} (h:k<l.length) (hx:g k l[k]=x):(iq g l k).set k x=iq g l (k+1):=by
 apply List.ext_getElem
 ·simp
 ·intro i h1 h2
  simp only [iq,List.getElem_set,List.getElem_mapIdx]
  by_cases hi:k=i
  ·subst hi; simp [hx]
  ·rw [if_neg hi]
   by_cases h3:i<k
   ·rw [if_pos h3,if_pos (by omega)]
   ·rw [if_neg h3,if_neg (by omega)]
theorem za {k:Nat} (h:k<l.length) (hx:g k l[k]=l[k]):iq g l k=iq g l (k+1):=by
 rw [← vU g l h hx]
 apply List.ext_getElem
 ·simp
 ·intro i h1 h2
  rw [List.getElem_set]
  split
  ·rename_i h; subst h; simp [iq]
  ·rfl
end
def dh (s:aa) (i:Int):br:=s.nodes.getD i.toNat ai
def eC (s:aa) (a:Int):bQ:=s.jobs.getD (a-1).toNat az
def mq (n:br):Bool:=n.up&&!n.cQ&&!n.bG&&decide (n.aQ=0)
def ki (s:aa) (i:Int) (n:br):aa:={ s with nodes:=s.nodes.set i.toNat n }
def gr (s:aa) (a:Int) (j:bQ):aa:={ s with jobs:=s.jobs.set (a-1).toNat j }
def lets (number:Int) (_:Nat) (n:br):br:=if n.aQ=number then { n with aQ:=0 } else n
def gL (bits number:Int) (i:Nat) (n:br):br:=if hasB bits i then { n with aQ:=number } else n
def eu (s:aa) (number phase:Int):aa:=
 { s with nodes:=s.nodes.mapIdx (lets number),jobs:=s.jobs.set (number-1).toNat { eC s number with phase:=phase,nodes:=0,since:=0,til:=0 } }
def nK (o:cB):bQ:=⟨o.a,o.b,o.c,o.d,o.e,o.f,0,0,0,0,0,0⟩
def j3 (c:aF) (s:aa) (o:cB):aa×Int:=if mC c (nK o)=false then (s,1) else if 24≤s.jobs.length then (s,3) else ({ s with jobs:=s.jobs++[nK o] },0)
def k9 (s:aa) (o:cB):aa×Int:=if (eC s o.a).phase=4 then (s,5) else (eu s o.a 4,0)
def kU (s:aa) (o:cB):aa×Int:=if bN o.a 1 9=false then (s,1) else ({ s with prior:=gh s,goal:=o.a,mode:=0 },0)
def iG (s:aa) (ok:Bool) (to:Int):aa×Int:=if ok=true then ({ s with mode:=to },0) else (s,5)
def sY (s:aa) (o:cB):aa×Int:=if (dh s o.a).up=false then (s,5) else
 let t:=if (dh s o.a).aQ≠0 then eu s (dh s o.a).aQ 0 else s
 (ki t o.a { dh t o.a with up:=false,bG:=false },0)
def RJ (s:aa) (o:cB):aa×Int:=if bN o.b 1 9=false then (s,1) else if (dh s o.a).up=true then (s,5) else (ki s o.a { dh s o.a with up:=true,version:=o.b },0)
def pT (s:aa) (o:cB):aa×Int:=if (eC s o.a).phase≠0 then (s,5) else if mZ s.nodes (eC s o.a) o.b mq=false∨1000000≤(eC s o.a).inc then (s,8) else
 ({ gr s o.a { eC s o.a with phase:=1,inc:=(eC s o.a).inc+1,nodes:=o.b } with nodes:=s.nodes.mapIdx (gL o.b o.a) },0)
def oI (s:aa) (o:cB):aa×Int:=if (eC s o.a).phase≠1 then (s,5) else (gr s o.a { eC s o.a with phase:=2,since:=o.b },0)
def kT (s:aa) (o:cB):aa×Int:=if (eC s o.a).phase≠1 then (s,5) else (eu s o.a 0,0)
def nP (c:aF) (s:aa) (o:cB):aa×Int:=if (eC s o.a).phase≠2 then (s,5) else if c.cE≤cV s.jobs (eC s o.a).queue then (s,7) else (gr s o.a { eC s o.a with phase:=3,til:=o.b },0)
def ux (j:bQ):Bool:=decide (j.phase=2)||decide (j.phase=3)
def kD (s:aa) (o:cB):aa×Int:=if ux (eC s o.a)=false then (s,5) else if o.b≠(eC s o.a).inc∨o.b≤(eC s o.a).epoch then (s,6) else (gr s o.a { eC s o.a with epoch:=o.b },0)
def pF (s:aa) (o:cB):aa×Int:=if (eC s o.a).phase≠3 then (s,5) else (eu s o.a 0,0)
def vz (s:aa) (o:cB):aa×Int:=if ux (eC s o.a)=false then (s,5) else (eu s o.a 4,0)
def nh (s:aa) (o:cB):aa×Int:=if (dh s o.a).up=false∨(dh s o.a).cQ=true then (s,5) else (ki s o.a { dh s o.a with cQ:=true },0)
def iX (s:aa) (o:cB):aa×Int:=if (dh s o.a).cQ=false∨(dh s o.a).bG=true then (s,5) else (ki s o.a { dh s o.a with cQ:=false },0)
def xM (s:aa) (o:cB):aa×Int:=if (dh s o.a).up=false∨(dh s o.a).cQ=false∨(dh s o.a).bG=true∨(dh s o.a).aQ≠0 then (s,5) else (ki s o.a { dh s o.a with bG:=true },0)
def nM (s:aa) (o:cB):aa×Int:=if bN o.b 1 9=false then (s,1) else if (dh s o.a).bG=false then (s,5) else (ki s o.a { dh s o.a with version:=o.b,bG:=false,cQ:=false },0)
def mW (n b:Int):Int:=if hasB n b.toNat then n-2 ^ b.toNat else n
def gX (s:aa) (o:cB):aa×Int:=if (s.nodes.length:Int)≤o.b then (s,4) else if (eC s o.a).phase≠2 then (s,5) else if (dh s o.b).aQ≠o.a∨many (eC s o.a).nodes≤(eC s o.a).min then (s,8) else
 (ki (gr s o.a { eC s o.a with nodes:=mW (eC s o.a).nodes o.b }) o.b { dh s o.b with aQ:=0 },0)
def ey (s:aa):aa×Int:=if 1000000≤s.term then (s,3) else ({ s with term:=s.term+1 },0)
def ej (k:Int):Nat:=if k=1 then 6 else if k=4∨k=5∨k=6∨k=21 then 0 else if k=8∨k=9∨k=10∨k=12∨k=13∨k=19∨k=20 then 2 else 1
def pR (n:Int) (given:Bool):Bool:=decide (0≤n∧n≤1000000)&&(given||decide (n=0))
def fc (o:cB):Bool:=decide (1≤o.kind∧o.kind≤21)&&pR o.a (decide (0<ej o.kind))&&pR o.b (decide (1<ej o.kind))&&pR o.c (decide (2<ej o.kind))&&pR o.d (decide (3<ej o.kind))&&pR o.e (decide (4<ej o.kind))&&pR o.f (decide (5<ej o.kind))
def Iy (k:Int):Bool:=decide (k=2∨k=9∨k=10∨k=11∨k=12∨k=13∨k=14∨k=15∨k=20)
def Ai (k:Int):Bool:=decide (k=7∨k=8∨k=16∨k=17∨k=18∨k=19)
def bV (c:aF) (s:aa) (o:cB):aa×Int:=
 if o.kind=1 then j3 c s o else if o.kind=2 then k9 s o else if o.kind=3 then kU s o
 else if o.kind=4 then iG s (s.mode==0) 1 else if o.kind=5 then iG s (s.mode==1) 0 else if o.kind=6 then iG s (s.mode !=2) 2
 else if o.kind=7 then sY s o else if o.kind=8 then RJ s o else if o.kind=9 then pT s o else if o.kind=10 then oI s o
 else if o.kind=11 then kT s o else if o.kind=12 then nP c s o else if o.kind=13 then kD s o else if o.kind=14 then pF s o
 else if o.kind=15 then vz s o else if o.kind=16 then nh s o else if o.kind=17 then iX s o else if o.kind=18 then xM s o
 else if o.kind=19 then nM s o else if o.kind=20 then gX s o else ey s
def nT:aa:=⟨[],[],0,0,0,0⟩
def Bq (c:aF) (s:aa) (o:cB):aa×Int:=
 if fc o=false then (s,1)
 else if Iy o.kind=true∧(o.a<1∨(s.jobs.length:Int)<o.a) then (s,4)
 else if Ai o.kind=true∧(s.nodes.length:Int)≤o.a then (s,4)
 else bV c s o
def aZ (c:aF) (s:aa) (o:cB):aa×Int:=if iR c s=false then (nT,1) else Bq c s o
end Dv
namespace Dv
def ec (s:aa) (i:Nat):br:=s.nodes.getD i ai
def dR (s:aa) (k:Nat):bQ:=s.jobs.getD k az
structure xq (c:aF) (j:bQ):Prop where
 asked:mC c j=true
 phase:0≤j.phase∧j.phase≤4
 inc:0≤j.inc∧j.inc≤1000000
 since:0≤j.since∧j.since≤1000000
 til:0≤j.til∧j.til≤1000000
 epoch:0≤j.epoch∧j.epoch≤j.inc
structure tZ (ns:List br) (j:bQ):Prop where
 lo:0≤j.nodes
 hi:j.nodes<2 ^ ns.length
 many:j.min≤many j.nodes∧many j.nodes≤j.max
 NW:∃ u,(j.pin=0∨u=j.pin)∧∀ i,i<ns.length→hasB j.nodes i=true→(ns.getD i ai).version=u
structure bU (c:aF) (s:aa):Prop where
 vE:gH c=true
 nodes:(s.nodes.length:Int)=c.nodes
 jobs:s.jobs.length≤24
 goal:1≤s.goal∧s.goal≤9
 prior:1≤s.prior∧s.prior≤9
 mode:0≤s.mode∧s.mode≤2
 term:0≤s.term∧s.term≤1000000
 num:∀ k,k<s.jobs.length→xq c (dR s k)
 nH:∀ k,k<s.jobs.length→eP (dR s k).phase=true→tZ s.nodes (dR s k)
 idle:∀ k,k<s.jobs.length→eP (dR s k).phase=false→(dR s k).nodes=0
 NW:∀ i,i<s.nodes.length→1≤(ec s i).version∧(ec s i).version≤9
 aQ:∀ i,i<s.nodes.length→0≤(ec s i).aQ∧(ec s i).aQ≤s.jobs.length
 bG:∀ i,i<s.nodes.length→(ec s i).bG=true→(ec s i).up=true∧(ec s i).cQ=true∧(ec s i).aQ=0
 up:∀ i,i<s.nodes.length→(ec s i).aQ≠0→(ec s i).up=true
 link:∀ i k,i<s.nodes.length→k<s.jobs.length→(hasB (dR s k).nodes i=true↔(ec s i).aQ=k+1)
 cE:∀ q:Nat,(q:Int)<c.bL→cV s.jobs q≤c.cE
theorem o8 {c:aF} (h:gH c=true):1≤c.nodes∧c.nodes≤6:=by
 unfold gH at h
 simp only [Bool.and_eq_true] at h
 exact bp h.1.1.1.1.1.1.1.1
theorem bU.len {c:aF} {s:aa} (h:bU c s):1≤s.nodes.length∧s.nodes.length≤6:=by
 have:=o8 h.vE
 have:=h.nodes
 omega
theorem q_ (i:Nat):hasB 0 i=false:=by simp [hasB]
theorem vq (m:Int) (takes:br→Bool):∀ (l:List br) (i:Nat) (v:Int),(∀ k,k<l.length→1≤(l.getD k ai).version)→
  (ez m takes l i v=true↔∃ u,(v=0∨u=v)∧∀ k,k<l.length→hasB m (i+k)=true→takes (l.getD k ai)=true∧(l.getD k ai).version=u)
 | [],i,v,_=>by
   simp only [ez,List.length_nil,true_iff]
   exact ⟨v,.inr rfl,fun k hk=>by omega⟩
 | n::l,i,v,hv=>by
   have h0:1≤n.version:=by simpa using hv 0 (by simp)
   have ih:=fun v=>vq m takes l (i+1) v (fun k hk=>by simpa using hv (k+1) (by simpa using hk))
   have shift:∀ u,(∀ k,k<(n::l).length→hasB m (i+k)=true→takes ((n::l).getD k ai)=true∧((n::l).getD k ai).version=u)↔
     (hasB m i=true→takes n=true∧n.version=u)∧∀ k,k<l.length→hasB m (i+1+k)=true→takes (l.getD k ai)=true∧(l.getD k ai).version=u:=by
    intro u
    refine ⟨fun h=>⟨fun h1=>by simpa using h 0 (by simp) h1,fun k hk h1=>?_⟩,fun h k hk h1=>?_⟩
    ·have:=h (k+1) (by simpa using hk) (by rw [← h1]; congr 1; omega)
     simpa using this
    ·cases k with
     | zero=>simpa using h.1 h1
     | succ k=>
       have:=h.2 k (by simpa using hk) (by rw [← h1]; congr 1; omega)
       simpa using this
   unfold ez
   by_cases hb:hasB m i=false
   ·rw [if_pos hb,ih v]
    refine exists_congr fun u=>and_congr_right fun _=>?_
    rw [shift u]
    simp [hb]
   ·rw [if_neg hb]
    have hb':hasB m i=true:=by simpa using hb
    by_cases ht:takes n=true
    ·by_cases hq:n.version=(if v=0 then n.version else v)
     ·rw [if_pos ⟨ht,hq⟩,ih,← hq]
      constructor
      ·rintro ⟨u,h1,h2⟩
       have hu:u=n.version:=by omega
       refine ⟨u,?_,(shift u).2 ⟨fun _=>⟨ht,hu.symm⟩,h2⟩⟩
       by_cases h3:v=0
       ·exact .inl h3
       ·rw [if_neg h3] at hq; exact .inr (by omega)
      ·rintro ⟨u,h1,h2⟩
       obtain ⟨h3,h4⟩:=(shift u).1 h2
       exact ⟨u,.inr (h3 hb').2.symm,h4⟩
     ·rw [if_neg (fun h=>hq h.2)]
      refine ⟨fun h=>(by cases h),?_⟩
      rintro ⟨u,h1,h2⟩
      have h3:=((shift u).1 h2).1 hb'
      refine absurd ?_ hq
      by_cases h4:v=0
      ·rw [if_pos h4]
      ·rw [if_neg h4]; omega
    ·rw [if_neg (fun h=>ht h.1)]
     refine ⟨fun h=>(by cases h),?_⟩
     rintro ⟨u,h1,h2⟩
     exact absurd (((shift u).1 h2).1 hb').1 ht
theorem C9 (ns:List br) (j:bQ) (m:Int) (takes:br→Bool) (hv:∀ k,k<ns.length→1≤(ns.getD k ai).version) :
  mZ ns j m takes=true↔(0≤m∧m<2 ^ ns.length)∧(j.min≤many m∧many m≤j.max)∧∃ u,(j.pin=0∨u=j.pin)∧∀ k,k<ns.length→hasB m k=true→takes (ns.getD k ai)=true∧(ns.getD k ai).version=u:=by
 unfold mZ
 by_cases h1:m<0∨2 ^ ns.length≤m
 ·rw [if_pos h1]
  refine ⟨fun h=>(by cases h),fun h=>?_⟩
  omega
 ·rw [if_neg h1]
  by_cases h2:bN (many m) j.min j.max=true
  ·rw [if_pos h2,vq m takes ns 0 j.pin hv]
   have h3:=bp h2
   simp only [Nat.zero_add]
   exact ⟨fun h=>⟨by omega,h3,h⟩,fun h=>h.2.2⟩
  ·rw [if_neg h2]
   refine ⟨fun h=>(by cases h),fun h=>absurd ?_ h2⟩
   exact decide_eq_true h.2.1
theorem xx (c:aF) (s:aa) (j:bQ) (number:Int) (hv:∀ k,k<s.nodes.length→1≤(s.nodes.getD k ai).version) :
  gW c s j number=true↔xq c j∧(eP j.phase=true→tZ s.nodes j∧∀ i,i<s.nodes.length→hasB j.nodes i=true→kC number (ec s i)=true)∧(eP j.phase=false→j.nodes=0):=by
 unfold gW
 simp only [Bool.and_eq_true]
 have key:(if eP j.phase=true then mZ s.nodes j j.nodes (kC number) else decide (j.nodes=0))=true↔(eP j.phase=true→tZ s.nodes j∧∀ i,i<s.nodes.length→hasB j.nodes i=true→kC number (ec s i)=true)∧(eP j.phase=false→j.nodes=0):=by
  cases hp:eP j.phase with
  | true=>
    rw [if_pos rfl,C9 _ _ _ _ hv]
    constructor
    ·rintro ⟨⟨a,b⟩,e,u,f,g⟩
     exact ⟨fun _=>⟨⟨a,b,e,u,f,fun i hi h=>(g i hi h).2⟩,fun i hi h=>(g i hi h).1⟩,fun h=>by cases h⟩
    ·rintro ⟨h,_⟩
     obtain ⟨⟨a,b,e,u,f,g⟩,h⟩:=h rfl
     exact ⟨⟨a,b⟩,e,u,f,fun i hi hb=>⟨h i hi hb,g i hi hb⟩⟩
  | false=>simp
 rw [key]
 constructor
 ·rintro ⟨⟨⟨⟨⟨⟨a,b⟩,d⟩,e⟩,f⟩,g⟩,h⟩
  exact ⟨⟨a,bp b,bp d,bp e,bp f,bp g⟩,h⟩
 ·rintro ⟨⟨a,b,d,e,f,g⟩,h⟩
  exact ⟨⟨⟨⟨⟨⟨a,decide_eq_true b⟩,decide_eq_true d⟩,decide_eq_true e⟩,decide_eq_true f⟩,decide_eq_true g⟩,h⟩
theorem lQ (c:aF) (s:aa):∀ (l:List bQ) (k:Nat),fo c s l k=true↔∀ i,i<l.length→gW c s (l.getD i az) ((k+i:Nat)+1)=true
 | [],k=>by simp [fo]
 | j::l,k=>by
   unfold fo
   rw [Bool.and_eq_true,lQ c s l (k+1)]
   constructor
   ·rintro ⟨h1,h2⟩ i hi
    cases i with
    | zero=>simpa using h1
    | succ i=>
      have:=h2 i (by simpa using hi)
      rw [show k+(i+1)=k+1+i by omega]
      simpa using this
   ·intro h
    refine ⟨by simpa using h 0 (by simp),fun i hi=>?_⟩
    have:=h (i+1) (by simpa using hi)
    rw [show k+1+i=k+(i+1) by omega]
    simpa using this
theorem nC (s:aa):∀ (l:List br) (k:Nat),fH s l k=true↔∀ i,i<l.length→nD s (l.getD i ai) (k+i)=true
 | [],k=>by simp [fH]
 | j::l,k=>by
   unfold fH
   rw [Bool.and_eq_true,nC s l (k+1)]
   constructor
   ·rintro ⟨h1,h2⟩ i hi
    cases i with
    | zero=>simpa using h1
    | succ i=>
      have:=h2 i (by simpa using hi)
      rw [show k+(i+1)=k+1+i by omega]
      simpa using this
   ·intro h
    refine ⟨by simpa using h 0 (by simp),fun i hi=>?_⟩
    have:=h (i+1) (by simpa using hi)
    rw [show k+1+i=k+(i+1) by omega]
    simpa using this
theorem nG (c:aF) (s:aa):∀ (n q:Nat),ff c s q n=true↔∀ i,i<n→cV s.jobs ((q+i:Nat):Int)≤c.cE
 | 0,q=>by simp [ff]
 | n+1,q=>by
   unfold ff
   rw [Bool.and_eq_true,nG c s n (q+1),Bool.not_eq_true',decide_eq_false_iff_not]
   constructor
   ·rintro ⟨h1,h2⟩ i hi
    cases i with
    | zero=>simpa using h1
    | succ i=>
      have:=h2 i (by omega)
      rw [show q+(i+1)=q+1+i by omega]
      exact this
   ·intro h
    refine ⟨by have:=h 0 (by omega); simpa using this,fun i hi=>?_⟩
    have:=h (i+1) (by omega)
    rw [show q+1+i=q+(i+1) by omega]
    exact this
theorem zy (s:aa) (n:br) (i:Nat):nD s n i=true↔(1≤n.version∧n.version≤9)∧(0≤n.aQ∧n.aQ≤s.jobs.length)∧(n.bG=true→n.up=true∧n.cQ=true∧n.aQ=0)∧(n.aQ≠0→hasB (s.jobs.getD (n.aQ-1).toNat az).nodes i=true):=by
 unfold nD bN
 cases n.bG <;> cases n.up <;> cases n.cQ <;> by_cases h0:n.aQ=0 <;> simp [h0,and_assoc]
theorem d_ (c:aF) (s:aa):iR c s=true↔bU c s:=by
 unfold iR
 simp only [Bool.and_eq_true]
 constructor
 ·rintro ⟨⟨⟨⟨⟨⟨⟨⟨⟨h1,h2⟩,h3⟩,h4⟩,h5⟩,h6⟩,h7⟩,h8⟩,h9⟩,h10⟩
  rw [lQ] at h8
  rw [nC] at h9
  rw [nG] at h10
  have h3:=of_decide_eq_true h3
  have hs:∀ i,i<s.nodes.length→_:=fun i hi=>(zy s (s.nodes.getD i ai) i).1 (by simpa using h9 i hi)
  have hv:∀ k,k<s.nodes.length→1≤(s.nodes.getD k ai).version:=fun k hk=>(hs k hk).1.1
  have hst:∀ i,i<s.jobs.length→_:=fun i hi=>(xx c s (s.jobs.getD i az) (i+1) hv).1 (by simpa using h8 i hi)
  have sQ:∀ i k,i<s.nodes.length→k<s.jobs.length→hasB (dR s k).nodes i=true→kC (k+1) (ec s i)=true:=fun i k hi hk hb=>by
   cases hp:eP (s.jobs.getD k az).phase with
   | true=>exact ((hst k hk).2.1 hp).2 i hi hb
   | false=>
     have:=(hst k hk).2.2 hp
     unfold dR at hb
     rw [this,q_] at hb; cases hb
  have hl2:∀ i k,i<s.nodes.length→k<s.jobs.length→(ec s i).aQ=k+1→hasB (dR s k).nodes i=true:=fun i k hi hk hj=>by
   have:=(hs i hi).2.2.2 (by unfold ec at hj; omega)
   unfold ec at hj
   rw [hj] at this
   simpa [dR] using this
  refine ⟨h1,of_decide_eq_true h2,h3,bp h4,bp h5,bp h6,bp h7,fun k hk=>(hst k hk).1,fun k hk hp=>((hst k hk).2.1 hp).1,fun k hk hp=>(hst k hk).2.2 hp,fun i hi=>(hs i hi).1,fun i hi=>(hs i hi).2.1,fun i hi=>(hs i hi).2.2.1,fun i hi h0=>?_,fun i k hi hk=>⟨fun hb=>?_,hl2 i k hi hk⟩,fun q hq=>?_⟩
  ·have h:=(hs i hi).2.1
   have:=sQ i ((ec s i).aQ-1).toNat hi (by unfold ec at *; omega) (hl2 i _ hi (by unfold ec at *; omega) (by unfold ec at *; omega))
   simp only [kC,Bool.and_eq_true] at this
   exact this.1.1
  ·have:=sQ i k hi hk hb
   simp only [kC,Bool.and_eq_true,decide_eq_true_eq] at this
   exact this.2
  ·have:=h10 q (by omega)
   simpa using this
 ·intro h
  have hv:∀ k,k<s.nodes.length→1≤(s.nodes.getD k ai).version:=fun k hk=>(h.NW k hk).1
  refine ⟨⟨⟨⟨⟨⟨⟨⟨⟨h.vE,decide_eq_true h.nodes⟩,decide_eq_true h.jobs⟩,decide_eq_true h.goal⟩,decide_eq_true h.prior⟩,decide_eq_true h.mode⟩,decide_eq_true h.term⟩,?_⟩,?_⟩,?_⟩
  ·rw [lQ]
   intro k hk
   rw [Nat.zero_add,xx _ _ _ _ hv]
   refine ⟨h.num k hk,fun hp=>⟨h.nH k hk hp,fun i hi hb=>?_⟩,h.idle k hk⟩
   have hj:=(h.link i k hi hk).1 hb
   have hm:(ec s i).bG=false:=by
    cases hm:(ec s i).bG with
    | false=>rfl
    | true=>have:=(h.bG i hi hm).2.2; omega
   simp only [kC,Bool.and_eq_true,decide_eq_true_eq,hm,h.up i hi (by omega),hj,Bool.not_false,and_self]
  ·rw [nC]
   intro i hi
   rw [Nat.zero_add,zy]
   refine ⟨h.NW i hi,h.aQ i hi,h.bG i hi,fun h0=>?_⟩
   have hj:=h.aQ i hi
   have:=(h.link i ((ec s i).aQ-1).toNat hi (by unfold ec at *; omega)).2 (by unfold ec at *; omega)
   exact this
  ·rw [nG]
   intro i hi
   have:=h.cE i (by omega)
   simpa using this
end Dv
namespace Dv
end Dv
namespace Dv
theorem AP {α:Type} (l:List α) (k i:Nat) (x z:α) (h:k<l.length):(l.set k x).getD i z=if i=k then x else l.getD i z:=by
 by_cases hi:i=k
 ·subst hi; simp [List.getD,h]
 ·rw [if_neg hi]; simp [List.getD,List.getElem?_set_ne (fun e=>hi e.symm)]
theorem mX {α:Type} (l:List α) (g:Nat→α→α) (i:Nat) (z:α) (h:i<l.length):(l.mapIdx g).getD i z=g i (l.getD i z):=by
 simp [List.getD,h]
def Ee (q:Int) (j:bQ):Bool:=decide (j.queue=q)&&decide (j.phase=3)
theorem vw (j:bQ) (l:List bQ) (q:Int):cV (j::l) q=(if Ee q j then 1 else 0)+cV l q:=by
 unfold cV
 have:(fun j:bQ=>decide (j.queue=q)&&decide (j.phase=3))=Ee q:=rfl
 rw [this]
 cases h:Ee q j
 ·simp [List.filter_cons,h]
 ·simp [List.filter_cons,h]; omega
theorem xZ (q:Int) (j':bQ):∀ (l:List bQ) (k:Nat),k<l.length→cV (l.set k j') q+(if Ee q (l.getD k az) then 1 else 0)=cV l q+(if Ee q j' then 1 else 0)
 | [],k,h=>by simp at h
 | j::l,0,_=>by
   simp only [List.set_cons_zero,vw,List.getD_cons_zero]
   omega
 | j::l,k+1,h=>by
   have:=xZ q j' l k (by simpa using h)
   simp only [List.set_cons_succ,vw,List.getD_cons_succ]
   omega
theorem A0 (q:Int) (j:bQ) (l:List bQ):cV (l++[j]) q=cV l q+(if Ee q j then 1 else 0):=by
 rw [vv]
 unfold Ee
 by_cases h1:j.queue=q <;> by_cases h2:j.phase=3 <;> simp [h1,h2]
structure nA (c:aF) (s:aa) (k0:Nat) (j':bQ) (ns':List br):Prop where
 hk:k0<s.jobs.length
 num:xq c j'
 fixed:j'.queue=(dR s k0).queue∧j'.prio=(dR s k0).prio∧j'.min=(dR s k0).min∧j'.max=(dR s k0).max∧j'.work=(dR s k0).work∧j'.pin=(dR s k0).pin
 grow:(dR s k0).inc≤j'.inc∧(dR s k0).epoch≤j'.epoch
 ended:(dR s k0).phase≠4
 len:ns'.length=s.nodes.length
 same:∀ i,i<s.nodes.length→(ns'.getD i ai).up=(ec s i).up∧(ns'.getD i ai).cQ=(ec s i).cQ∧(ns'.getD i ai).bG=(ec s i).bG∧(ns'.getD i ai).version=(ec s i).version
 nH:eP j'.phase=true→tZ s.nodes j'
 idle:eP j'.phase=false→j'.nodes=0
 link:∀ i,i<s.nodes.length→(hasB j'.nodes i=true↔(ns'.getD i ai).aQ=k0+1)
 others:∀ i k,i<s.nodes.length→k<s.jobs.length→k≠k0→((ns'.getD i ai).aQ=k+1↔(ec s i).aQ=k+1)
 range:∀ i,i<s.nodes.length→0≤(ns'.getD i ai).aQ∧(ns'.getD i ai).aQ≤s.jobs.length
 use:∀ i,i<s.nodes.length→(ns'.getD i ai).aQ≠0→(ec s i).up=true∧(ec s i).bG=false
 cE:j'.phase=3→(dR s k0).phase=3∨cV s.jobs (dR s k0).queue<c.cE
structure vM (s:aa) (i0:Nat) (n':br):Prop where
 hi:i0<s.nodes.length
 NW:1≤n'.version∧n'.version≤9
 aQ:n'.aQ=(ec s i0).aQ
 keep:(ec s i0).aQ≠0→n'.version=(ec s i0).version
 bG:n'.bG=true→n'.up=true∧n'.cQ=true∧n'.aQ=0
 up:n'.aQ≠0→n'.up=true
structure Li (s:aa) (g p m t:Int):Prop where
 goal:1≤g∧g≤9
 prior:1≤p∧p≤9
 mode:0≤m∧m≤2
 term:s.term≤t∧t≤1000000
structure G9 (c:aF) (s:aa) (j:bQ):Prop where
 len:s.jobs.length<24
 num:xq c j
 phase:j.phase=0
 nodes:j.nodes=0
inductive Step (c:aF) (s:aa):aa→Prop where
 | num {g p m t:Int} (h:Li s g p m t):Step c s { s with goal:=g,prior:=p,mode:=m,term:=t }
 | aQ {k0:Nat} {j':bQ} {ns':List br} (h:nA c s k0 j' ns'):Step c s { s with nodes:=ns',jobs:=s.jobs.set k0 j' }
 | node {i0:Nat} {n':br} (h:vM s i0 n'):Step c s { s with nodes:=s.nodes.set i0 n' }
 | both {k0:Nat} {j':bQ} {ns':List br} {i0:Nat} {n':br} (h:nA c s k0 j' ns') (h2:vM { s with nodes:=ns',jobs:=s.jobs.set k0 j' } i0 n'):Step c s { s with nodes:=ns'.set i0 n',jobs:=s.jobs.set k0 j' }
 | more {j:bQ} (h:G9 c s j):Step c s { s with jobs:=s.jobs++[j] }
section
variable {c:aF} {s:aa}
theorem tZ.of {ns ns':List br} {j:bQ} (h:tZ ns j) (hl:ns'.length=ns.length) (hv:∀ i,i<ns.length→hasB j.nodes i=true→(ns'.getD i ai).version=(ns.getD i ai).version):tZ ns' j:=by
 obtain ⟨a,b,d,u,e,f⟩:=h
 refine ⟨a,by rw [hl]; exact b,d,u,e,fun i hi hb=>?_⟩
 rw [hl] at hi
 rw [hv i hi hb]; exact f i hi hb
theorem bU.Av (h:bU c s) {k0:Nat} {j':bQ} {ns':List br} (q:nA c s k0 j' ns'):bU c { s with nodes:=ns',jobs:=s.jobs.set k0 j' }:=by
 have hlj:(s.jobs.set k0 j').length=s.jobs.length:=by simp
 have hjo:∀ k,dR { s with nodes:=ns',jobs:=s.jobs.set k0 j' } k=if k=k0 then j' else dR s k:=fun k=>AP _ _ _ _ _ q.hk
 have hno:∀ i,ec { s with nodes:=ns',jobs:=s.jobs.set k0 j' } i=ns'.getD i ai:=fun i=>rfl
 refine ⟨h.vE,by rw [← h.nodes]; exact congrArg _ q.len,by dsimp only; rw [hlj]; exact h.jobs,h.goal,h.prior,h.mode,h.term,fun k hk=>?_,fun k hk hp=>?_,fun k hk hp=>?_,fun i hi=>?_,fun i hi=>?_,fun i hi hm=>?_,fun i hi h0=>?_,fun i k hi hk=>?_,fun p hp=>?_⟩
 ·dsimp only at hk; rw [hlj] at hk; rw [hjo]; split
  ·exact q.num
  ·exact h.num k hk
 ·dsimp only at hk; rw [hlj] at hk; rw [hjo] at hp ⊢; dsimp only
  split
  ·rename_i e; rw [if_pos e] at hp
   exact (q.nH hp).of q.len fun i hi _=>(q.same i hi).2.2.2
  ·rename_i e; rw [if_neg e] at hp
   exact (h.nH k hk hp).of q.len fun i hi _=>(q.same i hi).2.2.2
 ·dsimp only at hk; rw [hlj] at hk; rw [hjo] at hp ⊢
  split
  ·rename_i e; rw [if_pos e] at hp; exact q.idle hp
  ·rename_i e; rw [if_neg e] at hp; exact h.idle k hk hp
 ·dsimp only at hi; rw [q.len] at hi; rw [hno,(q.same i hi).2.2.2]; exact h.NW i hi
 ·dsimp only at hi ⊢; rw [q.len] at hi; rw [hno,hlj]; exact q.range i hi
 ·dsimp only at hi; rw [q.len] at hi; rw [hno] at hm ⊢
  obtain ⟨a,b,d,_⟩:=q.same i hi
  rw [d] at hm
  have:=h.bG i hi hm
  rw [a,b]
  refine ⟨this.1,this.2.1,?_⟩
  by_cases h0:(ns'.getD i ai).aQ=0
  ·exact h0
  ·have:=(q.use i hi h0).2; rw [hm] at this; cases this
 ·dsimp only at hi; rw [q.len] at hi; rw [hno] at h0 ⊢
  rw [(q.same i hi).1]; exact (q.use i hi h0).1
 ·dsimp only at hi hk; rw [q.len] at hi; rw [hlj] at hk; rw [hno,hjo]
  split
  ·rename_i e; subst e; exact q.link i hi
  ·rename_i e; rw [q.others i k hi hk e]; exact h.link i k hi hk
 ·have h1:=xZ p j' s.jobs k0 q.hk
  have h2:=h.cE p hp
  have h3:=q.fixed.1
  have h4:=q.cE
  dsimp only
  unfold dR at h3 h4
  generalize s.jobs.getD k0 az=j at *
  unfold Ee at h1
  by_cases e1:j'.queue=p
  ·have e2:j.queue=p:=by omega
   by_cases e3:j'.phase=3
   ·rcases h4 e3 with e4 | e4
    ·simp only [e1,e2,e3,e4,decide_true,Bool.and_true,if_true] at h1; omega
    ·by_cases e5:j.phase=3
     ·simp only [e1,e2,e3,e5,decide_true,Bool.and_true,if_true] at h1; omega
     ·simp only [e1,e2,e3,e5,decide_true,decide_false,Bool.and_true,Bool.and_false,if_true] at h1
      rw [e2] at e4
      simp at h1
      omega
   ·simp [e1,e2,e3] at h1
    split at h1 <;> omega
  ·have e2:j.queue≠p:=by omega
   simp [e1,e2] at h1
   omega
theorem bU.Cx (h:bU c s) {i0:Nat} {n':br} (q:vM s i0 n'):bU c { s with nodes:=s.nodes.set i0 n' }:=by
 have sP:(s.nodes.set i0 n').length=s.nodes.length:=by simp
 have hno:∀ k,ec { s with nodes:=s.nodes.set i0 n' } k=if k=i0 then n' else ec s k:=fun k=>AP _ _ _ _ _ q.hi
 have hjo:∀ i,dR { s with nodes:=s.nodes.set i0 n' } i=dR s i:=fun i=>rfl
 refine ⟨h.vE,by dsimp only; rw [sP]; exact h.nodes,h.jobs,h.goal,h.prior,h.mode,h.term,h.num,fun k hk hp=>?_,h.idle,fun i hi=>?_,fun i hi=>?_,fun i hi hm=>?_,fun i hi h0=>?_,fun i k hi hk=>?_,h.cE⟩
 ·refine (h.nH k hk hp).of sP fun i hi hb=>?_
  have:=hno i
  unfold ec at this
  dsimp only at this ⊢
  rw [this]
  split
  ·rename_i e; subst e
   have hj:=(h.link i k hi hk).1 hb
   exact q.keep (by omega)
  ·rfl
 ·dsimp only at hi; rw [sP] at hi; rw [hno]; split
  ·exact q.NW
  ·exact h.NW i hi
 ·dsimp only at hi; rw [sP] at hi; rw [hno]; split
  ·rename_i e; subst e; rw [q.aQ]; exact h.aQ i hi
  ·exact h.aQ i hi
 ·dsimp only at hi; rw [sP] at hi; rw [hno] at hm ⊢
  by_cases e:i=i0
  ·rw [if_pos e] at hm ⊢; exact q.bG hm
  ·rw [if_neg e] at hm ⊢; exact h.bG i hi hm
 ·dsimp only at hi; rw [sP] at hi; rw [hno] at h0 ⊢
  by_cases e:i=i0
  ·rw [if_pos e] at h0 ⊢; exact q.up h0
  ·rw [if_neg e] at h0 ⊢; exact h.up i hi h0
 ·dsimp only at hi hk; rw [sP] at hi; rw [hno,hjo]
  split
  ·rename_i e; subst e; rw [q.aQ]; exact h.link i k hi hk
  ·exact h.link i k hi hk
theorem bU.O_ (h:bU c s) {g p m t:Int} (q:Li s g p m t):bU c { s with goal:=g,prior:=p,mode:=m,term:=t }:=
 ⟨h.vE,h.nodes,h.jobs,q.goal,q.prior,q.mode,⟨by have:=h.term; have:=q.term; dsimp only; omega,q.term.2⟩,h.num,h.nH,h.idle,h.NW,h.aQ,h.bG,h.up,h.link,h.cE⟩
theorem MR (l:List bQ) (j:bQ) (k:Nat):(l++[j]).getD k az=if k<l.length then l.getD k az else if k=l.length then j else az:=by
 by_cases h:k<l.length
 ·rw [if_pos h]; simp [List.getD,List.getElem?_append_left h]
 ·rw [if_neg h]
  by_cases e:k=l.length
  ·rw [if_pos e]; subst e; simp
  ·rw [if_neg e]; simp [List.getD,List.getElem?_append_right (show l.length≤k by omega)]
   rw [List.getElem?_eq_none (by simp; omega)]; rfl
theorem bU.Md (h:bU c s) {j:bQ} (q:G9 c s j):bU c { s with jobs:=s.jobs++[j] }:=by
 have hjo:∀ k,k<(s.jobs++[j]).length→dR { s with jobs:=s.jobs++[j] } k=if k<s.jobs.length then dR s k else j:=fun k hk=>by
  unfold dR
  dsimp only
  rw [MR]
  simp at hk
  by_cases e:k<s.jobs.length
  ·rw [if_pos e,if_pos e]
  ·rw [if_neg e,if_neg e,if_pos (by omega)]
 have hlen:(s.jobs++[j]).length=s.jobs.length+1:=by simp
 refine ⟨h.vE,h.nodes,by dsimp only; rw [hlen]; have:=q.len; omega,h.goal,h.prior,h.mode,h.term,fun k hk=>?_,fun k hk hp=>?_,fun k hk hp=>?_,h.NW,fun i hi=>?_,h.bG,h.up,fun i k hi hk=>?_,fun p hp=>?_⟩
 ·rw [hjo k hk]; split
  ·rename_i e; exact h.num k e
  ·exact q.num
 ·rw [hjo k hk] at hp ⊢
  by_cases e:k<s.jobs.length
  ·rw [if_pos e] at hp ⊢; exact h.nH k e hp
  ·rw [if_neg e,q.phase] at hp; cases hp
 ·rw [hjo k hk] at hp ⊢
  by_cases e:k<s.jobs.length
  ·rw [if_pos e] at hp ⊢; exact h.idle k e hp
  ·rw [if_neg e]; exact q.nodes
 ·have:=h.aQ i hi
  have e:ec { s with jobs:=s.jobs++[j] } i=ec s i:=rfl
  dsimp only
  rw [hlen,e]
  omega
 ·rw [hjo k hk]
  have e:ec { s with jobs:=s.jobs++[j] } i=ec s i:=rfl
  rw [e]
  by_cases e:k<s.jobs.length
  ·rw [if_pos e]; exact h.link i k hi e
  ·rw [if_neg e,q.nodes,q_]
   have:=h.aQ i hi
   simp only [Bool.false_eq_true,false_iff]
   omega
 ·have:=A0 p j s.jobs
  have h2:=h.cE p hp
  dsimp only
  rw [this]
  unfold Ee
  rw [q.phase]
  simp
  exact h2
theorem Step.right (h:bU c s) {t:aa} (q:Step c s t):bU c t:=by
 cases q with
 | num q=>exact h.O_ q
 | aQ q=>exact h.Av q
 | node q=>exact h.Cx q
 | both q q2=>exact (h.Av q).Cx q2
 | more q=>exact h.Md q
end
end Dv
namespace Dv
def gz (r:List dL) (i:Int):dL:=if i<0∨(r.length:Int)≤i then jg else if (r.getD i.toNat jg).kind=6 then r.getD i.toNat jg else jg
def KG (m:dL):Bool:=m.kind==6&&m.mode==0
def kM (s:aa) (r:List dL) (node mode aQ:Int):Bool:=
 (gz r node).kind==6&&decide (1≤aQ)&&decide (aQ≤s.jobs.length)&&(gz r node).mode==mode&&(gz r node).aQ==aQ&&(gz r node).inc==(s.jobs.getD (aQ-1).toNat az).inc
def pG (m:Int) (tk:Nat→Bool):Bool:=(List.range 6).all fun i=>!hasB m i||tk i
def CX (s:aa) (r:List dL) (aQ now:Int) (j:bQ):cB×Bool:=
 if j.phase=1 then (⟨10,aQ,now,0,0,0,0⟩,pG j.nodes fun i=>kM s r i 1 aQ||kM s r i 2 aQ)
 else if j.phase=2 then (⟨15,aQ,0,0,0,0,0⟩,pG j.nodes fun i=>kM s r i 2 aQ&&decide (j.work≤(gz r i).work))
 else if j.phase=3 then (if j.epoch<j.inc then ⟨13,aQ,j.inc,0,0,0,0⟩ else ⟨14,aQ,0,0,0,0,0⟩,pG j.nodes fun i=>kM s r i 3 aQ)
 else (iA,false)
def Oi (p:cB×Bool):Option cB:=if p.2=true then some p.1 else none
def Fa (s:aa) (m:dL) (n:br) (i:Int):Option cB:=
 if KG m=false then none
 else if n.up=false∧1≤m.version∧m.version≤9 then some ⟨8,i,m.version,0,0,0,0⟩
 else if n.bG=true∧m.version=gh s then some ⟨19,i,m.version,0,0,0,0⟩
 else none
def lM (s:aa) (r:List dL) (up:Bool):List br→Nat→Option cB
 | [],_=>none
 | n::l,i=>if n.up=up then (match Fa s (gz r i) n i with | some o=>some o | none=>lM s r up l (i+1)) else lM s r up l (i+1)
def sF (s:aa) (r:List dL) (now:Int):List bQ→Nat→Option cB
 | [],_=>none
 | j::l,k=>match Oi (CX s r ((k:Int)+1) now j) with | some o=>some o | none=>sF s r now l (k+1)
def nO (s:aa) (r:List dL) (now:Int):Option cB:=
 match lM s r false s.nodes 0 with
 | some o=>some o
 | none=>match lM s r true s.nodes 0 with
   | some o=>some o
   | none=>sF s r now s.jobs 0
def mQ (cc now:Int):List Bool→List Int→Int→Int
 | u::us,h::hs,i=>if u=true∧h+cc≤now then i else mQ cc now us hs (i+1)
 | _,_,_=>-1
end Dv
