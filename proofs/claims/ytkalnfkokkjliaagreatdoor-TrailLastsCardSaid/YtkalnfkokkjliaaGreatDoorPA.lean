/- part -/
set_option linter.all false
namespace Dv
structure a_ where
 up:Bool
 cF:Bool
 bw:Bool
 version:Int
 aM:Int
 deriving DecidableEq
structure bP where
 queue:Int
 prio:Int
 min:Int
 max:Int
 work:Int
 pin:Int
 phase:Int
 inc:Int
 nodes:Int
 since:Int
 til:Int
 epoch:Int
 deriving DecidableEq
structure aB where
 nodes:Int
 bI:Int
 cH:Int
 iN:Int
 cr:Int
 eZ:Int
 deadline:Int
 room:Int
 gX:Int
 deriving DecidableEq
structure aa where
 nodes:List a_
 jobs:List bP
 goal:Int
 prior:Int
 mode:Int
 term:Int
 deriving DecidableEq
structure bT where
 kind:Int
 a:Int
 b:Int
 c:Int
 d:Int
 e:Int
 f:Int
 deriving DecidableEq
structure eH where
 node:Int
 kind:Int
 term:Int
 gen:Int
 aM:Int
 inc:Int
 version:Int
 epoch:Int
 til:Int
 mode:Int
 work:Int
 deriving DecidableEq
def cU:bT:=⟨0,0,0,0,0,0,0⟩
def jQ:eH:=⟨0,0,0,0,0,0,0,0,0,0,0⟩
def aD:bP:=⟨0,0,0,0,0,0,0,0,0,0,0,0⟩
def ai:a_:=⟨false,false,false,0,0⟩
def fM (s:aa):Int:=if s.mode=2 then s.prior else s.goal
def cI (l:List bP) (q:Int):Int:=((l.filter (fun j=>decide (j.queue=q)&&decide (j.phase=3))).length:Int)
theorem Ik (l:List bP) (q:Int):0≤cI l q∧cI l q≤l.length:=by
 unfold cI
 have:=List.length_filter_le (fun j:bP=>decide (j.queue=q)&&decide (j.phase=3)) l
 omega
theorem uQ (l:List bP) (j:bP) (q:Int):cI (l++[j]) q=cI l q+if j.queue=q∧j.phase=3 then 1 else 0:=by
 unfold cI
 by_cases h1:j.queue=q <;> by_cases h2:j.phase=3 <;> simp [List.filter_append,List.filter_cons,h1,h2]
def hasB (n:Int) (i:Nat):Bool:=decide (n / 2 ^ i % 2=1)
def Yb (n:Int) (i:Nat):Int:=if hasB n i then 1 else 0
def vM (n:Int):Nat→Int
 | 0=>0
 | k+1=>vM n k+Yb n k
def many (n:Int):Int:=vM n 6
theorem BT (n:Int):∀ k:Nat,0≤vM n k∧vM n k≤k
 | 0=>by simp [vM]
 | k+1=>by
   have:=BT n k
   unfold vM Yb
   split <;> omega
def bJ (n lo hi:Int):Bool:=decide (lo≤n∧n≤hi)
def ee (nodes:Int) (takes:a_→Bool):List a_→Nat→Int→Bool
 | [],_,_=>true
 | n::l,i,v=>
   if hasB nodes i=false then ee nodes takes l (i+1) v
   else if takes n=true∧n.version=(if v=0 then n.version else v) then ee nodes takes l (i+1) (if v=0 then n.version else v) else false
def mE (ns:List a_) (j:bP) (nodes:Int) (takes:a_→Bool):Bool:=
 if nodes<0∨2 ^ ns.length≤nodes then false
 else if bJ (many nodes) j.min j.max=true then ee nodes takes ns 0 j.pin else false
def lQ (c:aB) (j:bP):Bool:=bJ j.queue 0 (c.bI-1)&&bJ j.prio 0 9&&bJ j.min 1 j.max&&bJ j.max 1 c.nodes&&bJ j.work 1 1000&&bJ j.pin 0 9
def ez (p:Int):Bool:=decide (p=1∨p=2∨p=3)
def iq (c:aB):Bool:=bJ c.nodes 1 6&&bJ c.bI 1 3&&bJ c.cH 0 4&&bJ c.iN 1 6&&bJ c.cr 2 30&&bJ c.eZ 1 20&&bJ c.deadline 1 60&&bJ c.room 0 5000&&bJ c.gX 2000 40000
def kg (number:Int) (n:a_):Bool:=n.up&&!n.bw&&decide (n.aM=number)
def gE (c:aB) (s:aa) (j:bP) (number:Int):Bool:=
 lQ c j&&bJ j.phase 0 4&&bJ j.inc 0 1000000&&bJ j.since 0 1000000&&bJ j.til 0 1000000&&bJ j.epoch 0 j.inc&&
 (if ez j.phase=true then mE s.nodes j j.nodes (kg number) else decide (j.nodes=0))
def mQ (s:aa) (n:a_) (number:Nat):Bool:=
 bJ n.version 1 9&&bJ n.aM 0 s.jobs.length&&!(n.bw&&(!n.up||!n.cF||decide (n.aM≠0)))&&
 (decide (n.aM=0)||hasB (s.jobs.getD (n.aM-1).toNat aD).nodes number)
def eY (c:aB) (s:aa):List bP→Nat→Bool
 | [],_=>true
 | j::l,k=>gE c s j (k+1)&&eY c s l (k+1)
def fo (s:aa):List a_→Nat→Bool
 | [],_=>true
 | n::l,k=>mQ s n k&&fo s l (k+1)
def eS (c:aB) (s:aa):Nat→Nat→Bool
 | _,0=>true
 | q,n+1=>!decide (c.cH<cI s.jobs q)&&eS c s (q+1) n
def iD (c:aB) (s:aa):Bool:=
 iq c&&decide ((s.nodes.length:Int)=c.nodes)&&decide (s.jobs.length≤24)&&bJ s.goal 1 9&&bJ s.prior 1 9&&bJ s.mode 0 2&&bJ s.term 0 1000000&&
 eY c s s.jobs 0&&fo s s.nodes 0&&eS c s 0 c.bI.toNat
theorem drop_cons {α:Type} (l:List α) (k:Nat) (z:α) (h:k<l.length):l.drop k=l.getD k z::l.drop (k+1):=by
 rw [List.drop_eq_getElem_cons h]; simp [List.getD,h]
end Dv
namespace Dv
def kM (s:aa) (n:a_):Bool:=n.up&&!n.bw&&decide (n.version≠fM s)
def t_ (s:aa) (aM:Int):Int:=(s.jobs.getD (aM-1).toNat aD).pin
def lU (s:aa) (n:a_):Bool:=if n.aM=0 then false else decide (t_ s n.aM≠0)&&decide (t_ s n.aM≠fM s)
def tj (s:aa) (i:Int):Bool:=if i<0∨(s.nodes.length:Int)≤i then false else lU s (s.nodes.getD i.toNat ai)
def pH (l:List a_):Int:=((l.filter (·.cF)).length:Int)
theorem M1 (l:List a_):0≤pH l∧pH l≤l.length:=by
 unfold pH
 have:=List.length_filter_le (fun n:a_=>n.cF) l
 omega
theorem Gt (l:List a_) (n:a_):pH (l++[n])=pH l+if n.cF then 1 else 0:=by
 unfold pH
 cases h:n.cF <;> simp [List.filter_append,List.filter_cons,h]
def Ji (s:aa) (n:a_):Bool:=n.cF&&n.up&&!n.bw&&(!kM s n||lU s n)
def lP (c:aB) (s:aa) (now:Int) (n:a_) (i:Int):Option bT:=
 if n.cF=false∨kM s n=false∨lU s n=true then none
 else if n.aM=0 then some ⟨18,i,0,0,0,0,0⟩
 else
  let j:=s.jobs.getD (n.aM-1).toNat aD
  if j.phase=1 then some ⟨11,n.aM,0,0,0,0,0⟩
  else if j.phase=2∧j.min<many (j.nodes % 64) then some ⟨20,n.aM,i,0,0,0,0⟩
  else if j.phase=2∧cI s.jobs j.queue<c.cH then some ⟨12,n.aM,(if 1000000≤now+c.deadline then 1000000 else now+c.deadline),0,0,0,0⟩
  else none
def Eh (c:aB) (s:aa) (n:a_):Bool:=!n.cF&&kM s n&&!lU s n&&decide (pH s.nodes<c.iN)
def fE (f:a_→Int→Option bT):List a_→Nat→Option bT
 | [],_=>none
 | n::l,k=>match f n k with
   | some o=>some o
   | none=>fE f l (k+1)
def EH (s:aa) (n:a_) (i:Int):Option bT:=if Ji s n=true then some ⟨17,i,0,0,0,0,0⟩ else none
def yK (c:aB) (s:aa) (n:a_) (i:Int):Option bT:=if Eh c s n=true then some ⟨16,i,0,0,0,0,0⟩ else none
def zw (c:aB) (s:aa) (now:Int):Option bT:=
 if s.mode=1 then none
 else match fE (EH s) s.nodes 0 with
  | some o=>some o
  | none=>match fE (lP c s now) s.nodes 0 with
    | some o=>some o
    | none=>fE (yK c s) s.nodes 0
structure DP (c:aB) (s:aa):Prop where
 uW:1≤c.nodes∧c.nodes≤6∧1≤c.bI∧c.bI≤3∧0≤c.cH∧c.cH≤4∧1≤c.iN∧c.iN≤6∧2≤c.cr∧c.cr≤30∧1≤c.eZ∧c.eZ≤20∧1≤c.deadline∧c.deadline≤60∧0≤c.room∧c.room≤5000∧2000≤c.gX∧c.gX≤40000
 nodes:(s.nodes.length:Int)=c.nodes
 jobs:s.jobs.length≤24
 acv:1≤s.goal∧s.goal≤9∧1≤s.prior∧s.prior≤9∧0≤s.mode∧s.mode≤2∧0≤s.term∧s.term≤1000000
 Nd:∀ k,k<s.jobs.length→gE c s (s.jobs.getD k aD) (k+1)=true
 sound:∀ k,k<s.nodes.length→mQ s (s.nodes.getD k ai) k=true
 cH:∀ q:Nat,(q:Int)<c.bI→cI s.jobs q≤c.cH
theorem aX {n lo hi:Int} (h:bJ n lo hi=true):lo≤n∧n≤hi:=of_decide_eq_true h
theorem pR (c:aB) (s:aa):∀ (l:List bP) (k:Nat),eY c s l k=true→∀ i,i<l.length→gE c s (l.getD i aD) ((k+i:Nat)+1)=true
 | [],_,_,i,hi=>by simp at hi
 | j::l,k,h,i,hi=>by
   unfold eY at h
   simp only [Bool.and_eq_true] at h
   cases i with
   | zero=>simpa using h.1
   | succ i=>
     have:=pR c s l (k+1) h.2 i (by simpa using hi)
     rw [show k+(i+1)=k+1+i by omega]
     simpa using this
theorem rP (s:aa):∀ (l:List a_) (k:Nat),fo s l k=true→∀ i,i<l.length→mQ s (l.getD i ai) (k+i)=true
 | [],_,_,i,hi=>by simp at hi
 | j::l,k,h,i,hi=>by
   unfold fo at h
   simp only [Bool.and_eq_true] at h
   cases i with
   | zero=>simpa using h.1
   | succ i=>
     have:=rP s l (k+1) h.2 i (by simpa using hi)
     rw [show k+(i+1)=k+1+i by omega]
     simpa using this
theorem rU (c:aB) (s:aa):∀ (n q:Nat),eS c s q n=true→∀ i,i<n→cI s.jobs ((q+i:Nat):Int)≤c.cH
 | 0,_,_,i,hi=>by omega
 | n+1,q,h,i,hi=>by
   unfold eS at h
   simp only [Bool.and_eq_true,Bool.not_eq_true',decide_eq_false_iff_not] at h
   cases i with
   | zero=>have:=h.1; simp; omega
   | succ i=>
     have:=rU c s n (q+1) h.2 i (by omega)
     rw [show q+(i+1)=q+1+i by omega]
     exact this
theorem tU {c:aB} {s:aa} (h:iD c s=true):DP c s:=by
 unfold iD iq at h
 simp only [Bool.and_eq_true,decide_eq_true_eq] at h
 obtain ⟨⟨⟨⟨⟨⟨⟨⟨⟨⟨⟨⟨⟨⟨⟨⟨⟨h1,h2⟩,h3⟩,h4⟩,h5⟩,h6⟩,h7⟩,h8⟩,h9⟩,n1⟩,n2⟩,g1⟩,g2⟩,g3⟩,g4⟩,st⟩,so⟩,qu⟩:=h
 have h1:=aX h1
 have h2:=aX h2
 have h3:=aX h3
 have h4:=aX h4
 have h5:=aX h5
 have h6:=aX h6
 have h7:=aX h7
 have h8:=aX h8
 have h9:=aX h9
 have g1:=aX g1
 have g2:=aX g2
 have g3:=aX g3
 have g4:=aX g4
 exact ⟨⟨h1.1,h1.2,h2.1,h2.2,h3.1,h3.2,h4.1,h4.2,h5.1,h5.2,h6.1,h6.2,h7.1,h7.2,h8.1,h8.2,h9.1,h9.2⟩,n1,n2,⟨g1.1,g1.2,g2.1,g2.2,g3.1,g3.2,g4.1,g4.2⟩,
  fun k hk=>by have:=pR c s s.jobs 0 st k hk; simpa using this,
  fun k hk=>by have:=rP s s.nodes 0 so k hk; simpa using this,
  fun q hq=>by have:=rU c s _ 0 qu q (by omega); simpa using this⟩
theorem DP.node {c:aB} {s:aa} (h:DP c s) {k:Nat} (hk:k<s.nodes.length) :
  1≤(s.nodes.getD k ai).version∧(s.nodes.getD k ai).version≤9∧0≤(s.nodes.getD k ai).aM∧(s.nodes.getD k ai).aM≤s.jobs.length:=by
 have:=h.sound k hk
 unfold mQ at this
 simp only [Bool.and_eq_true] at this
 have h1:=aX this.1.1.1
 have h2:=aX this.1.1.2
 omega
theorem DP.aM {c:aB} {s:aa} (h:DP c s) {k:Nat} (hk:k<s.jobs.length) :
  let j:=s.jobs.getD k aD
  (0≤j.queue∧j.queue≤c.bI-1)∧(0≤j.prio∧j.prio≤9)∧(1≤j.min∧j.min≤j.max)∧(1≤j.max∧j.max≤c.nodes)∧(1≤j.work∧j.work≤1000)∧(0≤j.pin∧j.pin≤9)∧(0≤j.phase∧j.phase≤4)∧(0≤j.inc∧j.inc≤1000000)∧(0≤j.since∧j.since≤1000000)∧(0≤j.til∧j.til≤1000000)∧(0≤j.epoch∧j.epoch≤j.inc):=by
 have:=h.Nd k hk
 unfold gE lQ at this
 simp only [Bool.and_eq_true] at this
 obtain ⟨⟨⟨⟨⟨⟨⟨⟨⟨⟨⟨a1,a2⟩,a3⟩,a4⟩,a5⟩,a6⟩,b1⟩,b2⟩,b3⟩,b4⟩,b5⟩,_⟩:=this
 exact ⟨aX a1,aX a2,aX a3,aX a4,aX a5,aX a6,aX b1,aX b2,aX b3,aX b4,aX b5⟩
theorem NG (n:Nat) (h:n≤6):(2:Int) ^ n≤64:=by
 have:n=0∨n=1∨n=2∨n=3∨n=4∨n=5∨n=6:=by omega
 rcases this with h | h | h | h | h | h | h <;> subst h <;> simp
theorem DP.bits {c:aB} {s:aa} (h:DP c s) {k:Nat} (hk:k<s.jobs.length):0≤(s.jobs.getD k aD).nodes∧(s.jobs.getD k aD).nodes<64:=by
 have:=h.Nd k hk
 have hc:=h.uW
 have hn:=h.nodes
 unfold gE at this
 simp only [Bool.and_eq_true] at this
 have h2:=this.2
 split at h2
 ·unfold mE at h2
  split at h2
  ·cases h2
  ·rename_i hq
   have:=NG s.nodes.length (by omega)
   omega
 ·have:=of_decide_eq_true h2
  omega
end Dv
namespace Dv
theorem mF (f:a_→Int→Option bT):∀ (l:List a_) (k:Nat) (o:bT),fE f l k=some o→∃ i,i<l.length∧f (l.getD i ai) ((k+i:Nat):Int)=some o
 | [],_,_,h=>by simp [fE] at h
 | n::l,k,o,h=>by
   unfold fE at h
   cases hf:f n k with
   | some p=>
     rw [hf] at h
     exact ⟨0,by simp,by simpa using hf.trans h⟩
   | none=>
     rw [hf] at h
     obtain ⟨i,hi,h2⟩:=mF f l (k+1) o h
     refine ⟨i+1,by simpa using hi,?_⟩
     rw [show k+(i+1)=k+1+i by omega]
     simpa using h2
inductive tv (s:aa):bT→Prop where
 | opened (a:Int):tv s ⟨17,a,0,0,0,0,0⟩
 | shut (a:Int) (h:tj s a=false):tv s ⟨16,a,0,0,0,0,0⟩
 | move (a:Int) (h:tj s a=false):tv s ⟨18,a,0,0,0,0,0⟩
 | shrink (j a:Int) (h:tj s a=false):tv s ⟨20,j,a,0,0,0,0⟩
 | Yr (i:Nat) (hi:i<s.nodes.length) (h0:(s.nodes.getD i ai).aM≠0) (h:t_ s (s.nodes.getD i ai).aM=0∨t_ s (s.nodes.getD i ai).aM=fM s):tv s ⟨11,(s.nodes.getD i ai).aM,0,0,0,0,0⟩
 | drain (i:Nat) (t:Int) (hi:i<s.nodes.length) (h0:(s.nodes.getD i ai).aM≠0) (h:t_ s (s.nodes.getD i ai).aM=0∨t_ s (s.nodes.getD i ai).aM=fM s):tv s ⟨12,(s.nodes.getD i ai).aM,t,0,0,0,0⟩
theorem qM (s:aa) (i:Nat) (hi:i<s.nodes.length):tj s (i:Int)=lU s (s.nodes.getD i ai):=by
 unfold tj
 rw [if_neg (by omega)]
 simp
theorem He (c:aB) (s:aa) (now:Int) (o:bT) (h:zw c s now=some o):tv s o:=by
 unfold zw at h
 split at h
 ·cases h
 cases h1:fE (EH s) s.nodes 0 with
 | some p=>
   rw [h1] at h
   obtain ⟨i,hi,h2⟩:=mF _ _ _ _ h1
   cases h
   unfold EH at h2
   split at h2
   ·cases h2; exact .opened _
   ·cases h2
 | none=>
   rw [h1] at h
   cases h3:fE (lP c s now) s.nodes 0 with
   | some p=>
     rw [h3] at h
     cases h
     obtain ⟨i,hi,h2⟩:=mF _ _ _ _ h3
     have ha:=qM s i hi
     rw [Nat.zero_add] at h2
     unfold lP at h2
     split at h2
     ·cases h2
     rename_i hn
     have hal:lU s (s.nodes.getD i ai)=false:=by
      cases hx:lU s (s.nodes.getD i ai) with
      | false=>rfl
      | true=>exact absurd (Or.inr (Or.inr hx)) hn
     rw [hal] at ha
     split at h2
     ·cases h2; exact .move _ ha
     rename_i h0
     have hp:t_ s (s.nodes.getD i ai).aM=0∨t_ s (s.nodes.getD i ai).aM=fM s:=by
      unfold lU at hal
      rw [if_neg h0] at hal
      simp only [Bool.and_eq_false_iff,decide_eq_false_iff_not,Decidable.not_not] at hal
      exact hal
     dsimp only at h2
     split at h2
     ·cases h2; exact .Yr i hi h0 hp
     split at h2
     ·cases h2; exact .shrink _ _ ha
     split at h2
     ·cases h2; exact .drain i _ hi h0 hp
     ·cases h2
   | none=>
     rw [h3] at h
     obtain ⟨i,hi,h2⟩:=mF _ _ _ _ h
     have ha:=qM s i hi
     rw [Nat.zero_add] at h2
     unfold yK at h2
     split at h2
     ·rename_i hs
      cases h2
      refine .shut _ (ha.trans ?_)
      unfold Eh at hs
      simp only [Bool.and_eq_true,Bool.not_eq_true'] at hs
      exact hs.1.2
     ·cases h2
end Dv
namespace Dv
def gO {α:Type} (g:Nat→α→α) (l:List α) (k:Nat):List α:=l.mapIdx fun i x=>if i<k then g i x else x
section
variable {α:Type} (g:Nat→α→α) (l:List α)
@[simp] theorem nT (k:Nat):(gO g l k).length=l.length:=by simp [gO]
theorem yo:gO g l 0=l:=by
 apply List.ext_getElem
 ·simp
 ·intro i h1 h2; simp [gO]
theorem yq:gO g l l.length=l.mapIdx g:=by
 apply List.ext_getElem
 ·simp
 ·intro i h1 h2
  simp at h1
  simp [gO,h1]
theorem D7 {k:Nat} (h:k<l.length):(gO g l k)[k]? = some l[k]:=by
 simp [gO,h]
theorem vr {k:Nat} {x:α} (h:k<l.length) (hx:g k l[k]=x):(gO g l k).set k x=gO g l (k+1):=by
 apply List.ext_getElem
 ·simp
 ·intro i h1 h2
  simp only [gO,List.getElem_set,List.getElem_mapIdx]
  by_cases hi:k=i
  ·subst hi; simp [hx]
  ·rw [if_neg hi]
   by_cases h3:i<k
   ·rw [if_pos h3,if_pos (by omega)]
   ·rw [if_neg h3,if_neg (by omega)]
theorem yp {k:Nat} (h:k<l.length) (hx:g k l[k]=l[k]):gO g l k=gO g l (k+1):=by
 rw [← vr g l h hx]
 apply List.ext_getElem
 ·simp
 ·intro i h1 h2
  rw [List.getElem_set]
  split
  ·rename_i h; subst h; simp [gO]
  ·rfl
end
def cO (s:aa) (i:Int):a_:=s.nodes.getD i.toNat ai
def ej (s:aa) (a:Int):bP:=s.jobs.getD (a-1).toNat aD
def lM (n:a_):Bool:=n.up&&!n.cF&&!n.bw&&decide (n.aM=0)
def jY (s:aa) (i:Int) (n:a_):aa:={ s with nodes:=s.nodes.set i.toNat n }
def fU (s:aa) (a:Int) (j:bP):aa:={ s with jobs:=s.jobs.set (a-1).toNat j }
def lets (number:Int) (_:Nat) (n:a_):a_:=if n.aM=number then { n with aM:=0 } else n
def gz (bits number:Int) (i:Nat) (n:a_):a_:=if hasB bits i then { n with aM:=number } else n
def ec (s:aa) (number phase:Int):aa:=
 { s with nodes:=s.nodes.mapIdx (lets number),jobs:=s.jobs.set (number-1).toNat { ej s number with phase:=phase,nodes:=0,since:=0,til:=0 } }
def mW (o:bT):bP:=⟨o.a,o.b,o.c,o.d,o.e,o.f,0,0,0,0,0,0⟩
def jR (c:aB) (s:aa) (o:bT):aa×Int:=if lQ c (mW o)=false then (s,1) else if 24≤s.jobs.length then (s,3) else ({ s with jobs:=s.jobs++[mW o] },0)
def kL (s:aa) (o:bT):aa×Int:=if (ej s o.a).phase=4 then (s,5) else (ec s o.a 4,0)
def kD (s:aa) (o:bT):aa×Int:=if bJ o.a 1 9=false then (s,1) else ({ s with prior:=fM s,goal:=o.a,mode:=0 },0)
def gZ (s:aa) (ok:Bool) (to:Int):aa×Int:=if ok=true then ({ s with mode:=to },0) else (s,5)
def sr (s:aa) (o:bT):aa×Int:=if (cO s o.a).up=false then (s,5) else
 let t:=if (cO s o.a).aM≠0 then ec s (cO s o.a).aM 0 else s
 (jY t o.a { cO t o.a with up:=false,bw:=false },0)
def QI (s:aa) (o:bT):aa×Int:=if bJ o.b 1 9=false then (s,1) else if (cO s o.a).up=true then (s,5) else (jY s o.a { cO s o.a with up:=true,version:=o.b },0)
def oV (s:aa) (o:bT):aa×Int:=if (ej s o.a).phase≠0 then (s,5) else if mE s.nodes (ej s o.a) o.b lM=false∨1000000≤(ej s o.a).inc then (s,8) else
 ({ fU s o.a { ej s o.a with phase:=1,inc:=(ej s o.a).inc+1,nodes:=o.b } with nodes:=s.nodes.mapIdx (gz o.b o.a) },0)
def nW (s:aa) (o:bT):aa×Int:=if (ej s o.a).phase≠1 then (s,5) else (fU s o.a { ej s o.a with phase:=2,since:=o.b },0)
def kC (s:aa) (o:bT):aa×Int:=if (ej s o.a).phase≠1 then (s,5) else (ec s o.a 0,0)
def mY (c:aB) (s:aa) (o:bT):aa×Int:=if (ej s o.a).phase≠2 then (s,5) else if c.cH≤cI s.jobs (ej s o.a).queue then (s,7) else (fU s o.a { ej s o.a with phase:=3,til:=o.b },0)
def tQ (j:bP):Bool:=decide (j.phase=2)||decide (j.phase=3)
def ki (s:aa) (o:bT):aa×Int:=if tQ (ej s o.a)=false then (s,5) else if o.b≠(ej s o.a).inc∨o.b≤(ej s o.a).epoch then (s,6) else (fU s o.a { ej s o.a with epoch:=o.b },0)
def oE (s:aa) (o:bT):aa×Int:=if (ej s o.a).phase≠3 then (s,5) else (ec s o.a 0,0)
def uS (s:aa) (o:bT):aa×Int:=if tQ (ej s o.a)=false then (s,5) else (ec s o.a 4,0)
def mH (s:aa) (o:bT):aa×Int:=if (cO s o.a).up=false∨(cO s o.a).cF=true then (s,5) else (jY s o.a { cO s o.a with cF:=true },0)
def iJ (s:aa) (o:bT):aa×Int:=if (cO s o.a).cF=false∨(cO s o.a).bw=true then (s,5) else (jY s o.a { cO s o.a with cF:=false },0)
def wM (s:aa) (o:bT):aa×Int:=if (cO s o.a).up=false∨(cO s o.a).cF=false∨(cO s o.a).bw=true∨(cO s o.a).aM≠0 then (s,5) else (jY s o.a { cO s o.a with bw:=true },0)
def mX (s:aa) (o:bT):aa×Int:=if bJ o.b 1 9=false then (s,1) else if (cO s o.a).bw=false then (s,5) else (jY s o.a { cO s o.a with version:=o.b,bw:=false,cF:=false },0)
def mB (n b:Int):Int:=if hasB n b.toNat then n-2 ^ b.toNat else n
def gF (s:aa) (o:bT):aa×Int:=if (s.nodes.length:Int)≤o.b then (s,4) else if (ej s o.a).phase≠2 then (s,5) else if (cO s o.b).aM≠o.a∨many (ej s o.a).nodes≤(ej s o.a).min then (s,8) else
 (jY (fU s o.a { ej s o.a with nodes:=mB (ej s o.a).nodes o.b }) o.b { cO s o.b with aM:=0 },0)
def ij (s:aa):aa×Int:=if 1000000≤s.term then (s,3) else ({ s with term:=s.term+1 },0)
def dX (k:Int):Nat:=if k=1 then 6 else if k=4∨k=5∨k=6∨k=21 then 0 else if k=8∨k=9∨k=10∨k=12∨k=13∨k=19∨k=20 then 2 else 1
def oS (n:Int) (given:Bool):Bool:=decide (0≤n∧n≤1000000)&&(given||decide (n=0))
def eP (o:bT):Bool:=decide (1≤o.kind∧o.kind≤21)&&oS o.a (decide (0<dX o.kind))&&oS o.b (decide (1<dX o.kind))&&oS o.c (decide (2<dX o.kind))&&oS o.d (decide (3<dX o.kind))&&oS o.e (decide (4<dX o.kind))&&oS o.f (decide (5<dX o.kind))
def Hv (k:Int):Bool:=decide (k=2∨k=9∨k=10∨k=11∨k=12∨k=13∨k=14∨k=15∨k=20)
def zu (k:Int):Bool:=decide (k=7∨k=8∨k=16∨k=17∨k=18∨k=19)
def bO (c:aB) (s:aa) (o:bT):aa×Int:=
 if o.kind=1 then jR c s o else if o.kind=2 then kL s o else if o.kind=3 then kD s o
 else if o.kind=4 then gZ s (s.mode==0) 1 else if o.kind=5 then gZ s (s.mode==1) 0 else if o.kind=6 then gZ s (s.mode !=2) 2
 else if o.kind=7 then sr s o else if o.kind=8 then QI s o else if o.kind=9 then oV s o else if o.kind=10 then nW s o
 else if o.kind=11 then kC s o else if o.kind=12 then mY c s o else if o.kind=13 then ki s o else if o.kind=14 then oE s o
 else if o.kind=15 then uS s o else if o.kind=16 then mH s o else if o.kind=17 then iJ s o else if o.kind=18 then wM s o
 else if o.kind=19 then mX s o else if o.kind=20 then gF s o else ij s
def kO:aa:=⟨[],[],0,0,0,0⟩
def AI (c:aB) (s:aa) (o:bT):aa×Int:=
 if eP o=false then (s,1)
 else if Hv o.kind=true∧(o.a<1∨(s.jobs.length:Int)<o.a) then (s,4)
 else if zu o.kind=true∧(s.nodes.length:Int)≤o.a then (s,4)
 else bO c s o
def bx (c:aB) (s:aa) (o:bT):aa×Int:=if iD c s=false then (kO,1) else AI c s o
end Dv
namespace Dv
def dW (s:aa) (i:Nat):a_:=s.nodes.getD i ai
def dI (s:aa) (k:Nat):bP:=s.jobs.getD k aD
structure wu (c:aB) (j:bP):Prop where
 asked:lQ c j=true
 phase:0≤j.phase∧j.phase≤4
 inc:0≤j.inc∧j.inc≤1000000
 since:0≤j.since∧j.since≤1000000
 til:0≤j.til∧j.til≤1000000
 epoch:0≤j.epoch∧j.epoch≤j.inc
structure tn (ns:List a_) (j:bP):Prop where
 lo:0≤j.nodes
 hi:j.nodes<2 ^ ns.length
 many:j.min≤many j.nodes∧many j.nodes≤j.max
 M4:∃ u,(j.pin=0∨u=j.pin)∧∀ i,i<ns.length→hasB j.nodes i=true→(ns.getD i ai).version=u
structure bK (c:aB) (s:aa):Prop where
 uW:iq c=true
 nodes:(s.nodes.length:Int)=c.nodes
 jobs:s.jobs.length≤24
 goal:1≤s.goal∧s.goal≤9
 prior:1≤s.prior∧s.prior≤9
 mode:0≤s.mode∧s.mode≤2
 term:0≤s.term∧s.term≤1000000
 num:∀ k,k<s.jobs.length→wu c (dI s k)
 mT:∀ k,k<s.jobs.length→ez (dI s k).phase=true→tn s.nodes (dI s k)
 idle:∀ k,k<s.jobs.length→ez (dI s k).phase=false→(dI s k).nodes=0
 M4:∀ i,i<s.nodes.length→1≤(dW s i).version∧(dW s i).version≤9
 aM:∀ i,i<s.nodes.length→0≤(dW s i).aM∧(dW s i).aM≤s.jobs.length
 bw:∀ i,i<s.nodes.length→(dW s i).bw=true→(dW s i).up=true∧(dW s i).cF=true∧(dW s i).aM=0
 up:∀ i,i<s.nodes.length→(dW s i).aM≠0→(dW s i).up=true
 link:∀ i k,i<s.nodes.length→k<s.jobs.length→(hasB (dI s k).nodes i=true↔(dW s i).aM=k+1)
 cH:∀ q:Nat,(q:Int)<c.bI→cI s.jobs q≤c.cH
theorem ou {c:aB} (h:iq c=true):1≤c.nodes∧c.nodes≤6:=by
 unfold iq at h
 simp only [Bool.and_eq_true] at h
 exact aX h.1.1.1.1.1.1.1.1
theorem bK.len {c:aB} {s:aa} (h:bK c s):1≤s.nodes.length∧s.nodes.length≤6:=by
 have:=ou h.uW
 have:=h.nodes
 omega
theorem qw (i:Nat):hasB 0 i=false:=by simp [hasB]
theorem uN (m:Int) (takes:a_→Bool):∀ (l:List a_) (i:Nat) (v:Int),(∀ k,k<l.length→1≤(l.getD k ai).version)→
  (ee m takes l i v=true↔∃ u,(v=0∨u=v)∧∀ k,k<l.length→hasB m (i+k)=true→takes (l.getD k ai)=true∧(l.getD k ai).version=u)
 | [],i,v,_=>by
   simp only [ee,List.length_nil,true_iff]
   exact ⟨v,.inr rfl,fun k hk=>by omega⟩
 | n::l,i,v,hv=>by
   have h0:1≤n.version:=by simpa using hv 0 (by simp)
   have ih:=fun v=>uN m takes l (i+1) v (fun k hk=>by simpa using hv (k+1) (by simpa using hk))
   have shift:∀ u,(∀ k,k<(n::l).length→hasB m (i+k)=true→takes ((n::l).getD k ai)=true∧((n::l).getD k ai).version=u)↔
     (hasB m i=true→takes n=true∧n.version=u)∧∀ k,k<l.length→hasB m (i+1+k)=true→takes (l.getD k ai)=true∧(l.getD k ai).version=u:=by
    intro u
    refine ⟨fun h=>⟨fun h1=>by simpa using h 0 (by simp) h1,fun k hk h1=>?_⟩,fun h k hk h1=>?_⟩
    ·have:=h (k+1) (by simpa using hk) (by rw [← h1]; congr 1; omega)
     simpa using this
    ·cases k with
     | zero=>simpa using h.1 h1
     | succ k=>
       have:=h.2 k (by simpa using hk) (by rw [← h1]; congr 1; omega)
       simpa using this
   unfold ee
   by_cases hb:hasB m i=false
   ·rw [if_pos hb,ih v]
    refine exists_congr fun u=>and_congr_right fun _=>?_
    rw [shift u]
    simp [hb]
   ·rw [if_neg hb]
    have hb':hasB m i=true:=by simpa using hb
    by_cases ht:takes n=true
    ·by_cases hq:n.version=(if v=0 then n.version else v)
     ·rw [if_pos ⟨ht,hq⟩,ih,← hq]
      constructor
      ·rintro ⟨u,h1,h2⟩
       have hu:u=n.version:=by omega
       refine ⟨u,?_,(shift u).2 ⟨fun _=>⟨ht,hu.symm⟩,h2⟩⟩
       by_cases h3:v=0
       ·exact .inl h3
       ·rw [if_neg h3] at hq; exact .inr (by omega)
      ·rintro ⟨u,h1,h2⟩
       obtain ⟨h3,h4⟩:=(shift u).1 h2
       exact ⟨u,.inr (h3 hb').2.symm,h4⟩
     ·rw [if_neg (fun h=>hq h.2)]
      refine ⟨fun h=>(by cases h),?_⟩
      rintro ⟨u,h1,h2⟩
      have h3:=((shift u).1 h2).1 hb'
      refine absurd ?_ hq
      by_cases h4:v=0
      ·rw [if_pos h4]
      ·rw [if_neg h4]; omega
    ·rw [if_neg (fun h=>ht h.1)]
     refine ⟨fun h=>(by cases h),?_⟩
     rintro ⟨u,h1,h2⟩
     exact absurd (((shift u).1 h2).1 hb').1 ht
theorem Cg (ns:List a_) (j:bP) (m:Int) (takes:a_→Bool) (hv:∀ k,k<ns.length→1≤(ns.getD k ai).version) :
  mE ns j m takes=true↔(0≤m∧m<2 ^ ns.length)∧(j.min≤many m∧many m≤j.max)∧∃ u,(j.pin=0∨u=j.pin)∧∀ k,k<ns.length→hasB m k=true→takes (ns.getD k ai)=true∧(ns.getD k ai).version=u:=by
 unfold mE
 by_cases h1:m<0∨2 ^ ns.length≤m
 ·rw [if_pos h1]
  refine ⟨fun h=>(by cases h),fun h=>?_⟩
  omega
 ·rw [if_neg h1]
  by_cases h2:bJ (many m) j.min j.max=true
  ·rw [if_pos h2,uN m takes ns 0 j.pin hv]
   have h3:=aX h2
   simp only [Nat.zero_add]
   exact ⟨fun h=>⟨by omega,h3,h⟩,fun h=>h.2.2⟩
  ·rw [if_neg h2]
   refine ⟨fun h=>(by cases h),fun h=>absurd ?_ h2⟩
   exact decide_eq_true h.2.1
theorem wz (c:aB) (s:aa) (j:bP) (number:Int) (hv:∀ k,k<s.nodes.length→1≤(s.nodes.getD k ai).version) :
  gE c s j number=true↔wu c j∧(ez j.phase=true→tn s.nodes j∧∀ i,i<s.nodes.length→hasB j.nodes i=true→kg number (dW s i)=true)∧(ez j.phase=false→j.nodes=0):=by
 unfold gE
 simp only [Bool.and_eq_true]
 have key:(if ez j.phase=true then mE s.nodes j j.nodes (kg number) else decide (j.nodes=0))=true↔(ez j.phase=true→tn s.nodes j∧∀ i,i<s.nodes.length→hasB j.nodes i=true→kg number (dW s i)=true)∧(ez j.phase=false→j.nodes=0):=by
  cases hp:ez j.phase with
  | true=>
    rw [if_pos rfl,Cg _ _ _ _ hv]
    constructor
    ·rintro ⟨⟨a,b⟩,e,u,f,g⟩
     exact ⟨fun _=>⟨⟨a,b,e,u,f,fun i hi h=>(g i hi h).2⟩,fun i hi h=>(g i hi h).1⟩,fun h=>by cases h⟩
    ·rintro ⟨h,_⟩
     obtain ⟨⟨a,b,e,u,f,g⟩,h⟩:=h rfl
     exact ⟨⟨a,b⟩,e,u,f,fun i hi hb=>⟨h i hi hb,g i hi hb⟩⟩
  | false=>simp
 rw [key]
 constructor
 ·rintro ⟨⟨⟨⟨⟨⟨a,b⟩,d⟩,e⟩,f⟩,g⟩,h⟩
  exact ⟨⟨a,aX b,aX d,aX e,aX f,aX g⟩,h⟩
 ·rintro ⟨⟨a,b,d,e,f,g⟩,h⟩
  exact ⟨⟨⟨⟨⟨⟨a,decide_eq_true b⟩,decide_eq_true d⟩,decide_eq_true e⟩,decide_eq_true f⟩,decide_eq_true g⟩,h⟩
theorem k9 (c:aB) (s:aa):∀ (l:List bP) (k:Nat),eY c s l k=true↔∀ i,i<l.length→gE c s (l.getD i aD) ((k+i:Nat)+1)=true
 | [],k=>by simp [eY]
 | j::l,k=>by
   unfold eY
   rw [Bool.and_eq_true,k9 c s l (k+1)]
   constructor
   ·rintro ⟨h1,h2⟩ i hi
    cases i with
    | zero=>simpa using h1
    | succ i=>
      have:=h2 i (by simpa using hi)
      rw [show k+(i+1)=k+1+i by omega]
      simpa using this
   ·intro h
    refine ⟨by simpa using h 0 (by simp),fun i hi=>?_⟩
    have:=h (i+1) (by simpa using hi)
    rw [show k+1+i=k+(i+1) by omega]
    simpa using this
theorem mP (s:aa):∀ (l:List a_) (k:Nat),fo s l k=true↔∀ i,i<l.length→mQ s (l.getD i ai) (k+i)=true
 | [],k=>by simp [fo]
 | j::l,k=>by
   unfold fo
   rw [Bool.and_eq_true,mP s l (k+1)]
   constructor
   ·rintro ⟨h1,h2⟩ i hi
    cases i with
    | zero=>simpa using h1
    | succ i=>
      have:=h2 i (by simpa using hi)
      rw [show k+(i+1)=k+1+i by omega]
      simpa using this
   ·intro h
    refine ⟨by simpa using h 0 (by simp),fun i hi=>?_⟩
    have:=h (i+1) (by simpa using hi)
    rw [show k+1+i=k+(i+1) by omega]
    simpa using this
theorem mS (c:aB) (s:aa):∀ (n q:Nat),eS c s q n=true↔∀ i,i<n→cI s.jobs ((q+i:Nat):Int)≤c.cH
 | 0,q=>by simp [eS]
 | n+1,q=>by
   unfold eS
   rw [Bool.and_eq_true,mS c s n (q+1),Bool.not_eq_true',decide_eq_false_iff_not]
   constructor
   ·rintro ⟨h1,h2⟩ i hi
    cases i with
    | zero=>simpa using h1
    | succ i=>
      have:=h2 i (by omega)
      rw [show q+(i+1)=q+1+i by omega]
      exact this
   ·intro h
    refine ⟨by have:=h 0 (by omega); simpa using this,fun i hi=>?_⟩
    have:=h (i+1) (by omega)
    rw [show q+1+i=q+(i+1) by omega]
    exact this
theorem yJ (s:aa) (n:a_) (i:Nat):mQ s n i=true↔(1≤n.version∧n.version≤9)∧(0≤n.aM∧n.aM≤s.jobs.length)∧(n.bw=true→n.up=true∧n.cF=true∧n.aM=0)∧(n.aM≠0→hasB (s.jobs.getD (n.aM-1).toNat aD).nodes i=true):=by
 unfold mQ bJ
 cases n.bw <;> cases n.up <;> cases n.cF <;> by_cases h0:n.aM=0 <;> simp [h0,and_assoc]
theorem fq (c:aB) (s:aa):iD c s=true↔bK c s:=by
 unfold iD
 simp only [Bool.and_eq_true]
 constructor
 ·rintro ⟨⟨⟨⟨⟨⟨⟨⟨⟨h1,h2⟩,h3⟩,h4⟩,h5⟩,h6⟩,h7⟩,h8⟩,h9⟩,h10⟩
  rw [k9] at h8
  rw [mP] at h9
  rw [mS] at h10
  have h3:=of_decide_eq_true h3
  have hs:∀ i,i<s.nodes.length→_:=fun i hi=>(yJ s (s.nodes.getD i ai) i).1 (by simpa using h9 i hi)
  have hv:∀ k,k<s.nodes.length→1≤(s.nodes.getD k ai).version:=fun k hk=>(hs k hk).1.1
  have hst:∀ i,i<s.jobs.length→_:=fun i hi=>(wz c s (s.jobs.getD i aD) (i+1) hv).1 (by simpa using h8 i hi)
  have tB:∀ i k,i<s.nodes.length→k<s.jobs.length→hasB (dI s k).nodes i=true→kg (k+1) (dW s i)=true:=fun i k hi hk hb=>by
   cases hp:ez (s.jobs.getD k aD).phase with
   | true=>exact ((hst k hk).2.1 hp).2 i hi hb
   | false=>
     have:=(hst k hk).2.2 hp
     unfold dI at hb
     rw [this,qw] at hb; cases hb
  have hl2:∀ i k,i<s.nodes.length→k<s.jobs.length→(dW s i).aM=k+1→hasB (dI s k).nodes i=true:=fun i k hi hk hj=>by
   have:=(hs i hi).2.2.2 (by unfold dW at hj; omega)
   unfold dW at hj
   rw [hj] at this
   simpa [dI] using this
  refine ⟨h1,of_decide_eq_true h2,h3,aX h4,aX h5,aX h6,aX h7,fun k hk=>(hst k hk).1,fun k hk hp=>((hst k hk).2.1 hp).1,fun k hk hp=>(hst k hk).2.2 hp,fun i hi=>(hs i hi).1,fun i hi=>(hs i hi).2.1,fun i hi=>(hs i hi).2.2.1,fun i hi h0=>?_,fun i k hi hk=>⟨fun hb=>?_,hl2 i k hi hk⟩,fun q hq=>?_⟩
  ·have h:=(hs i hi).2.1
   have:=tB i ((dW s i).aM-1).toNat hi (by unfold dW at *; omega) (hl2 i _ hi (by unfold dW at *; omega) (by unfold dW at *; omega))
   simp only [kg,Bool.and_eq_true] at this
   exact this.1.1
  ·have:=tB i k hi hk hb
   simp only [kg,Bool.and_eq_true,decide_eq_true_eq] at this
   exact this.2
  ·have:=h10 q (by omega)
   simpa using this
 ·intro h
  have hv:∀ k,k<s.nodes.length→1≤(s.nodes.getD k ai).version:=fun k hk=>(h.M4 k hk).1
  refine ⟨⟨⟨⟨⟨⟨⟨⟨⟨h.uW,decide_eq_true h.nodes⟩,decide_eq_true h.jobs⟩,decide_eq_true h.goal⟩,decide_eq_true h.prior⟩,decide_eq_true h.mode⟩,decide_eq_true h.term⟩,?_⟩,?_⟩,?_⟩
  ·rw [k9]
   intro k hk
   rw [Nat.zero_add,wz _ _ _ _ hv]
   refine ⟨h.num k hk,fun hp=>⟨h.mT k hk hp,fun i hi hb=>?_⟩,h.idle k hk⟩
   have hj:=(h.link i k hi hk).1 hb
   have hm:(dW s i).bw=false:=by
    cases hm:(dW s i).bw with
    | false=>rfl
    | true=>have:=(h.bw i hi hm).2.2; omega
   simp only [kg,Bool.and_eq_true,decide_eq_true_eq,hm,h.up i hi (by omega),hj,Bool.not_false,and_self]
  ·rw [mP]
   intro i hi
   rw [Nat.zero_add,yJ]
   refine ⟨h.M4 i hi,h.aM i hi,h.bw i hi,fun h0=>?_⟩
   have hj:=h.aM i hi
   have:=(h.link i ((dW s i).aM-1).toNat hi (by unfold dW at *; omega)).2 (by unfold dW at *; omega)
   exact this
  ·rw [mS]
   intro i hi
   have:=h.cH i (by omega)
   simpa using this
end Dv
namespace Dv
end Dv
namespace Dv
theorem z_ {α:Type} (l:List α) (k i:Nat) (x z:α) (h:k<l.length):(l.set k x).getD i z=if i=k then x else l.getD i z:=by
 by_cases hi:i=k
 ·subst hi; simp [List.getD,h]
 ·rw [if_neg hi]; simp [List.getD,List.getElem?_set_ne (fun e=>hi e.symm)]
theorem mC {α:Type} (l:List α) (g:Nat→α→α) (i:Nat) (z:α) (h:i<l.length):(l.mapIdx g).getD i z=g i (l.getD i z):=by
 simp [List.getD,h]
def Dh (q:Int) (j:bP):Bool:=decide (j.queue=q)&&decide (j.phase=3)
theorem uR (j:bP) (l:List bP) (q:Int):cI (j::l) q=(if Dh q j then 1 else 0)+cI l q:=by
 unfold cI
 have:(fun j:bP=>decide (j.queue=q)&&decide (j.phase=3))=Dh q:=rfl
 rw [this]
 cases h:Dh q j
 ·simp [List.filter_cons,h]
 ·simp [List.filter_cons,h]; omega
theorem w9 (q:Int) (j':bP):∀ (l:List bP) (k:Nat),k<l.length→cI (l.set k j') q+(if Dh q (l.getD k aD) then 1 else 0)=cI l q+(if Dh q j' then 1 else 0)
 | [],k,h=>by simp at h
 | j::l,0,_=>by
   simp only [List.set_cons_zero,uR,List.getD_cons_zero]
   omega
 | j::l,k+1,h=>by
   have:=w9 q j' l k (by simpa using h)
   simp only [List.set_cons_succ,uR,List.getD_cons_succ]
   omega
theorem Ap (q:Int) (j:bP) (l:List bP):cI (l++[j]) q=cI l q+(if Dh q j then 1 else 0):=by
 rw [uQ]
 unfold Dh
 by_cases h1:j.queue=q <;> by_cases h2:j.phase=3 <;> simp [h1,h2]
structure mO (c:aB) (s:aa) (k0:Nat) (j':bP) (ns':List a_):Prop where
 hk:k0<s.jobs.length
 num:wu c j'
 fixed:j'.queue=(dI s k0).queue∧j'.prio=(dI s k0).prio∧j'.min=(dI s k0).min∧j'.max=(dI s k0).max∧j'.work=(dI s k0).work∧j'.pin=(dI s k0).pin
 grow:(dI s k0).inc≤j'.inc∧(dI s k0).epoch≤j'.epoch
 ended:(dI s k0).phase≠4
 len:ns'.length=s.nodes.length
 same:∀ i,i<s.nodes.length→(ns'.getD i ai).up=(dW s i).up∧(ns'.getD i ai).cF=(dW s i).cF∧(ns'.getD i ai).bw=(dW s i).bw∧(ns'.getD i ai).version=(dW s i).version
 mT:ez j'.phase=true→tn s.nodes j'
 idle:ez j'.phase=false→j'.nodes=0
 link:∀ i,i<s.nodes.length→(hasB j'.nodes i=true↔(ns'.getD i ai).aM=k0+1)
 others:∀ i k,i<s.nodes.length→k<s.jobs.length→k≠k0→((ns'.getD i ai).aM=k+1↔(dW s i).aM=k+1)
 range:∀ i,i<s.nodes.length→0≤(ns'.getD i ai).aM∧(ns'.getD i ai).aM≤s.jobs.length
 use:∀ i,i<s.nodes.length→(ns'.getD i ai).aM≠0→(dW s i).up=true∧(dW s i).bw=false
 cH:j'.phase=3→(dI s k0).phase=3∨cI s.jobs (dI s k0).queue<c.cH
structure u_ (s:aa) (i0:Nat) (n':a_):Prop where
 hi:i0<s.nodes.length
 M4:1≤n'.version∧n'.version≤9
 aM:n'.aM=(dW s i0).aM
 keep:(dW s i0).aM≠0→n'.version=(dW s i0).version
 bw:n'.bw=true→n'.up=true∧n'.cF=true∧n'.aM=0
 up:n'.aM≠0→n'.up=true
structure Kq (s:aa) (g p m t:Int):Prop where
 goal:1≤g∧g≤9
 prior:1≤p∧p≤9
 mode:0≤m∧m≤2
 term:s.term≤t∧t≤1000000
structure Ge (c:aB) (s:aa) (j:bP):Prop where
 len:s.jobs.length<24
 num:wu c j
 phase:j.phase=0
 nodes:j.nodes=0
inductive Step (c:aB) (s:aa):aa→Prop where
 | num {g p m t:Int} (h:Kq s g p m t):Step c s { s with goal:=g,prior:=p,mode:=m,term:=t }
 | aM {k0:Nat} {j':bP} {ns':List a_} (h:mO c s k0 j' ns'):Step c s { s with nodes:=ns',jobs:=s.jobs.set k0 j' }
 | node {i0:Nat} {n':a_} (h:u_ s i0 n'):Step c s { s with nodes:=s.nodes.set i0 n' }
 | both {k0:Nat} {j':bP} {ns':List a_} {i0:Nat} {n':a_} (h:mO c s k0 j' ns') (h2:u_ { s with nodes:=ns',jobs:=s.jobs.set k0 j' } i0 n'):Step c s { s with nodes:=ns'.set i0 n',jobs:=s.jobs.set k0 j' }
 | more {j:bP} (h:Ge c s j):Step c s { s with jobs:=s.jobs++[j] }
section
variable {c:aB} {s:aa}
theorem tn.of {ns ns':List a_} {j:bP} (h:tn ns j) (hl:ns'.length=ns.length) (hv:∀ i,i<ns.length→hasB j.nodes i=true→(ns'.getD i ai).version=(ns.getD i ai).version):tn ns' j:=by
 obtain ⟨a,b,d,u,e,f⟩:=h
 refine ⟨a,by rw [hl]; exact b,d,u,e,fun i hi hb=>?_⟩
 rw [hl] at hi
 rw [hv i hi hb]; exact f i hi hb
theorem bK.zH (h:bK c s) {k0:Nat} {j':bP} {ns':List a_} (q:mO c s k0 j' ns'):bK c { s with nodes:=ns',jobs:=s.jobs.set k0 j' }:=by
 have hlj:(s.jobs.set k0 j').length=s.jobs.length:=by simp
 have hjo:∀ k,dI { s with nodes:=ns',jobs:=s.jobs.set k0 j' } k=if k=k0 then j' else dI s k:=fun k=>z_ _ _ _ _ _ q.hk
 have hno:∀ i,dW { s with nodes:=ns',jobs:=s.jobs.set k0 j' } i=ns'.getD i ai:=fun i=>rfl
 refine ⟨h.uW,by rw [← h.nodes]; exact congrArg _ q.len,by dsimp only; rw [hlj]; exact h.jobs,h.goal,h.prior,h.mode,h.term,fun k hk=>?_,fun k hk hp=>?_,fun k hk hp=>?_,fun i hi=>?_,fun i hi=>?_,fun i hi hm=>?_,fun i hi h0=>?_,fun i k hi hk=>?_,fun p hp=>?_⟩
 ·dsimp only at hk; rw [hlj] at hk; rw [hjo]; split
  ·exact q.num
  ·exact h.num k hk
 ·dsimp only at hk; rw [hlj] at hk; rw [hjo] at hp ⊢; dsimp only
  split
  ·rename_i e; rw [if_pos e] at hp
   exact (q.mT hp).of q.len fun i hi _=>(q.same i hi).2.2.2
  ·rename_i e; rw [if_neg e] at hp
   exact (h.mT k hk hp).of q.len fun i hi _=>(q.same i hi).2.2.2
 ·dsimp only at hk; rw [hlj] at hk; rw [hjo] at hp ⊢
  split
  ·rename_i e; rw [if_pos e] at hp; exact q.idle hp
  ·rename_i e; rw [if_neg e] at hp; exact h.idle k hk hp
 ·dsimp only at hi; rw [q.len] at hi; rw [hno,(q.same i hi).2.2.2]; exact h.M4 i hi
 ·dsimp only at hi ⊢; rw [q.len] at hi; rw [hno,hlj]; exact q.range i hi
 ·dsimp only at hi; rw [q.len] at hi; rw [hno] at hm ⊢
  obtain ⟨a,b,d,_⟩:=q.same i hi
  rw [d] at hm
  have:=h.bw i hi hm
  rw [a,b]
  refine ⟨this.1,this.2.1,?_⟩
  by_cases h0:(ns'.getD i ai).aM=0
  ·exact h0
  ·have:=(q.use i hi h0).2; rw [hm] at this; cases this
 ·dsimp only at hi; rw [q.len] at hi; rw [hno] at h0 ⊢
  rw [(q.same i hi).1]; exact (q.use i hi h0).1
 ·dsimp only at hi hk; rw [q.len] at hi; rw [hlj] at hk; rw [hno,hjo]
  split
  ·rename_i e; subst e; exact q.link i hi
  ·rename_i e; rw [q.others i k hi hk e]; exact h.link i k hi hk
 ·have h1:=w9 p j' s.jobs k0 q.hk
  have h2:=h.cH p hp
  have h3:=q.fixed.1
  have h4:=q.cH
  dsimp only
  unfold dI at h3 h4
  generalize s.jobs.getD k0 aD=j at *
  unfold Dh at h1
  by_cases e1:j'.queue=p
  ·have e2:j.queue=p:=by omega
   by_cases e3:j'.phase=3
   ·rcases h4 e3 with e4 | e4
    ·simp only [e1,e2,e3,e4,decide_true,Bool.and_true,if_true] at h1; omega
    ·by_cases e5:j.phase=3
     ·simp only [e1,e2,e3,e5,decide_true,Bool.and_true,if_true] at h1; omega
     ·simp only [e1,e2,e3,e5,decide_true,decide_false,Bool.and_true,Bool.and_false,if_true] at h1
      rw [e2] at e4
      simp at h1
      omega
   ·simp [e1,e2,e3] at h1
    split at h1 <;> omega
  ·have e2:j.queue≠p:=by omega
   simp [e1,e2] at h1
   omega
theorem bK.BO (h:bK c s) {i0:Nat} {n':a_} (q:u_ s i0 n'):bK c { s with nodes:=s.nodes.set i0 n' }:=by
 have vm:(s.nodes.set i0 n').length=s.nodes.length:=by simp
 have hno:∀ k,dW { s with nodes:=s.nodes.set i0 n' } k=if k=i0 then n' else dW s k:=fun k=>z_ _ _ _ _ _ q.hi
 have hjo:∀ i,dI { s with nodes:=s.nodes.set i0 n' } i=dI s i:=fun i=>rfl
 refine ⟨h.uW,by dsimp only; rw [vm]; exact h.nodes,h.jobs,h.goal,h.prior,h.mode,h.term,h.num,fun k hk hp=>?_,h.idle,fun i hi=>?_,fun i hi=>?_,fun i hi hm=>?_,fun i hi h0=>?_,fun i k hi hk=>?_,h.cH⟩
 ·refine (h.mT k hk hp).of vm fun i hi hb=>?_
  have:=hno i
  unfold dW at this
  dsimp only at this ⊢
  rw [this]
  split
  ·rename_i e; subst e
   have hj:=(h.link i k hi hk).1 hb
   exact q.keep (by omega)
  ·rfl
 ·dsimp only at hi; rw [vm] at hi; rw [hno]; split
  ·exact q.M4
  ·exact h.M4 i hi
 ·dsimp only at hi; rw [vm] at hi; rw [hno]; split
  ·rename_i e; subst e; rw [q.aM]; exact h.aM i hi
  ·exact h.aM i hi
 ·dsimp only at hi; rw [vm] at hi; rw [hno] at hm ⊢
  by_cases e:i=i0
  ·rw [if_pos e] at hm ⊢; exact q.bw hm
  ·rw [if_neg e] at hm ⊢; exact h.bw i hi hm
 ·dsimp only at hi; rw [vm] at hi; rw [hno] at h0 ⊢
  by_cases e:i=i0
  ·rw [if_pos e] at h0 ⊢; exact q.up h0
  ·rw [if_neg e] at h0 ⊢; exact h.up i hi h0
 ·dsimp only at hi hk; rw [vm] at hi; rw [hno,hjo]
  split
  ·rename_i e; subst e; rw [q.aM]; exact h.link i k hi hk
  ·exact h.link i k hi hk
theorem bK.Og (h:bK c s) {g p m t:Int} (q:Kq s g p m t):bK c { s with goal:=g,prior:=p,mode:=m,term:=t }:=
 ⟨h.uW,h.nodes,h.jobs,q.goal,q.prior,q.mode,⟨by have:=h.term; have:=q.term; dsimp only; omega,q.term.2⟩,h.num,h.mT,h.idle,h.M4,h.aM,h.bw,h.up,h.link,h.cH⟩
theorem L0 (l:List bP) (j:bP) (k:Nat):(l++[j]).getD k aD=if k<l.length then l.getD k aD else if k=l.length then j else aD:=by
 by_cases h:k<l.length
 ·rw [if_pos h]; simp [List.getD,List.getElem?_append_left h]
 ·rw [if_neg h]
  by_cases e:k=l.length
  ·rw [if_pos e]; subst e; simp
  ·rw [if_neg e]; simp [List.getD,List.getElem?_append_right (show l.length≤k by omega)]
   rw [List.getElem?_eq_none (by simp; omega)]; rfl
theorem bK.Ln (h:bK c s) {j:bP} (q:Ge c s j):bK c { s with jobs:=s.jobs++[j] }:=by
 have hjo:∀ k,k<(s.jobs++[j]).length→dI { s with jobs:=s.jobs++[j] } k=if k<s.jobs.length then dI s k else j:=fun k hk=>by
  unfold dI
  dsimp only
  rw [L0]
  simp at hk
  by_cases e:k<s.jobs.length
  ·rw [if_pos e,if_pos e]
  ·rw [if_neg e,if_neg e,if_pos (by omega)]
 have hlen:(s.jobs++[j]).length=s.jobs.length+1:=by simp
 refine ⟨h.uW,h.nodes,by dsimp only; rw [hlen]; have:=q.len; omega,h.goal,h.prior,h.mode,h.term,fun k hk=>?_,fun k hk hp=>?_,fun k hk hp=>?_,h.M4,fun i hi=>?_,h.bw,h.up,fun i k hi hk=>?_,fun p hp=>?_⟩
 ·rw [hjo k hk]; split
  ·rename_i e; exact h.num k e
  ·exact q.num
 ·rw [hjo k hk] at hp ⊢
  by_cases e:k<s.jobs.length
  ·rw [if_pos e] at hp ⊢; exact h.mT k e hp
  ·rw [if_neg e,q.phase] at hp; cases hp
 ·rw [hjo k hk] at hp ⊢
  by_cases e:k<s.jobs.length
  ·rw [if_pos e] at hp ⊢; exact h.idle k e hp
  ·rw [if_neg e]; exact q.nodes
 ·have:=h.aM i hi
  have e:dW { s with jobs:=s.jobs++[j] } i=dW s i:=rfl
  dsimp only
  rw [hlen,e]
  omega
 ·rw [hjo k hk]
  have e:dW { s with jobs:=s.jobs++[j] } i=dW s i:=rfl
  rw [e]
  by_cases e:k<s.jobs.length
  ·rw [if_pos e]; exact h.link i k hi e
  ·rw [if_neg e,q.nodes,qw]
   have:=h.aM i hi
   simp only [Bool.false_eq_true,false_iff]
   omega
 ·have:=Ap p j s.jobs
  have h2:=h.cH p hp
  dsimp only
  rw [this]
  unfold Dh
  rw [q.phase]
  simp
  exact h2
theorem Step.right (h:bK c s) {t:aa} (q:Step c s t):bK c t:=by
 cases q with
 | num q=>exact h.Og q
 | aM q=>exact h.zH q
 | node q=>exact h.BO q
 | both q q2=>exact (h.zH q).BO q2
 | more q=>exact h.Ln q
end
end Dv
namespace Dv
def gj (r:List eH) (i:Int):eH:=if i<0∨(r.length:Int)≤i then jQ else if (r.getD i.toNat jQ).kind=6 then r.getD i.toNat jQ else jQ
def JN (m:eH):Bool:=m.kind==6&&m.mode==0
def ku (s:aa) (r:List eH) (node mode aM:Int):Bool:=
 (gj r node).kind==6&&decide (1≤aM)&&decide (aM≤s.jobs.length)&&(gj r node).mode==mode&&(gj r node).aM==aM&&(gj r node).inc==(s.jobs.getD (aM-1).toNat aD).inc
def oF (m:Int) (tk:Nat→Bool):Bool:=(List.range 6).all fun i=>!hasB m i||tk i
def Cd (s:aa) (r:List eH) (aM now:Int) (j:bP):bT×Bool:=
 if j.phase=1 then (⟨10,aM,now,0,0,0,0⟩,oF j.nodes fun i=>ku s r i 1 aM||ku s r i 2 aM)
 else if j.phase=2 then (⟨15,aM,0,0,0,0,0⟩,oF j.nodes fun i=>ku s r i 2 aM&&decide (j.work≤(gj r i).work))
 else if j.phase=3 then (if j.epoch<j.inc then ⟨13,aM,j.inc,0,0,0,0⟩ else ⟨14,aM,0,0,0,0,0⟩,oF j.nodes fun i=>ku s r i 3 aM)
 else (cU,false)
def Nj (p:bT×Bool):Option bT:=if p.2=true then some p.1 else none
def Eb (s:aa) (m:eH) (n:a_) (i:Int):Option bT:=
 if JN m=false then none
 else if n.up=false∧1≤m.version∧m.version≤9 then some ⟨8,i,m.version,0,0,0,0⟩
 else if n.bw=true∧m.version=fM s then some ⟨19,i,m.version,0,0,0,0⟩
 else none
def kY (s:aa) (r:List eH) (up:Bool):List a_→Nat→Option bT
 | [],_=>none
 | n::l,i=>if n.up=up then (match Eb s (gj r i) n i with | some o=>some o | none=>kY s r up l (i+1)) else kY s r up l (i+1)
def rO (s:aa) (r:List eH) (now:Int):List bP→Nat→Option bT
 | [],_=>none
 | j::l,k=>match Nj (Cd s r ((k:Int)+1) now j) with | some o=>some o | none=>rO s r now l (k+1)
def oD (s:aa) (r:List eH) (now:Int):Option bT:=
 match kY s r false s.nodes 0 with
 | some o=>some o
 | none=>match kY s r true s.nodes 0 with
   | some o=>some o
   | none=>rO s r now s.jobs 0
def mq (cr now:Int):List Bool→List Int→Int→Int
 | u::us,h::hs,i=>if u=true∧h+cr≤now then i else mq cr now us hs (i+1)
 | _,_,_=>-1
end Dv
