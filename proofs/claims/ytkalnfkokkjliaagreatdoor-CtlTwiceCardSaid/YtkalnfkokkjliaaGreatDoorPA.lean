/- part -/
set_option linter.all false
namespace Dv
structure bp where
 up:Bool
 cL:Bool
 bC:Bool
 version:Int
 aQ:Int
 deriving DecidableEq
structure bP where
 queue:Int
 prio:Int
 min:Int
 max:Int
 work:Int
 pin:Int
 phase:Int
 inc:Int
 nodes:Int
 since:Int
 til:Int
 epoch:Int
 deriving DecidableEq
structure aC where
 nodes:Int
 bH:Int
 cB:Int
 gF:Int
 bZ:Int
 eC:Int
 deadline:Int
 room:Int
 fP:Int
 deriving DecidableEq
structure aa where
 nodes:List bp
 jobs:List bP
 goal:Int
 prior:Int
 mode:Int
 term:Int
 deriving DecidableEq
structure cA where
 kind:Int
 a:Int
 b:Int
 c:Int
 d:Int
 e:Int
 f:Int
 deriving DecidableEq
structure dA where
 node:Int
 kind:Int
 term:Int
 gen:Int
 aQ:Int
 inc:Int
 version:Int
 epoch:Int
 til:Int
 mode:Int
 work:Int
 deriving DecidableEq
def ia:cA:=⟨0,0,0,0,0,0,0⟩
def iX:dA:=⟨0,0,0,0,0,0,0,0,0,0,0⟩
def az:bP:=⟨0,0,0,0,0,0,0,0,0,0,0,0⟩
def ai:bp:=⟨false,false,false,0,0⟩
def fZ (s:aa):Int:=if s.mode=2 then s.prior else s.goal
def cQ (l:List bP) (q:Int):Int:=((l.filter (fun j=>decide (j.queue=q)&&decide (j.phase=3))).length:Int)
theorem I8 (l:List bP) (q:Int):0≤cQ l q∧cQ l q≤l.length:=by
 unfold cQ
 have:=List.length_filter_le (fun j:bP=>decide (j.queue=q)&&decide (j.phase=3)) l
 omega
theorem u5 (l:List bP) (j:bP) (q:Int):cQ (l++[j]) q=cQ l q+if j.queue=q∧j.phase=3 then 1 else 0:=by
 unfold cQ
 by_cases h1:j.queue=q <;> by_cases h2:j.phase=3 <;> simp [List.filter_append,List.filter_cons,h1,h2]
def hasB (n:Int) (i:Nat):Bool:=decide (n / 2 ^ i % 2=1)
def YI (n:Int) (i:Nat):Int:=if hasB n i then 1 else 0
def vV (n:Int):Nat→Int
 | 0=>0
 | k+1=>vV n k+YI n k
def many (n:Int):Int:=vV n 6
theorem Cj (n:Int):∀ k:Nat,0≤vV n k∧vV n k≤k
 | 0=>by simp [vV]
 | k+1=>by
   have:=Cj n k
   unfold vV YI
   split <;> omega
def bK (n lo hi:Int):Bool:=decide (lo≤n∧n≤hi)
def ew (nodes:Int) (takes:bp→Bool):List bp→Nat→Int→Bool
 | [],_,_=>true
 | n::l,i,v=>
   if hasB nodes i=false then ew nodes takes l (i+1) v
   else if takes n=true∧n.version=(if v=0 then n.version else v) then ew nodes takes l (i+1) (if v=0 then n.version else v) else false
def mQ (ns:List bp) (j:bP) (nodes:Int) (takes:bp→Bool):Bool:=
 if nodes<0∨2 ^ ns.length≤nodes then false
 else if bK (many nodes) j.min j.max=true then ew nodes takes ns 0 j.pin else false
def mj (c:aC) (j:bP):Bool:=bK j.queue 0 (c.bH-1)&&bK j.prio 0 9&&bK j.min 1 j.max&&bK j.max 1 c.nodes&&bK j.work 1 1000&&bK j.pin 0 9
def eM (p:Int):Bool:=decide (p=1∨p=2∨p=3)
def gJ (c:aC):Bool:=bK c.nodes 1 6&&bK c.bH 1 3&&bK c.cB 0 4&&bK c.gF 1 6&&bK c.bZ 2 30&&bK c.eC 1 20&&bK c.deadline 1 60&&bK c.room 0 5000&&bK c.fP 2000 40000
def kr (number:Int) (n:bp):Bool:=n.up&&!n.bC&&decide (n.aQ=number)
def gO (c:aC) (s:aa) (j:bP) (number:Int):Bool:=
 mj c j&&bK j.phase 0 4&&bK j.inc 0 1000000&&bK j.since 0 1000000&&bK j.til 0 1000000&&bK j.epoch 0 j.inc&&
 (if eM j.phase=true then mQ s.nodes j j.nodes (kr number) else decide (j.nodes=0))
def ng (s:aa) (n:bp) (number:Nat):Bool:=
 bK n.version 1 9&&bK n.aQ 0 s.jobs.length&&!(n.bC&&(!n.up||!n.cL||decide (n.aQ≠0)))&&
 (decide (n.aQ=0)||hasB (s.jobs.getD (n.aQ-1).toNat az).nodes number)
def fh (c:aC) (s:aa):List bP→Nat→Bool
 | [],_=>true
 | j::l,k=>gO c s j (k+1)&&fh c s l (k+1)
def fG (s:aa):List bp→Nat→Bool
 | [],_=>true
 | n::l,k=>ng s n k&&fG s l (k+1)
def e_ (c:aC) (s:aa):Nat→Nat→Bool
 | _,0=>true
 | q,n+1=>!decide (c.cB<cQ s.jobs q)&&e_ c s (q+1) n
def iL (c:aC) (s:aa):Bool:=
 gJ c&&decide ((s.nodes.length:Int)=c.nodes)&&decide (s.jobs.length≤24)&&bK s.goal 1 9&&bK s.prior 1 9&&bK s.mode 0 2&&bK s.term 0 1000000&&
 fh c s s.jobs 0&&fG s s.nodes 0&&e_ c s 0 c.bH.toNat
theorem drop_cons {α:Type} (l:List α) (k:Nat) (z:α) (h:k<l.length):l.drop k=l.getD k z::l.drop (k+1):=by
 rw [List.drop_eq_getElem_cons h]; simp [List.getD,h]
end Dv
namespace Dv
def kY (s:aa) (n:bp):Bool:=n.up&&!n.bC&&decide (n.version≠fZ s)
def ur (s:aa) (aQ:Int):Int:=(s.jobs.getD (aQ-1).toNat az).pin
def mw (s:aa) (n:bp):Bool:=if n.aQ=0 then false else decide (ur s n.aQ≠0)&&decide (ur s n.aQ≠fZ s)
def tI (s:aa) (i:Int):Bool:=if i<0∨(s.nodes.length:Int)≤i then false else mw s (s.nodes.getD i.toNat ai)
def pV (l:List bp):Int:=((l.filter (·.cL)).length:Int)
theorem NA (l:List bp):0≤pV l∧pV l≤l.length:=by
 unfold pV
 have:=List.length_filter_le (fun n:bp=>n.cL) l
 omega
theorem G6 (l:List bp) (n:bp):pV (l++[n])=pV l+if n.cL then 1 else 0:=by
 unfold pV
 cases h:n.cL <;> simp [List.filter_append,List.filter_cons,h]
def JU (s:aa) (n:bp):Bool:=n.cL&&n.up&&!n.bC&&(!kY s n||mw s n)
def mh (c:aC) (s:aa) (now:Int) (n:bp) (i:Int):Option cA:=
 if n.cL=false∨kY s n=false∨mw s n=true then none
 else if n.aQ=0 then some ⟨18,i,0,0,0,0,0⟩
 else
  let j:=s.jobs.getD (n.aQ-1).toNat az
  if j.phase=1 then some ⟨11,n.aQ,0,0,0,0,0⟩
  else if j.phase=2∧j.min<many (j.nodes % 64) then some ⟨20,n.aQ,i,0,0,0,0⟩
  else if j.phase=2∧cQ s.jobs j.queue<c.cB then some ⟨12,n.aQ,(if 1000000≤now+c.deadline then 1000000 else now+c.deadline),0,0,0,0⟩
  else none
def ER (c:aC) (s:aa) (n:bp):Bool:=!n.cL&&kY s n&&!mw s n&&decide (pV s.nodes<c.gF)
def fL (f:bp→Int→Option cA):List bp→Nat→Option cA
 | [],_=>none
 | n::l,k=>match f n k with
   | some o=>some o
   | none=>fL f l (k+1)
def Fp (s:aa) (n:bp) (i:Int):Option cA:=if JU s n=true then some ⟨17,i,0,0,0,0,0⟩ else none
def y8 (c:aC) (s:aa) (n:bp) (i:Int):Option cA:=if ER c s n=true then some ⟨16,i,0,0,0,0,0⟩ else none
def zM (c:aC) (s:aa) (now:Int):Option cA:=
 if s.mode=1 then none
 else match fL (Fp s) s.nodes 0 with
  | some o=>some o
  | none=>match fL (mh c s now) s.nodes 0 with
    | some o=>some o
    | none=>fL (y8 c s) s.nodes 0
structure Ey (c:aC) (s:aa):Prop where
 vf:1≤c.nodes∧c.nodes≤6∧1≤c.bH∧c.bH≤3∧0≤c.cB∧c.cB≤4∧1≤c.gF∧c.gF≤6∧2≤c.bZ∧c.bZ≤30∧1≤c.eC∧c.eC≤20∧1≤c.deadline∧c.deadline≤60∧0≤c.room∧c.room≤5000∧2000≤c.fP∧c.fP≤40000
 nodes:(s.nodes.length:Int)=c.nodes
 jobs:s.jobs.length≤24
 acQ:1≤s.goal∧s.goal≤9∧1≤s.prior∧s.prior≤9∧0≤s.mode∧s.mode≤2∧0≤s.term∧s.term≤1000000
 NO:∀ k,k<s.jobs.length→gO c s (s.jobs.getD k az) (k+1)=true
 sound:∀ k,k<s.nodes.length→ng s (s.nodes.getD k ai) k=true
 cB:∀ q:Nat,(q:Int)<c.bH→cQ s.jobs q≤c.cB
theorem bh {n lo hi:Int} (h:bK n lo hi=true):lo≤n∧n≤hi:=of_decide_eq_true h
theorem qi (c:aC) (s:aa):∀ (l:List bP) (k:Nat),fh c s l k=true→∀ i,i<l.length→gO c s (l.getD i az) ((k+i:Nat)+1)=true
 | [],_,_,i,hi=>by simp at hi
 | j::l,k,h,i,hi=>by
   unfold fh at h
   simp only [Bool.and_eq_true] at h
   cases i with
   | zero=>simpa using h.1
   | succ i=>
     have:=qi c s l (k+1) h.2 i (by simpa using hi)
     rw [show k+(i+1)=k+1+i by omega]
     simpa using this
theorem sw (s:aa):∀ (l:List bp) (k:Nat),fG s l k=true→∀ i,i<l.length→ng s (l.getD i ai) (k+i)=true
 | [],_,_,i,hi=>by simp at hi
 | j::l,k,h,i,hi=>by
   unfold fG at h
   simp only [Bool.and_eq_true] at h
   cases i with
   | zero=>simpa using h.1
   | succ i=>
     have:=sw s l (k+1) h.2 i (by simpa using hi)
     rw [show k+(i+1)=k+1+i by omega]
     simpa using this
theorem sB (c:aC) (s:aa):∀ (n q:Nat),e_ c s q n=true→∀ i,i<n→cQ s.jobs ((q+i:Nat):Int)≤c.cB
 | 0,_,_,i,hi=>by omega
 | n+1,q,h,i,hi=>by
   unfold e_ at h
   simp only [Bool.and_eq_true,Bool.not_eq_true',decide_eq_false_iff_not] at h
   cases i with
   | zero=>have:=h.1; simp; omega
   | succ i=>
     have:=sB c s n (q+1) h.2 i (by omega)
     rw [show q+(i+1)=q+1+i by omega]
     exact this
theorem uh {c:aC} {s:aa} (h:iL c s=true):Ey c s:=by
 unfold iL gJ at h
 simp only [Bool.and_eq_true,decide_eq_true_eq] at h
 obtain ⟨⟨⟨⟨⟨⟨⟨⟨⟨⟨⟨⟨⟨⟨⟨⟨⟨h1,h2⟩,h3⟩,h4⟩,h5⟩,h6⟩,h7⟩,h8⟩,h9⟩,n1⟩,n2⟩,g1⟩,g2⟩,g3⟩,g4⟩,st⟩,so⟩,qu⟩:=h
 have h1:=bh h1
 have h2:=bh h2
 have h3:=bh h3
 have h4:=bh h4
 have h5:=bh h5
 have h6:=bh h6
 have h7:=bh h7
 have h8:=bh h8
 have h9:=bh h9
 have g1:=bh g1
 have g2:=bh g2
 have g3:=bh g3
 have g4:=bh g4
 exact ⟨⟨h1.1,h1.2,h2.1,h2.2,h3.1,h3.2,h4.1,h4.2,h5.1,h5.2,h6.1,h6.2,h7.1,h7.2,h8.1,h8.2,h9.1,h9.2⟩,n1,n2,⟨g1.1,g1.2,g2.1,g2.2,g3.1,g3.2,g4.1,g4.2⟩,
  fun k hk=>by have:=qi c s s.jobs 0 st k hk; simpa using this,
  fun k hk=>by have:=sw s s.nodes 0 so k hk; simpa using this,
  fun q hq=>by have:=sB c s _ 0 qu q (by omega); simpa using this⟩
theorem Ey.node {c:aC} {s:aa} (h:Ey c s) {k:Nat} (hk:k<s.nodes.length) :
  1≤(s.nodes.getD k ai).version∧(s.nodes.getD k ai).version≤9∧0≤(s.nodes.getD k ai).aQ∧(s.nodes.getD k ai).aQ≤s.jobs.length:=by
 have:=h.sound k hk
 unfold ng at this
 simp only [Bool.and_eq_true] at this
 have h1:=bh this.1.1.1
 have h2:=bh this.1.1.2
 omega
theorem Ey.aQ {c:aC} {s:aa} (h:Ey c s) {k:Nat} (hk:k<s.jobs.length) :
  let j:=s.jobs.getD k az
  (0≤j.queue∧j.queue≤c.bH-1)∧(0≤j.prio∧j.prio≤9)∧(1≤j.min∧j.min≤j.max)∧(1≤j.max∧j.max≤c.nodes)∧(1≤j.work∧j.work≤1000)∧(0≤j.pin∧j.pin≤9)∧(0≤j.phase∧j.phase≤4)∧(0≤j.inc∧j.inc≤1000000)∧(0≤j.since∧j.since≤1000000)∧(0≤j.til∧j.til≤1000000)∧(0≤j.epoch∧j.epoch≤j.inc):=by
 have:=h.NO k hk
 unfold gO mj at this
 simp only [Bool.and_eq_true] at this
 obtain ⟨⟨⟨⟨⟨⟨⟨⟨⟨⟨⟨a1,a2⟩,a3⟩,a4⟩,a5⟩,a6⟩,b1⟩,b2⟩,b3⟩,b4⟩,b5⟩,_⟩:=this
 exact ⟨bh a1,bh a2,bh a3,bh a4,bh a5,bh a6,bh b1,bh b2,bh b3,bh b4,bh b5⟩
theorem On (n:Nat) (h:n≤6):(2:Int) ^ n≤64:=by
 have:n=0∨n=1∨n=2∨n=3∨n=4∨n=5∨n=6:=by omega
 rcases this with h | h | h | h | h | h | h <;> subst h <;> simp
theorem Ey.bits {c:aC} {s:aa} (h:Ey c s) {k:Nat} (hk:k<s.jobs.length):0≤(s.jobs.getD k az).nodes∧(s.jobs.getD k az).nodes<64:=by
 have:=h.NO k hk
 have hc:=h.vf
 have hn:=h.nodes
 unfold gO at this
 simp only [Bool.and_eq_true] at this
 have h2:=this.2
 split at h2
 ·unfold mQ at h2
  split at h2
  ·cases h2
  ·rename_i hq
   have:=On s.nodes.length (by omega)
   omega
 ·have:=of_decide_eq_true h2
  omega
end Dv
namespace Dv
theorem mR (f:bp→Int→Option cA):∀ (l:List bp) (k:Nat) (o:cA),fL f l k=some o→∃ i,i<l.length∧f (l.getD i ai) ((k+i:Nat):Int)=some o
 | [],_,_,h=>by simp [fL] at h
 | n::l,k,o,h=>by
   unfold fL at h
   cases hf:f n k with
   | some p=>
     rw [hf] at h
     exact ⟨0,by simp,by simpa using hf.trans h⟩
   | none=>
     rw [hf] at h
     obtain ⟨i,hi,h2⟩:=mR f l (k+1) o h
     refine ⟨i+1,by simpa using hi,?_⟩
     rw [show k+(i+1)=k+1+i by omega]
     simpa using h2
inductive tM (s:aa):cA→Prop where
 | opened (a:Int):tM s ⟨17,a,0,0,0,0,0⟩
 | shut (a:Int) (h:tI s a=false):tM s ⟨16,a,0,0,0,0,0⟩
 | move (a:Int) (h:tI s a=false):tM s ⟨18,a,0,0,0,0,0⟩
 | shrink (j a:Int) (h:tI s a=false):tM s ⟨20,j,a,0,0,0,0⟩
 | Y2 (i:Nat) (hi:i<s.nodes.length) (h0:(s.nodes.getD i ai).aQ≠0) (h:ur s (s.nodes.getD i ai).aQ=0∨ur s (s.nodes.getD i ai).aQ=fZ s):tM s ⟨11,(s.nodes.getD i ai).aQ,0,0,0,0,0⟩
 | drain (i:Nat) (t:Int) (hi:i<s.nodes.length) (h0:(s.nodes.getD i ai).aQ≠0) (h:ur s (s.nodes.getD i ai).aQ=0∨ur s (s.nodes.getD i ai).aQ=fZ s):tM s ⟨12,(s.nodes.getD i ai).aQ,t,0,0,0,0⟩
theorem rz (s:aa) (i:Nat) (hi:i<s.nodes.length):tI s (i:Int)=mw s (s.nodes.getD i ai):=by
 unfold tI
 rw [if_neg (by omega)]
 simp
theorem HU (c:aC) (s:aa) (now:Int) (o:cA) (h:zM c s now=some o):tM s o:=by
 unfold zM at h
 split at h
 ·cases h
 cases h1:fL (Fp s) s.nodes 0 with
 | some p=>
   rw [h1] at h
   obtain ⟨i,hi,h2⟩:=mR _ _ _ _ h1
   cases h
   unfold Fp at h2
   split at h2
   ·cases h2; exact .opened _
   ·cases h2
 | none=>
   rw [h1] at h
   cases h3:fL (mh c s now) s.nodes 0 with
   | some p=>
     rw [h3] at h
     cases h
     obtain ⟨i,hi,h2⟩:=mR _ _ _ _ h3
     have ha:=rz s i hi
     rw [Nat.zero_add] at h2
     unfold mh at h2
     split at h2
     ·cases h2
     rename_i hn
     have hal:mw s (s.nodes.getD i ai)=false:=by
      cases hx:mw s (s.nodes.getD i ai) with
      | false=>rfl
      | true=>exact absurd (Or.inr (Or.inr hx)) hn
     rw [hal] at ha
     split at h2
     ·cases h2; exact .move _ ha
     rename_i h0
     have hp:ur s (s.nodes.getD i ai).aQ=0∨ur s (s.nodes.getD i ai).aQ=fZ s:=by
      unfold mw at hal
      rw [if_neg h0] at hal
      simp only [Bool.and_eq_false_iff,decide_eq_false_iff_not,Decidable.not_not] at hal
      exact hal
     dsimp only at h2
     split at h2
     ·cases h2; exact .Y2 i hi h0 hp
     split at h2
     ·cases h2; exact .shrink _ _ ha
     split at h2
     ·cases h2; exact .drain i _ hi h0 hp
     ·cases h2
   | none=>
     rw [h3] at h
     obtain ⟨i,hi,h2⟩:=mR _ _ _ _ h
     have ha:=rz s i hi
     rw [Nat.zero_add] at h2
     unfold y8 at h2
     split at h2
     ·rename_i hs
      cases h2
      refine .shut _ (ha.trans ?_)
      unfold ER at hs
      simp only [Bool.and_eq_true,Bool.not_eq_true'] at hs
      exact hs.1.2
     ·cases h2
end Dv
namespace Dv
def gZ {α:Type} (g:Nat→α→α) (l:List α) (k:Nat):List α:=l.mapIdx fun i x=>if i<k then g i x else x
section
variable {α:Type} (g:Nat→α→α) (l:List α)
@[simp] theorem ou (k:Nat):(gZ g l k).length=l.length:=by simp [gZ]
theorem yJ:gZ g l 0=l:=by
 apply List.ext_getElem
 ·simp
 ·intro i h1 h2; simp [gZ]
theorem yL:gZ g l l.length=l.mapIdx g:=by
 apply List.ext_getElem
 ·simp
 ·intro i h1 h2
  simp at h1
  simp [gZ,h1]
theorem EJ {k:Nat} (h:k<l.length):(gZ g l k)[k]? = some l[k]:=by
 simp [gZ,h]
theorem vD {k:Nat} {x:α} (h:k<l.length) (hx:g k l[k]=x):(gZ g l k).set k x=gZ g l (k+1):=by
 apply List.ext_getElem
 ·simp
 ·intro i h1 h2
  simp only [gZ,List.getElem_set,List.getElem_mapIdx]
  by_cases hi:k=i
  ·subst hi; simp [hx]
  ·rw [if_neg hi]
   by_cases h3:i<k
   ·rw [if_pos h3,if_pos (by omega)]
   ·rw [if_neg h3,if_neg (by omega)]
theorem yK {k:Nat} (h:k<l.length) (hx:g k l[k]=l[k]):gZ g l k=gZ g l (k+1):=by
 rw [← vD g l h hx]
 apply List.ext_getElem
 ·simp
 ·intro i h1 h2
  rw [List.getElem_set]
  split
  ·rename_i h; subst h; simp [gZ]
  ·rfl
end
def cZ (s:aa) (i:Int):bp:=s.nodes.getD i.toNat ai
def eA (s:aa) (a:Int):bP:=s.jobs.getD (a-1).toNat az
def me (n:bp):Bool:=n.up&&!n.cL&&!n.bC&&decide (n.aQ=0)
def j8 (s:aa) (i:Int) (n:bp):aa:={ s with nodes:=s.nodes.set i.toNat n }
def gm (s:aa) (a:Int) (j:bP):aa:={ s with jobs:=s.jobs.set (a-1).toNat j }
def lets (number:Int) (_:Nat) (n:bp):bp:=if n.aQ=number then { n with aQ:=0 } else n
def gH (bits number:Int) (i:Nat) (n:bp):bp:=if hasB bits i then { n with aQ:=number } else n
def eo (s:aa) (number phase:Int):aa:=
 { s with nodes:=s.nodes.mapIdx (lets number),jobs:=s.jobs.set (number-1).toNat { eA s number with phase:=phase,nodes:=0,since:=0,til:=0 } }
def nB (o:cA):bP:=⟨o.a,o.b,o.c,o.d,o.e,o.f,0,0,0,0,0,0⟩
def jV (c:aC) (s:aa) (o:cA):aa×Int:=if mj c (nB o)=false then (s,1) else if 24≤s.jobs.length then (s,3) else ({ s with jobs:=s.jobs++[nB o] },0)
def kX (s:aa) (o:cA):aa×Int:=if (eA s o.a).phase=4 then (s,5) else (eo s o.a 4,0)
def kQ (s:aa) (o:cA):aa×Int:=if bK o.a 1 9=false then (s,1) else ({ s with prior:=fZ s,goal:=o.a,mode:=0 },0)
def iy (s:aa) (ok:Bool) (to:Int):aa×Int:=if ok=true then ({ s with mode:=to },0) else (s,5)
def sK (s:aa) (o:cA):aa×Int:=if (cZ s o.a).up=false then (s,5) else
 let t:=if (cZ s o.a).aQ≠0 then eo s (cZ s o.a).aQ 0 else s
 (j8 t o.a { cZ t o.a with up:=false,bC:=false },0)
def Rr (s:aa) (o:cA):aa×Int:=if bK o.b 1 9=false then (s,1) else if (cZ s o.a).up=true then (s,5) else (j8 s o.a { cZ s o.a with up:=true,version:=o.b },0)
def pM (s:aa) (o:cA):aa×Int:=if (eA s o.a).phase≠0 then (s,5) else if mQ s.nodes (eA s o.a) o.b me=false∨1000000≤(eA s o.a).inc then (s,8) else
 ({ gm s o.a { eA s o.a with phase:=1,inc:=(eA s o.a).inc+1,nodes:=o.b } with nodes:=s.nodes.mapIdx (gH o.b o.a) },0)
def oz (s:aa) (o:cA):aa×Int:=if (eA s o.a).phase≠1 then (s,5) else (gm s o.a { eA s o.a with phase:=2,since:=o.b },0)
def kP (s:aa) (o:cA):aa×Int:=if (eA s o.a).phase≠1 then (s,5) else (eo s o.a 0,0)
def nG (c:aC) (s:aa) (o:cA):aa×Int:=if (eA s o.a).phase≠2 then (s,5) else if c.cB≤cQ s.jobs (eA s o.a).queue then (s,7) else (gm s o.a { eA s o.a with phase:=3,til:=o.b },0)
def ue (j:bP):Bool:=decide (j.phase=2)||decide (j.phase=3)
def ku (s:aa) (o:cA):aa×Int:=if ue (eA s o.a)=false then (s,5) else if o.b≠(eA s o.a).inc∨o.b≤(eA s o.a).epoch then (s,6) else (gm s o.a { eA s o.a with epoch:=o.b },0)
def oV (s:aa) (o:cA):aa×Int:=if (eA s o.a).phase≠3 then (s,5) else (eo s o.a 0,0)
def u7 (s:aa) (o:cA):aa×Int:=if ue (eA s o.a)=false then (s,5) else (eo s o.a 4,0)
def mT (s:aa) (o:cA):aa×Int:=if (cZ s o.a).up=false∨(cZ s o.a).cL=true then (s,5) else (j8 s o.a { cZ s o.a with cL:=true },0)
def iR (s:aa) (o:cA):aa×Int:=if (cZ s o.a).cL=false∨(cZ s o.a).bC=true then (s,5) else (j8 s o.a { cZ s o.a with cL:=false },0)
def xl (s:aa) (o:cA):aa×Int:=if (cZ s o.a).up=false∨(cZ s o.a).cL=false∨(cZ s o.a).bC=true∨(cZ s o.a).aQ≠0 then (s,5) else (j8 s o.a { cZ s o.a with bC:=true },0)
def nC (s:aa) (o:cA):aa×Int:=if bK o.b 1 9=false then (s,1) else if (cZ s o.a).bC=false then (s,5) else (j8 s o.a { cZ s o.a with version:=o.b,bC:=false,cL:=false },0)
def mN (n b:Int):Int:=if hasB n b.toNat then n-2 ^ b.toNat else n
def gP (s:aa) (o:cA):aa×Int:=if (s.nodes.length:Int)≤o.b then (s,4) else if (eA s o.a).phase≠2 then (s,5) else if (cZ s o.b).aQ≠o.a∨many (eA s o.a).nodes≤(eA s o.a).min then (s,8) else
 (j8 (gm s o.a { eA s o.a with nodes:=mN (eA s o.a).nodes o.b }) o.b { cZ s o.b with aQ:=0 },0)
def eu (s:aa):aa×Int:=if 1000000≤s.term then (s,3) else ({ s with term:=s.term+1 },0)
def ec (k:Int):Nat:=if k=1 then 6 else if k=4∨k=5∨k=6∨k=21 then 0 else if k=8∨k=9∨k=10∨k=12∨k=13∨k=19∨k=20 then 2 else 1
def pK (n:Int) (given:Bool):Bool:=decide (0≤n∧n≤1000000)&&(given||decide (n=0))
def eY (o:cA):Bool:=decide (1≤o.kind∧o.kind≤21)&&pK o.a (decide (0<ec o.kind))&&pK o.b (decide (1<ec o.kind))&&pK o.c (decide (2<ec o.kind))&&pK o.d (decide (3<ec o.kind))&&pK o.e (decide (4<ec o.kind))&&pK o.f (decide (5<ec o.kind))
def Ib (k:Int):Bool:=decide (k=2∨k=9∨k=10∨k=11∨k=12∨k=13∨k=14∨k=15∨k=20)
def zL (k:Int):Bool:=decide (k=7∨k=8∨k=16∨k=17∨k=18∨k=19)
def bS (c:aC) (s:aa) (o:cA):aa×Int:=
 if o.kind=1 then jV c s o else if o.kind=2 then kX s o else if o.kind=3 then kQ s o
 else if o.kind=4 then iy s (s.mode==0) 1 else if o.kind=5 then iy s (s.mode==1) 0 else if o.kind=6 then iy s (s.mode !=2) 2
 else if o.kind=7 then sK s o else if o.kind=8 then Rr s o else if o.kind=9 then pM s o else if o.kind=10 then oz s o
 else if o.kind=11 then kP s o else if o.kind=12 then nG c s o else if o.kind=13 then ku s o else if o.kind=14 then oV s o
 else if o.kind=15 then u7 s o else if o.kind=16 then mT s o else if o.kind=17 then iR s o else if o.kind=18 then xl s o
 else if o.kind=19 then nC s o else if o.kind=20 then gP s o else eu s
def nJ:aa:=⟨[],[],0,0,0,0⟩
def AV (c:aC) (s:aa) (o:cA):aa×Int:=
 if eY o=false then (s,1)
 else if Ib o.kind=true∧(o.a<1∨(s.jobs.length:Int)<o.a) then (s,4)
 else if zL o.kind=true∧(s.nodes.length:Int)≤o.a then (s,4)
 else bS c s o
def bE (c:aC) (s:aa) (o:cA):aa×Int:=if iL c s=false then (nJ,1) else AV c s o
end Dv
namespace Dv
def dR (s:aa) (i:Nat):bp:=s.nodes.getD i ai
def dK (s:aa) (k:Nat):bP:=s.jobs.getD k az
structure wM (c:aC) (j:bP):Prop where
 asked:mj c j=true
 phase:0≤j.phase∧j.phase≤4
 inc:0≤j.inc∧j.inc≤1000000
 since:0≤j.since∧j.since≤1000000
 til:0≤j.til∧j.til≤1000000
 epoch:0≤j.epoch∧j.epoch≤j.inc
structure tJ (ns:List bp) (j:bP):Prop where
 lo:0≤j.nodes
 hi:j.nodes<2 ^ ns.length
 many:j.min≤many j.nodes∧many j.nodes≤j.max
 ND:∃ u,(j.pin=0∨u=j.pin)∧∀ i,i<ns.length→hasB j.nodes i=true→(ns.getD i ai).version=u
structure bR (c:aC) (s:aa):Prop where
 vf:gJ c=true
 nodes:(s.nodes.length:Int)=c.nodes
 jobs:s.jobs.length≤24
 goal:1≤s.goal∧s.goal≤9
 prior:1≤s.prior∧s.prior≤9
 mode:0≤s.mode∧s.mode≤2
 term:0≤s.term∧s.term≤1000000
 num:∀ k,k<s.jobs.length→wM c (dK s k)
 nq:∀ k,k<s.jobs.length→eM (dK s k).phase=true→tJ s.nodes (dK s k)
 idle:∀ k,k<s.jobs.length→eM (dK s k).phase=false→(dK s k).nodes=0
 ND:∀ i,i<s.nodes.length→1≤(dR s i).version∧(dR s i).version≤9
 aQ:∀ i,i<s.nodes.length→0≤(dR s i).aQ∧(dR s i).aQ≤s.jobs.length
 bC:∀ i,i<s.nodes.length→(dR s i).bC=true→(dR s i).up=true∧(dR s i).cL=true∧(dR s i).aQ=0
 up:∀ i,i<s.nodes.length→(dR s i).aQ≠0→(dR s i).up=true
 link:∀ i k,i<s.nodes.length→k<s.jobs.length→(hasB (dK s k).nodes i=true↔(dR s i).aQ=k+1)
 cB:∀ q:Nat,(q:Int)<c.bH→cQ s.jobs q≤c.cB
theorem oM {c:aC} (h:gJ c=true):1≤c.nodes∧c.nodes≤6:=by
 unfold gJ at h
 simp only [Bool.and_eq_true] at h
 exact bh h.1.1.1.1.1.1.1.1
theorem bR.len {c:aC} {s:aa} (h:bR c s):1≤s.nodes.length∧s.nodes.length≤6:=by
 have:=oM h.vf
 have:=h.nodes
 omega
theorem qR (i:Nat):hasB 0 i=false:=by simp [hasB]
theorem uX (m:Int) (takes:bp→Bool):∀ (l:List bp) (i:Nat) (v:Int),(∀ k,k<l.length→1≤(l.getD k ai).version)→
  (ew m takes l i v=true↔∃ u,(v=0∨u=v)∧∀ k,k<l.length→hasB m (i+k)=true→takes (l.getD k ai)=true∧(l.getD k ai).version=u)
 | [],i,v,_=>by
   simp only [ew,List.length_nil,true_iff]
   exact ⟨v,.inr rfl,fun k hk=>by omega⟩
 | n::l,i,v,hv=>by
   have h0:1≤n.version:=by simpa using hv 0 (by simp)
   have ih:=fun v=>uX m takes l (i+1) v (fun k hk=>by simpa using hv (k+1) (by simpa using hk))
   have shift:∀ u,(∀ k,k<(n::l).length→hasB m (i+k)=true→takes ((n::l).getD k ai)=true∧((n::l).getD k ai).version=u)↔
     (hasB m i=true→takes n=true∧n.version=u)∧∀ k,k<l.length→hasB m (i+1+k)=true→takes (l.getD k ai)=true∧(l.getD k ai).version=u:=by
    intro u
    refine ⟨fun h=>⟨fun h1=>by simpa using h 0 (by simp) h1,fun k hk h1=>?_⟩,fun h k hk h1=>?_⟩
    ·have:=h (k+1) (by simpa using hk) (by rw [← h1]; congr 1; omega)
     simpa using this
    ·cases k with
     | zero=>simpa using h.1 h1
     | succ k=>
       have:=h.2 k (by simpa using hk) (by rw [← h1]; congr 1; omega)
       simpa using this
   unfold ew
   by_cases hb:hasB m i=false
   ·rw [if_pos hb,ih v]
    refine exists_congr fun u=>and_congr_right fun _=>?_
    rw [shift u]
    simp [hb]
   ·rw [if_neg hb]
    have hb':hasB m i=true:=by simpa using hb
    by_cases ht:takes n=true
    ·by_cases hq:n.version=(if v=0 then n.version else v)
     ·rw [if_pos ⟨ht,hq⟩,ih,← hq]
      constructor
      ·rintro ⟨u,h1,h2⟩
       have hu:u=n.version:=by omega
       refine ⟨u,?_,(shift u).2 ⟨fun _=>⟨ht,hu.symm⟩,h2⟩⟩
       by_cases h3:v=0
       ·exact .inl h3
       ·rw [if_neg h3] at hq; exact .inr (by omega)
      ·rintro ⟨u,h1,h2⟩
       obtain ⟨h3,h4⟩:=(shift u).1 h2
       exact ⟨u,.inr (h3 hb').2.symm,h4⟩
     ·rw [if_neg (fun h=>hq h.2)]
      refine ⟨fun h=>(by cases h),?_⟩
      rintro ⟨u,h1,h2⟩
      have h3:=((shift u).1 h2).1 hb'
      refine absurd ?_ hq
      by_cases h4:v=0
      ·rw [if_pos h4]
      ·rw [if_neg h4]; omega
    ·rw [if_neg (fun h=>ht h.1)]
     refine ⟨fun h=>(by cases h),?_⟩
     rintro ⟨u,h1,h2⟩
     exact absurd (((shift u).1 h2).1 hb').1 ht
theorem CI (ns:List bp) (j:bP) (m:Int) (takes:bp→Bool) (hv:∀ k,k<ns.length→1≤(ns.getD k ai).version) :
  mQ ns j m takes=true↔(0≤m∧m<2 ^ ns.length)∧(j.min≤many m∧many m≤j.max)∧∃ u,(j.pin=0∨u=j.pin)∧∀ k,k<ns.length→hasB m k=true→takes (ns.getD k ai)=true∧(ns.getD k ai).version=u:=by
 unfold mQ
 by_cases h1:m<0∨2 ^ ns.length≤m
 ·rw [if_pos h1]
  refine ⟨fun h=>(by cases h),fun h=>?_⟩
  omega
 ·rw [if_neg h1]
  by_cases h2:bK (many m) j.min j.max=true
  ·rw [if_pos h2,uX m takes ns 0 j.pin hv]
   have h3:=bh h2
   simp only [Nat.zero_add]
   exact ⟨fun h=>⟨by omega,h3,h⟩,fun h=>h.2.2⟩
  ·rw [if_neg h2]
   refine ⟨fun h=>(by cases h),fun h=>absurd ?_ h2⟩
   exact decide_eq_true h.2.1
theorem wQ (c:aC) (s:aa) (j:bP) (number:Int) (hv:∀ k,k<s.nodes.length→1≤(s.nodes.getD k ai).version) :
  gO c s j number=true↔wM c j∧(eM j.phase=true→tJ s.nodes j∧∀ i,i<s.nodes.length→hasB j.nodes i=true→kr number (dR s i)=true)∧(eM j.phase=false→j.nodes=0):=by
 unfold gO
 simp only [Bool.and_eq_true]
 have key:(if eM j.phase=true then mQ s.nodes j j.nodes (kr number) else decide (j.nodes=0))=true↔(eM j.phase=true→tJ s.nodes j∧∀ i,i<s.nodes.length→hasB j.nodes i=true→kr number (dR s i)=true)∧(eM j.phase=false→j.nodes=0):=by
  cases hp:eM j.phase with
  | true=>
    rw [if_pos rfl,CI _ _ _ _ hv]
    constructor
    ·rintro ⟨⟨a,b⟩,e,u,f,g⟩
     exact ⟨fun _=>⟨⟨a,b,e,u,f,fun i hi h=>(g i hi h).2⟩,fun i hi h=>(g i hi h).1⟩,fun h=>by cases h⟩
    ·rintro ⟨h,_⟩
     obtain ⟨⟨a,b,e,u,f,g⟩,h⟩:=h rfl
     exact ⟨⟨a,b⟩,e,u,f,fun i hi hb=>⟨h i hi hb,g i hi hb⟩⟩
  | false=>simp
 rw [key]
 constructor
 ·rintro ⟨⟨⟨⟨⟨⟨a,b⟩,d⟩,e⟩,f⟩,g⟩,h⟩
  exact ⟨⟨a,bh b,bh d,bh e,bh f,bh g⟩,h⟩
 ·rintro ⟨⟨a,b,d,e,f,g⟩,h⟩
  exact ⟨⟨⟨⟨⟨⟨a,decide_eq_true b⟩,decide_eq_true d⟩,decide_eq_true e⟩,decide_eq_true f⟩,decide_eq_true g⟩,h⟩
theorem lN (c:aC) (s:aa):∀ (l:List bP) (k:Nat),fh c s l k=true↔∀ i,i<l.length→gO c s (l.getD i az) ((k+i:Nat)+1)=true
 | [],k=>by simp [fh]
 | j::l,k=>by
   unfold fh
   rw [Bool.and_eq_true,lN c s l (k+1)]
   constructor
   ·rintro ⟨h1,h2⟩ i hi
    cases i with
    | zero=>simpa using h1
    | succ i=>
      have:=h2 i (by simpa using hi)
      rw [show k+(i+1)=k+1+i by omega]
      simpa using this
   ·intro h
    refine ⟨by simpa using h 0 (by simp),fun i hi=>?_⟩
    have:=h (i+1) (by simpa using hi)
    rw [show k+1+i=k+(i+1) by omega]
    simpa using this
theorem m_ (s:aa):∀ (l:List bp) (k:Nat),fG s l k=true↔∀ i,i<l.length→ng s (l.getD i ai) (k+i)=true
 | [],k=>by simp [fG]
 | j::l,k=>by
   unfold fG
   rw [Bool.and_eq_true,m_ s l (k+1)]
   constructor
   ·rintro ⟨h1,h2⟩ i hi
    cases i with
    | zero=>simpa using h1
    | succ i=>
      have:=h2 i (by simpa using hi)
      rw [show k+(i+1)=k+1+i by omega]
      simpa using this
   ·intro h
    refine ⟨by simpa using h 0 (by simp),fun i hi=>?_⟩
    have:=h (i+1) (by simpa using hi)
    rw [show k+1+i=k+(i+1) by omega]
    simpa using this
theorem nk (c:aC) (s:aa):∀ (n q:Nat),e_ c s q n=true↔∀ i,i<n→cQ s.jobs ((q+i:Nat):Int)≤c.cB
 | 0,q=>by simp [e_]
 | n+1,q=>by
   unfold e_
   rw [Bool.and_eq_true,nk c s n (q+1),Bool.not_eq_true',decide_eq_false_iff_not]
   constructor
   ·rintro ⟨h1,h2⟩ i hi
    cases i with
    | zero=>simpa using h1
    | succ i=>
      have:=h2 i (by omega)
      rw [show q+(i+1)=q+1+i by omega]
      exact this
   ·intro h
    refine ⟨by have:=h 0 (by omega); simpa using this,fun i hi=>?_⟩
    have:=h (i+1) (by omega)
    rw [show q+1+i=q+(i+1) by omega]
    exact this
theorem y7 (s:aa) (n:bp) (i:Nat):ng s n i=true↔(1≤n.version∧n.version≤9)∧(0≤n.aQ∧n.aQ≤s.jobs.length)∧(n.bC=true→n.up=true∧n.cL=true∧n.aQ=0)∧(n.aQ≠0→hasB (s.jobs.getD (n.aQ-1).toNat az).nodes i=true):=by
 unfold ng bK
 cases n.bC <;> cases n.up <;> cases n.cL <;> by_cases h0:n.aQ=0 <;> simp [h0,and_assoc]
theorem ez (c:aC) (s:aa):iL c s=true↔bR c s:=by
 unfold iL
 simp only [Bool.and_eq_true]
 constructor
 ·rintro ⟨⟨⟨⟨⟨⟨⟨⟨⟨h1,h2⟩,h3⟩,h4⟩,h5⟩,h6⟩,h7⟩,h8⟩,h9⟩,h10⟩
  rw [lN] at h8
  rw [m_] at h9
  rw [nk] at h10
  have h3:=of_decide_eq_true h3
  have hs:∀ i,i<s.nodes.length→_:=fun i hi=>(y7 s (s.nodes.getD i ai) i).1 (by simpa using h9 i hi)
  have hv:∀ k,k<s.nodes.length→1≤(s.nodes.getD k ai).version:=fun k hk=>(hs k hk).1.1
  have hst:∀ i,i<s.jobs.length→_:=fun i hi=>(wQ c s (s.jobs.getD i az) (i+1) hv).1 (by simpa using h8 i hi)
  have tP:∀ i k,i<s.nodes.length→k<s.jobs.length→hasB (dK s k).nodes i=true→kr (k+1) (dR s i)=true:=fun i k hi hk hb=>by
   cases hp:eM (s.jobs.getD k az).phase with
   | true=>exact ((hst k hk).2.1 hp).2 i hi hb
   | false=>
     have:=(hst k hk).2.2 hp
     unfold dK at hb
     rw [this,qR] at hb; cases hb
  have hl2:∀ i k,i<s.nodes.length→k<s.jobs.length→(dR s i).aQ=k+1→hasB (dK s k).nodes i=true:=fun i k hi hk hj=>by
   have:=(hs i hi).2.2.2 (by unfold dR at hj; omega)
   unfold dR at hj
   rw [hj] at this
   simpa [dK] using this
  refine ⟨h1,of_decide_eq_true h2,h3,bh h4,bh h5,bh h6,bh h7,fun k hk=>(hst k hk).1,fun k hk hp=>((hst k hk).2.1 hp).1,fun k hk hp=>(hst k hk).2.2 hp,fun i hi=>(hs i hi).1,fun i hi=>(hs i hi).2.1,fun i hi=>(hs i hi).2.2.1,fun i hi h0=>?_,fun i k hi hk=>⟨fun hb=>?_,hl2 i k hi hk⟩,fun q hq=>?_⟩
  ·have h:=(hs i hi).2.1
   have:=tP i ((dR s i).aQ-1).toNat hi (by unfold dR at *; omega) (hl2 i _ hi (by unfold dR at *; omega) (by unfold dR at *; omega))
   simp only [kr,Bool.and_eq_true] at this
   exact this.1.1
  ·have:=tP i k hi hk hb
   simp only [kr,Bool.and_eq_true,decide_eq_true_eq] at this
   exact this.2
  ·have:=h10 q (by omega)
   simpa using this
 ·intro h
  have hv:∀ k,k<s.nodes.length→1≤(s.nodes.getD k ai).version:=fun k hk=>(h.ND k hk).1
  refine ⟨⟨⟨⟨⟨⟨⟨⟨⟨h.vf,decide_eq_true h.nodes⟩,decide_eq_true h.jobs⟩,decide_eq_true h.goal⟩,decide_eq_true h.prior⟩,decide_eq_true h.mode⟩,decide_eq_true h.term⟩,?_⟩,?_⟩,?_⟩
  ·rw [lN]
   intro k hk
   rw [Nat.zero_add,wQ _ _ _ _ hv]
   refine ⟨h.num k hk,fun hp=>⟨h.nq k hk hp,fun i hi hb=>?_⟩,h.idle k hk⟩
   have hj:=(h.link i k hi hk).1 hb
   have hm:(dR s i).bC=false:=by
    cases hm:(dR s i).bC with
    | false=>rfl
    | true=>have:=(h.bC i hi hm).2.2; omega
   simp only [kr,Bool.and_eq_true,decide_eq_true_eq,hm,h.up i hi (by omega),hj,Bool.not_false,and_self]
  ·rw [m_]
   intro i hi
   rw [Nat.zero_add,y7]
   refine ⟨h.ND i hi,h.aQ i hi,h.bC i hi,fun h0=>?_⟩
   have hj:=h.aQ i hi
   have:=(h.link i ((dR s i).aQ-1).toNat hi (by unfold dR at *; omega)).2 (by unfold dR at *; omega)
   exact this
  ·rw [nk]
   intro i hi
   have:=h.cB i (by omega)
   simpa using this
end Dv
namespace Dv
end Dv
namespace Dv
theorem An {α:Type} (l:List α) (k i:Nat) (x z:α) (h:k<l.length):(l.set k x).getD i z=if i=k then x else l.getD i z:=by
 by_cases hi:i=k
 ·subst hi; simp [List.getD,h]
 ·rw [if_neg hi]; simp [List.getD,List.getElem?_set_ne (fun e=>hi e.symm)]
theorem mO {α:Type} (l:List α) (g:Nat→α→α) (i:Nat) (z:α) (h:i<l.length):(l.mapIdx g).getD i z=g i (l.getD i z):=by
 simp [List.getD,h]
def DR (q:Int) (j:bP):Bool:=decide (j.queue=q)&&decide (j.phase=3)
theorem u6 (j:bP) (l:List bP) (q:Int):cQ (j::l) q=(if DR q j then 1 else 0)+cQ l q:=by
 unfold cQ
 have:(fun j:bP=>decide (j.queue=q)&&decide (j.phase=3))=DR q:=rfl
 rw [this]
 cases h:DR q j
 ·simp [List.filter_cons,h]
 ·simp [List.filter_cons,h]; omega
theorem xE (q:Int) (j':bP):∀ (l:List bP) (k:Nat),k<l.length→cQ (l.set k j') q+(if DR q (l.getD k az) then 1 else 0)=cQ l q+(if DR q j' then 1 else 0)
 | [],k,h=>by simp at h
 | j::l,0,_=>by
   simp only [List.set_cons_zero,u6,List.getD_cons_zero]
   omega
 | j::l,k+1,h=>by
   have:=xE q j' l k (by simpa using h)
   simp only [List.set_cons_succ,u6,List.getD_cons_succ]
   omega
theorem AB (q:Int) (j:bP) (l:List bP):cQ (l++[j]) q=cQ l q+(if DR q j then 1 else 0):=by
 rw [u5]
 unfold DR
 by_cases h1:j.queue=q <;> by_cases h2:j.phase=3 <;> simp [h1,h2]
structure mZ (c:aC) (s:aa) (k0:Nat) (j':bP) (ns':List bp):Prop where
 hk:k0<s.jobs.length
 num:wM c j'
 fixed:j'.queue=(dK s k0).queue∧j'.prio=(dK s k0).prio∧j'.min=(dK s k0).min∧j'.max=(dK s k0).max∧j'.work=(dK s k0).work∧j'.pin=(dK s k0).pin
 grow:(dK s k0).inc≤j'.inc∧(dK s k0).epoch≤j'.epoch
 ended:(dK s k0).phase≠4
 len:ns'.length=s.nodes.length
 same:∀ i,i<s.nodes.length→(ns'.getD i ai).up=(dR s i).up∧(ns'.getD i ai).cL=(dR s i).cL∧(ns'.getD i ai).bC=(dR s i).bC∧(ns'.getD i ai).version=(dR s i).version
 nq:eM j'.phase=true→tJ s.nodes j'
 idle:eM j'.phase=false→j'.nodes=0
 link:∀ i,i<s.nodes.length→(hasB j'.nodes i=true↔(ns'.getD i ai).aQ=k0+1)
 others:∀ i k,i<s.nodes.length→k<s.jobs.length→k≠k0→((ns'.getD i ai).aQ=k+1↔(dR s i).aQ=k+1)
 range:∀ i,i<s.nodes.length→0≤(ns'.getD i ai).aQ∧(ns'.getD i ai).aQ≤s.jobs.length
 use:∀ i,i<s.nodes.length→(ns'.getD i ai).aQ≠0→(dR s i).up=true∧(dR s i).bC=false
 cB:j'.phase=3→(dK s k0).phase=3∨cQ s.jobs (dK s k0).queue<c.cB
structure vp (s:aa) (i0:Nat) (n':bp):Prop where
 hi:i0<s.nodes.length
 ND:1≤n'.version∧n'.version≤9
 aQ:n'.aQ=(dR s i0).aQ
 keep:(dR s i0).aQ≠0→n'.version=(dR s i0).version
 bC:n'.bC=true→n'.up=true∧n'.cL=true∧n'.aQ=0
 up:n'.aQ≠0→n'.up=true
structure KY (s:aa) (g p m t:Int):Prop where
 goal:1≤g∧g≤9
 prior:1≤p∧p≤9
 mode:0≤m∧m≤2
 term:s.term≤t∧t≤1000000
structure GS (c:aC) (s:aa) (j:bP):Prop where
 len:s.jobs.length<24
 num:wM c j
 phase:j.phase=0
 nodes:j.nodes=0
inductive Step (c:aC) (s:aa):aa→Prop where
 | num {g p m t:Int} (h:KY s g p m t):Step c s { s with goal:=g,prior:=p,mode:=m,term:=t }
 | aQ {k0:Nat} {j':bP} {ns':List bp} (h:mZ c s k0 j' ns'):Step c s { s with nodes:=ns',jobs:=s.jobs.set k0 j' }
 | node {i0:Nat} {n':bp} (h:vp s i0 n'):Step c s { s with nodes:=s.nodes.set i0 n' }
 | both {k0:Nat} {j':bP} {ns':List bp} {i0:Nat} {n':bp} (h:mZ c s k0 j' ns') (h2:vp { s with nodes:=ns',jobs:=s.jobs.set k0 j' } i0 n'):Step c s { s with nodes:=ns'.set i0 n',jobs:=s.jobs.set k0 j' }
 | more {j:bP} (h:GS c s j):Step c s { s with jobs:=s.jobs++[j] }
section
variable {c:aC} {s:aa}
theorem tJ.of {ns ns':List bp} {j:bP} (h:tJ ns j) (hl:ns'.length=ns.length) (hv:∀ i,i<ns.length→hasB j.nodes i=true→(ns'.getD i ai).version=(ns.getD i ai).version):tJ ns' j:=by
 obtain ⟨a,b,d,u,e,f⟩:=h
 refine ⟨a,by rw [hl]; exact b,d,u,e,fun i hi hb=>?_⟩
 rw [hl] at hi
 rw [hv i hi hb]; exact f i hi hb
theorem bR.zW (h:bR c s) {k0:Nat} {j':bP} {ns':List bp} (q:mZ c s k0 j' ns'):bR c { s with nodes:=ns',jobs:=s.jobs.set k0 j' }:=by
 have hlj:(s.jobs.set k0 j').length=s.jobs.length:=by simp
 have hjo:∀ k,dK { s with nodes:=ns',jobs:=s.jobs.set k0 j' } k=if k=k0 then j' else dK s k:=fun k=>An _ _ _ _ _ q.hk
 have hno:∀ i,dR { s with nodes:=ns',jobs:=s.jobs.set k0 j' } i=ns'.getD i ai:=fun i=>rfl
 refine ⟨h.vf,by rw [← h.nodes]; exact congrArg _ q.len,by dsimp only; rw [hlj]; exact h.jobs,h.goal,h.prior,h.mode,h.term,fun k hk=>?_,fun k hk hp=>?_,fun k hk hp=>?_,fun i hi=>?_,fun i hi=>?_,fun i hi hm=>?_,fun i hi h0=>?_,fun i k hi hk=>?_,fun p hp=>?_⟩
 ·dsimp only at hk; rw [hlj] at hk; rw [hjo]; split
  ·exact q.num
  ·exact h.num k hk
 ·dsimp only at hk; rw [hlj] at hk; rw [hjo] at hp ⊢; dsimp only
  split
  ·rename_i e; rw [if_pos e] at hp
   exact (q.nq hp).of q.len fun i hi _=>(q.same i hi).2.2.2
  ·rename_i e; rw [if_neg e] at hp
   exact (h.nq k hk hp).of q.len fun i hi _=>(q.same i hi).2.2.2
 ·dsimp only at hk; rw [hlj] at hk; rw [hjo] at hp ⊢
  split
  ·rename_i e; rw [if_pos e] at hp; exact q.idle hp
  ·rename_i e; rw [if_neg e] at hp; exact h.idle k hk hp
 ·dsimp only at hi; rw [q.len] at hi; rw [hno,(q.same i hi).2.2.2]; exact h.ND i hi
 ·dsimp only at hi ⊢; rw [q.len] at hi; rw [hno,hlj]; exact q.range i hi
 ·dsimp only at hi; rw [q.len] at hi; rw [hno] at hm ⊢
  obtain ⟨a,b,d,_⟩:=q.same i hi
  rw [d] at hm
  have:=h.bC i hi hm
  rw [a,b]
  refine ⟨this.1,this.2.1,?_⟩
  by_cases h0:(ns'.getD i ai).aQ=0
  ·exact h0
  ·have:=(q.use i hi h0).2; rw [hm] at this; cases this
 ·dsimp only at hi; rw [q.len] at hi; rw [hno] at h0 ⊢
  rw [(q.same i hi).1]; exact (q.use i hi h0).1
 ·dsimp only at hi hk; rw [q.len] at hi; rw [hlj] at hk; rw [hno,hjo]
  split
  ·rename_i e; subst e; exact q.link i hi
  ·rename_i e; rw [q.others i k hi hk e]; exact h.link i k hi hk
 ·have h1:=xE p j' s.jobs k0 q.hk
  have h2:=h.cB p hp
  have h3:=q.fixed.1
  have h4:=q.cB
  dsimp only
  unfold dK at h3 h4
  generalize s.jobs.getD k0 az=j at *
  unfold DR at h1
  by_cases e1:j'.queue=p
  ·have e2:j.queue=p:=by omega
   by_cases e3:j'.phase=3
   ·rcases h4 e3 with e4 | e4
    ·simp only [e1,e2,e3,e4,decide_true,Bool.and_true,if_true] at h1; omega
    ·by_cases e5:j.phase=3
     ·simp only [e1,e2,e3,e5,decide_true,Bool.and_true,if_true] at h1; omega
     ·simp only [e1,e2,e3,e5,decide_true,decide_false,Bool.and_true,Bool.and_false,if_true] at h1
      rw [e2] at e4
      simp at h1
      omega
   ·simp [e1,e2,e3] at h1
    split at h1 <;> omega
  ·have e2:j.queue≠p:=by omega
   simp [e1,e2] at h1
   omega
theorem bR.Ce (h:bR c s) {i0:Nat} {n':bp} (q:vp s i0 n'):bR c { s with nodes:=s.nodes.set i0 n' }:=by
 have sE:(s.nodes.set i0 n').length=s.nodes.length:=by simp
 have hno:∀ k,dR { s with nodes:=s.nodes.set i0 n' } k=if k=i0 then n' else dR s k:=fun k=>An _ _ _ _ _ q.hi
 have hjo:∀ i,dK { s with nodes:=s.nodes.set i0 n' } i=dK s i:=fun i=>rfl
 refine ⟨h.vf,by dsimp only; rw [sE]; exact h.nodes,h.jobs,h.goal,h.prior,h.mode,h.term,h.num,fun k hk hp=>?_,h.idle,fun i hi=>?_,fun i hi=>?_,fun i hi hm=>?_,fun i hi h0=>?_,fun i k hi hk=>?_,h.cB⟩
 ·refine (h.nq k hk hp).of sE fun i hi hb=>?_
  have:=hno i
  unfold dR at this
  dsimp only at this ⊢
  rw [this]
  split
  ·rename_i e; subst e
   have hj:=(h.link i k hi hk).1 hb
   exact q.keep (by omega)
  ·rfl
 ·dsimp only at hi; rw [sE] at hi; rw [hno]; split
  ·exact q.ND
  ·exact h.ND i hi
 ·dsimp only at hi; rw [sE] at hi; rw [hno]; split
  ·rename_i e; subst e; rw [q.aQ]; exact h.aQ i hi
  ·exact h.aQ i hi
 ·dsimp only at hi; rw [sE] at hi; rw [hno] at hm ⊢
  by_cases e:i=i0
  ·rw [if_pos e] at hm ⊢; exact q.bC hm
  ·rw [if_neg e] at hm ⊢; exact h.bC i hi hm
 ·dsimp only at hi; rw [sE] at hi; rw [hno] at h0 ⊢
  by_cases e:i=i0
  ·rw [if_pos e] at h0 ⊢; exact q.up h0
  ·rw [if_neg e] at h0 ⊢; exact h.up i hi h0
 ·dsimp only at hi hk; rw [sE] at hi; rw [hno,hjo]
  split
  ·rename_i e; subst e; rw [q.aQ]; exact h.link i k hi hk
  ·exact h.link i k hi hk
theorem bR.OQ (h:bR c s) {g p m t:Int} (q:KY s g p m t):bR c { s with goal:=g,prior:=p,mode:=m,term:=t }:=
 ⟨h.vf,h.nodes,h.jobs,q.goal,q.prior,q.mode,⟨by have:=h.term; have:=q.term; dsimp only; omega,q.term.2⟩,h.num,h.nq,h.idle,h.ND,h.aQ,h.bC,h.up,h.link,h.cB⟩
theorem Mz (l:List bP) (j:bP) (k:Nat):(l++[j]).getD k az=if k<l.length then l.getD k az else if k=l.length then j else az:=by
 by_cases h:k<l.length
 ·rw [if_pos h]; simp [List.getD,List.getElem?_append_left h]
 ·rw [if_neg h]
  by_cases e:k=l.length
  ·rw [if_pos e]; subst e; simp
  ·rw [if_neg e]; simp [List.getD,List.getElem?_append_right (show l.length≤k by omega)]
   rw [List.getElem?_eq_none (by simp; omega)]; rfl
theorem bR.LS (h:bR c s) {j:bP} (q:GS c s j):bR c { s with jobs:=s.jobs++[j] }:=by
 have hjo:∀ k,k<(s.jobs++[j]).length→dK { s with jobs:=s.jobs++[j] } k=if k<s.jobs.length then dK s k else j:=fun k hk=>by
  unfold dK
  dsimp only
  rw [Mz]
  simp at hk
  by_cases e:k<s.jobs.length
  ·rw [if_pos e,if_pos e]
  ·rw [if_neg e,if_neg e,if_pos (by omega)]
 have hlen:(s.jobs++[j]).length=s.jobs.length+1:=by simp
 refine ⟨h.vf,h.nodes,by dsimp only; rw [hlen]; have:=q.len; omega,h.goal,h.prior,h.mode,h.term,fun k hk=>?_,fun k hk hp=>?_,fun k hk hp=>?_,h.ND,fun i hi=>?_,h.bC,h.up,fun i k hi hk=>?_,fun p hp=>?_⟩
 ·rw [hjo k hk]; split
  ·rename_i e; exact h.num k e
  ·exact q.num
 ·rw [hjo k hk] at hp ⊢
  by_cases e:k<s.jobs.length
  ·rw [if_pos e] at hp ⊢; exact h.nq k e hp
  ·rw [if_neg e,q.phase] at hp; cases hp
 ·rw [hjo k hk] at hp ⊢
  by_cases e:k<s.jobs.length
  ·rw [if_pos e] at hp ⊢; exact h.idle k e hp
  ·rw [if_neg e]; exact q.nodes
 ·have:=h.aQ i hi
  have e:dR { s with jobs:=s.jobs++[j] } i=dR s i:=rfl
  dsimp only
  rw [hlen,e]
  omega
 ·rw [hjo k hk]
  have e:dR { s with jobs:=s.jobs++[j] } i=dR s i:=rfl
  rw [e]
  by_cases e:k<s.jobs.length
  ·rw [if_pos e]; exact h.link i k hi e
  ·rw [if_neg e,q.nodes,qR]
   have:=h.aQ i hi
   simp only [Bool.false_eq_true,false_iff]
   omega
 ·have:=AB p j s.jobs
  have h2:=h.cB p hp
  dsimp only
  rw [this]
  unfold DR
  rw [q.phase]
  simp
  exact h2
theorem Step.right (h:bR c s) {t:aa} (q:Step c s t):bR c t:=by
 cases q with
 | num q=>exact h.OQ q
 | aQ q=>exact h.zW q
 | node q=>exact h.Ce q
 | both q q2=>exact (h.zW q).Ce q2
 | more q=>exact h.LS q
end
end Dv
namespace Dv
def gv (r:List dA) (i:Int):dA:=if i<0∨(r.length:Int)≤i then iX else if (r.getD i.toNat iX).kind=6 then r.getD i.toNat iX else iX
def Kr (m:dA):Bool:=m.kind==6&&m.mode==0
def kG (s:aa) (r:List dA) (node mode aQ:Int):Bool:=
 (gv r node).kind==6&&decide (1≤aQ)&&decide (aQ≤s.jobs.length)&&(gv r node).mode==mode&&(gv r node).aQ==aQ&&(gv r node).inc==(s.jobs.getD (aQ-1).toNat az).inc
def oW (m:Int) (tk:Nat→Bool):Bool:=(List.range 6).all fun i=>!hasB m i||tk i
def CF (s:aa) (r:List dA) (aQ now:Int) (j:bP):cA×Bool:=
 if j.phase=1 then (⟨10,aQ,now,0,0,0,0⟩,oW j.nodes fun i=>kG s r i 1 aQ||kG s r i 2 aQ)
 else if j.phase=2 then (⟨15,aQ,0,0,0,0,0⟩,oW j.nodes fun i=>kG s r i 2 aQ&&decide (j.work≤(gv r i).work))
 else if j.phase=3 then (if j.epoch<j.inc then ⟨13,aQ,j.inc,0,0,0,0⟩ else ⟨14,aQ,0,0,0,0,0⟩,oW j.nodes fun i=>kG s r i 3 aQ)
 else (ia,false)
def NT (p:cA×Bool):Option cA:=if p.2=true then some p.1 else none
def EM (s:aa) (m:dA) (n:bp) (i:Int):Option cA:=
 if Kr m=false then none
 else if n.up=false∧1≤m.version∧m.version≤9 then some ⟨8,i,m.version,0,0,0,0⟩
 else if n.bC=true∧m.version=fZ s then some ⟨19,i,m.version,0,0,0,0⟩
 else none
def lJ (s:aa) (r:List dA) (up:Bool):List bp→Nat→Option cA
 | [],_=>none
 | n::l,i=>if n.up=up then (match EM s (gv r i) n i with | some o=>some o | none=>lJ s r up l (i+1)) else lJ s r up l (i+1)
def su (s:aa) (r:List dA) (now:Int):List bP→Nat→Option cA
 | [],_=>none
 | j::l,k=>match NT (CF s r ((k:Int)+1) now j) with | some o=>some o | none=>su s r now l (k+1)
def nE (s:aa) (r:List dA) (now:Int):Option cA:=
 match lJ s r false s.nodes 0 with
 | some o=>some o
 | none=>match lJ s r true s.nodes 0 with
   | some o=>some o
   | none=>su s r now s.jobs 0
def mJ (bZ now:Int):List Bool→List Int→Int→Int
 | u::us,h::hs,i=>if u=true∧h+bZ≤now then i else mJ bZ now us hs (i+1)
 | _,_,_=>-1
end Dv
