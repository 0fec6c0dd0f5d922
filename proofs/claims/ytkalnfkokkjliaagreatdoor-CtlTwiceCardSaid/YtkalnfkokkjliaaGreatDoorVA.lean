/- part -/
import Derived.ProofKit
import Derived.Deep.MidRow
import Derived.Deep.AppendSrc
import Derived.Deep.Upon
set_option linter.all false
attribute [go_sem ↓] reduceIte reduceDIte dreduceIte dreduceDIte
attribute [go_sem] Nat.reduceMod Int.reduceBNe reduceCtorEq Int.reduceNatCast' Int.reduceGE Nat.reduceSucc Int.reduceAdd Int.reduceToNat Nat.reduceXor Nat.reduceShiftRight Nat.reduceLeDiff Int.reduceTMod Int.reduceNeg List.reduceReplicate Int.reduceFDiv Int.reduceAbs Int.reduceEq Int.reduceLE Nat.reduceAdd Nat.reduceOr Nat.reduceSubDiff Int.reducePow Int.reduceNegSucc Int.reduceMul Nat.reduceLT Int.reduceBEq Nat.reduceGT Int.reduceNe Int.reduceNatCast Nat.reduceBneDiff Nat.reduceDvd Int.reduceMod Int.reduceLT Nat.reduceBEq Nat.reducePow Int.reduceBmod Nat.reduceEqDiff Nat.reduceGcd Nat.reduceDiv Nat.reduceBeqDiff Nat.reduceBNe Int.reduceOfNat Int.reduceDvd Int.reduceSub Nat.reduceSub Int.reduceGT Int.reduceTDiv Int.reduceFMod Int.reduceDiv Int.reduceBdiv Nat.reduceAnd Nat.reduceMul Nat.reduceShiftLeft
def Dv.qqS:=And.intro @beq_iff_eq.{0} (And.intro @beq_eq_false_iff_ne.{0} (And.intro @bne_iff_ne.{0} (And.intro @ne_eq.{1} (And.intro @decide_eq_true_eq (And.intro @decide_eq_false_iff_not (And.intro @Bool.not_true (And.intro @Bool.not_false (And.intro @Bool.not_eq_true (And.intro @Bool.not_eq_false (And.intro @bne_eq_false_iff_eq.{0} @Decidable.not_not))))))))))
def Go.Obj.nU:Go.Obj→Bool
 | .cells ..=>true
 | .map ..=>true
 | _=>false
namespace Dv
open Go
inductive DV where
 | val (v:Value)
 | dH (aS:Nat) (rows:List (List DV))
 | fn (f:Fn) (first captured:List DV)
 | fW (t:TypeId) (v:DV)
 | agg (cs:List DV)
inductive LV where
 | top
 | dQ
 | d (x:DV)
 | ptr (o col:Nat)
 | rp (o n aS row col:Nat)
 | ip (row:List DV) (col:Nat)
 | sl (o n aS lo len:Nat)
 | fn (f:Fn) (first captured:List LV)
 | agg (cs:List LV)
 | dJ (vs:List LV)
 | fW (t:TypeId) (v:LV)
 | yl (o:Nat)
 | mr (o:Nat)
section
variable (J:Nat→Prop) (w:World)
mutual
def iH:DV→Value→Prop
 | .val v,x=>x=v
 | .dH aS rows,x=>∃ a n cap,x=.slice a n cap∧n=rows.length∧n≤cap∧(rows=[]∨∃ b off,a=some ⟨b,off,none⟩∧J b∧bF aS rows b off)
 | .fn f fs cs,x=>∃ fs' cs',x=.func f fs' cs'∧bA fs fs'.toList∧bA cs cs'.toList
 | .fW t y,x=>∃ z,x=.iface t z∧iH y z
 | .agg cs,x=>∃ xs,x=.agg xs∧bA cs xs.toList∧∀ v∈xs.toList,v.oneCell'=true
def bA:List DV→List Value→Prop
 | [],[]=>True
 | x::xs,v::vs=>iH x v∧bA xs vs
 | _,_=>False
def dI:List DV→Nat→Nat→Prop
 | [],_,_=>True
 | x::xs,b,off=>(∃ v,w.cell? ⟨b,off,none⟩=some v∧v.oneCell'=true∧iH x v)∧dI xs b (off+1)
def bF (aS:Nat):List (List DV)→Nat→Nat→Prop
 | [],_,_=>True
 | r::rs,b,off=>r.length=aS∧dI r b off∧bF aS rs b (off+aS)
end
variable (ι:Nat→Nat→Option Nat)
mutual
def dm:LV→Value→Prop
 | .top,_=>True
 | .dQ,v=>∃ b,v=.bool b
 | .d x,v=>iH J w x v
 | .ptr o col,v=>∃ b,ι o 0=some b∧v=.pointer (some ⟨b,col,none⟩)
 | .rp o n aS row col,v=>∃ b,ι o n=some b∧v=.pointer (some ⟨b,row*aS+col,none⟩)
 | .ip row col,v=>∃ b off,J b∧v=.pointer (some ⟨b,off+col,none⟩)∧dI J w row b off
 | .sl o n aS lo len,v=>(len=0∧∃ a,v=.slice a 0 0)∨
   ∃ b cap et C,ι o n=some b∧v=.slice (some ⟨b,lo*aS,none⟩) len cap∧len≤cap∧w.shape? b=some (et,C)∧(lo+cap)*aS≤C
 | .fn f fs cs,v=>∃ fs' cs',v=.func f fs' cs'∧cu fs fs'.toList∧cu cs cs'.toList
 | .agg cs,v=>∃ xs,v=.agg xs∧bM cs xs.toList
 | .dJ vs,v=>∃ xs,v=.tuple xs∧cu vs xs.toList
 | .fW t x,v=>∃ y,v=.iface t y∧dm x y
 | .yl o,v=>∃ b,ι o 0=some b∧v=.func (.yield b) #[] #[]
 | .mr o,v=>∃ b,ι o 0=some b∧v=.map (some b)
def cu:List LV→List Value→Prop
 | [],[]=>True
 | x::xs,v::vs=>dm x v∧cu xs vs
 | _,_=>False
def bM:List LV→List Value→Prop
 | [],[]=>True
 | x::xs,v::vs=>v.oneCell'=true∧dm x v∧bM xs vs
 | _,_=>False
end
def iV:List (Int×LV)→List MapEntry→Prop
 | [],[]=>True
 | (k,x)::r,e::es=>e.key=.int .i64 k∧dm J w ι x e.val∧iV r es
 | _,_=>False
end
structure Ev (W J J':Nat→Prop) (ι ι':Nat→Nat→Option Nat) (w w':World):Prop where
 os:w'.os=w.os
 tape:w'.tape=w.tape
 output:w'.output=w.output
 size:w.heap.size≤w'.heap.size
 same:∀ b,b<w.heap.size→¬ W b→w'.heap[b]? = w.heap[b]?
 shape:∀ b,b<w.heap.size→w'.shape? b=w.shape? b
 iB:∀ b,J b→J' b
 vZ:∀ b,J' b→J b∨w.heap.size≤b∨W b
 iC:∀ o n b,ι o n=some b→ι' o n=some b
theorem Ev.refl (W J:Nat→Prop) (ι:Nat→Nat→Option Nat) (w:World):Ev W J J ι ι w w:=
 ⟨rfl,rfl,rfl,Nat.le_refl _,fun _ _ _=>rfl,fun _ _=>rfl,fun _ h=>h,fun _ h=>.inl h,fun _ _ _ h=>h⟩
theorem jt {w w':World} {b o:Nat} (h:w'.heap[b]? = w.heap[b]?):w'.cell? ⟨b,o,none⟩=w.cell? ⟨b,o,none⟩:=by
 simp only [World.cell?,h]
theorem bJ {w w':World} {b:Nat} (h:w'.heap[b]? = w.heap[b]?):w'.shape? b=w.shape? b:=by
 simp only [World.shape?,h]
section mono
variable {J J':Nat→Prop} {w w':World}
mutual
theorem iH.mono (hj:∀ b,J b→J' b) (hs:∀ b,J b→w'.heap[b]? = w.heap[b]?):∀ (x:DV) (v:Value),iH J w x v→iH J' w' x v
 | .val v,x,h=>h
 | .dH aS rows,x,h=>by
   obtain ⟨a,n,cap,rfl,hn,hc,h⟩:=h
   refine ⟨a,n,cap,rfl,hn,hc,h.imp id ?_⟩
   rintro ⟨b,off,ha,hb,hr⟩
   exact ⟨b,off,ha,hj b hb,bF.mono hj hs aS rows b off (hs b hb) hr⟩
 | .fn f fs cs,x,h=>by
   obtain ⟨fs',cs',rfl,h1,h2⟩:=h
   exact ⟨fs',cs',rfl,bA.mono hj hs fs _ h1,bA.mono hj hs cs _ h2⟩
 | .fW t y,x,h=>by
   obtain ⟨z,rfl,h1⟩:=h
   exact ⟨z,rfl,iH.mono hj hs y z h1⟩
 | .agg cs,x,h=>by
   obtain ⟨xs,rfl,h1,h2⟩:=h
   exact ⟨xs,rfl,bA.mono hj hs cs _ h1,h2⟩
theorem bA.mono (hj:∀ b,J b→J' b) (hs:∀ b,J b→w'.heap[b]? = w.heap[b]?):∀ (xs:List DV) (vs:List Value),bA J w xs vs→bA J' w' xs vs
 | [],[],_=>trivial
 | x::xs,v::vs,h=>⟨iH.mono hj hs x v h.1,bA.mono hj hs xs vs h.2⟩
 | [],_::_,h=>h.elim
 | _::_,[],h=>h.elim
theorem dI.mono (hj:∀ b,J b→J' b) (hs:∀ b,J b→w'.heap[b]? = w.heap[b]?):∀ (xs:List DV) (b off:Nat),w'.heap[b]? = w.heap[b]?→dI J w xs b off→dI J' w' xs b off
 | [],_,_,_,_=>trivial
 | x::xs,b,off,hb,h=>by
   obtain ⟨⟨v,hv,h1,hx⟩,hr⟩:=h
   exact ⟨⟨v,by rw [jt hb]; exact hv,h1,iH.mono hj hs x v hx⟩,dI.mono hj hs xs b (off+1) hb hr⟩
theorem bF.mono (hj:∀ b,J b→J' b) (hs:∀ b,J b→w'.heap[b]? = w.heap[b]?) (aS:Nat):∀ (rs:List (List DV)) (b off:Nat),w'.heap[b]? = w.heap[b]?→bF J w aS rs b off→bF J' w' aS rs b off
 | [],_,_,_,_=>trivial
 | r::rs,b,off,hb,h=>⟨h.1,dI.mono hj hs r b off hb h.2.1,bF.mono hj hs aS rs b (off+aS) hb h.2.2⟩
end
variable {ι ι':Nat→Nat→Option Nat}
mutual
theorem dm.mono (hj:∀ b,J b→J' b) (hs:∀ b,J b→w'.heap[b]? = w.heap[b]?) (hi:∀ o n b,ι o n=some b→ι' o n=some b)
  (hsh:∀ b,(w.shape? b).isSome=true→w'.shape? b=w.shape? b):∀ (x:LV) (v:Value),dm J w ι x v→dm J' w' ι' x v
 | .top,_,_=>trivial
 | .dQ,_,h=>h
 | .d x,v,h=>iH.mono hj hs x v h
 | .ptr o col,v,h=>by obtain ⟨b,hb,rfl⟩:=h; exact ⟨b,hi _ _ _ hb,rfl⟩
 | .rp o n aS row col,v,h=>by obtain ⟨b,hb,rfl⟩:=h; exact ⟨b,hi _ _ _ hb,rfl⟩
 | .ip row col,v,h=>by
   obtain ⟨b,off,hb,rfl,hr⟩:=h
   exact ⟨b,off,hj b hb,rfl,dI.mono hj hs row b off (hs b hb) hr⟩
 | .sl o n aS lo len,v,h=>by
   rcases h with h | ⟨b,cap,et,C,hb,rfl,hl,hS,hC⟩
   ·exact .inl h
   ·exact .inr ⟨b,cap,et,C,hi _ _ _ hb,rfl,hl,by rw [hsh b (by rw [hS]; rfl)]; exact hS,hC⟩
 | .fn f fs cs,v,h=>by
   obtain ⟨fs',cs',rfl,h1,h2⟩:=h
   exact ⟨fs',cs',rfl,cu.mono hj hs hi hsh fs _ h1,cu.mono hj hs hi hsh cs _ h2⟩
 | .agg cs,v,h=>by obtain ⟨xs,rfl,h1⟩:=h; exact ⟨xs,rfl,bM.mono hj hs hi hsh cs _ h1⟩
 | .dJ vs,v,h=>by obtain ⟨xs,rfl,h1⟩:=h; exact ⟨xs,rfl,cu.mono hj hs hi hsh vs _ h1⟩
 | .fW t x,v,h=>by obtain ⟨y,rfl,h1⟩:=h; exact ⟨y,rfl,dm.mono hj hs hi hsh x y h1⟩
 | .yl o,v,h=>by obtain ⟨b,hb,rfl⟩:=h; exact ⟨b,hi _ _ _ hb,rfl⟩
 | .mr o,v,h=>by obtain ⟨b,hb,rfl⟩:=h; exact ⟨b,hi _ _ _ hb,rfl⟩
theorem cu.mono (hj:∀ b,J b→J' b) (hs:∀ b,J b→w'.heap[b]? = w.heap[b]?) (hi:∀ o n b,ι o n=some b→ι' o n=some b)
  (hsh:∀ b,(w.shape? b).isSome=true→w'.shape? b=w.shape? b):∀ (xs:List LV) (vs:List Value),cu J w ι xs vs→cu J' w' ι' xs vs
 | [],[],_=>trivial
 | x::xs,v::vs,h=>⟨dm.mono hj hs hi hsh x v h.1,cu.mono hj hs hi hsh xs vs h.2⟩
 | [],_::_,h=>h.elim
 | _::_,[],h=>h.elim
theorem bM.mono (hj:∀ b,J b→J' b) (hs:∀ b,J b→w'.heap[b]? = w.heap[b]?) (hi:∀ o n b,ι o n=some b→ι' o n=some b)
  (hsh:∀ b,(w.shape? b).isSome=true→w'.shape? b=w.shape? b):∀ (xs:List LV) (vs:List Value),bM J w ι xs vs→bM J' w' ι' xs vs
 | [],[],_=>trivial
 | x::xs,v::vs,h=>⟨h.1,dm.mono hj hs hi hsh x v h.2.1,bM.mono hj hs hi hsh xs vs h.2.2⟩
 | [],_::_,h=>h.elim
 | _::_,[],h=>h.elim
end
theorem iV.mono (hj:∀ b,J b→J' b) (hs:∀ b,J b→w'.heap[b]? = w.heap[b]?) (hi:∀ o n b,ι o n=some b→ι' o n=some b)
  (hsh:∀ b,(w.shape? b).isSome=true→w'.shape? b=w.shape? b):∀ (x:List (Int×LV)) (v:List MapEntry),iV J w ι x v→iV J' w' ι' x v
 | [],[],_=>trivial
 | (k,x)::r,e::es,h=>⟨h.1,dm.mono hj hs hi hsh x _ h.2.1,iV.mono hj hs hi hsh r es h.2.2⟩
 | [],_::_,h=>h.elim
 | _::_,[],h=>h.elim
end mono
inductive aH where
 | box (et:TypeId) (cells:List LV)
 | dat (et:TypeId) (aS:Nat) (rows:List (List DV))
 | kW (et:TypeId) (aS:Nat) (rows:List (List DV))
 | mp (es:List (Int×LV))
inductive cF where
 | free
 | dead
 | live (ob:aH)
def aH.own (ι:Nat→Nat→Option Nat) (o:Nat):aH→Nat→Prop
 | .box _ _,b=>ι o 0=some b
 | .dat _ _ rows,b=>ι o rows.length=some b
 | .kW ..,_=>False
 | .mp _,b=>ι o 0=some b
def cF.own (ι:Nat→Nat→Option Nat) (o:Nat):cF→Nat→Prop
 | .live ob,b=>ob.own ι o b
 | _,_=>False
def aaL (J:Nat→Prop) (w:World) (ι:Nat→Nat→Option Nat) (o:Nat):aH→Prop
 | .box et cells=>∃ b C,ι o 0=some b∧w.heap[b]? = some (.cells C et (0,0))∧bM J w ι cells C.toList
 | .dat et aS rows=>(rows=[]∨(ι o rows.length).isSome=true)∧∀ b,ι o rows.length=some b→(∃ C,w.heap[b]? = some (.cells C et (0,0)))∧bF J w aS rows b 0
 | .kW et aS rows=>(rows=[]∨(ι o rows.length).isSome=true)∧∀ b,ι o rows.length=some b→J b∧bF J w aS rows b 0
 | .mp es=>∃ b E c,ι o 0=some b∧w.heap[b]? = some (.map E c)∧iV J w ι es E.toList
def nI (J:Nat→Prop) (w:World) (ι:Nat→Nat→Option Nat) (o:Nat):cF→Prop
 | .free=>∀ n,ι o n=none
 | .dead=>True
 | .live ob=>aaL J w ι o ob∧(match ob with | .dat _ _ rows=>∀ n,rows.length<n→ι o n=none | _=>True)
structure aI (G:Nat→Option (List DV)) (J:Nat→Prop) (w:World) (ι:Nat→Nat→Option Nat) (obj:Nat→cF):Prop where
 rep:∀ o,nI J w ι o (obj o)
 inj:∀ o o' b,(obj o).own ι o b→(obj o').own ι o' b→o=o'
 sn:∀ o b,(obj o).own ι o b→¬ J b
 jcell:∀ b,J b→∃ C t f,w.heap[b]? = some (.cells C t f)
 xV:∀ g row,G g=some row→J g∧dI J w row g 0∧∃ t,w.shape? g=some (t,row.length)
theorem aI.Ez {G:Nat→Option (List DV)} {J:Nat→Prop} {w:World} {ι:Nat→Nat→Option Nat} {obj:Nat→cF} (S:aI G J w ι obj) (b:Nat) (h:J b):b<w.heap.size:=by
 obtain ⟨C,t,f,h⟩:=S.jcell b h
 exact (Array.getElem?_eq_some_iff.1 h).1
def Own (ι:Nat→Nat→Option Nat) (obj:Nat→cF) (b:Nat):Prop:=∃ o,(obj o).own ι o b
theorem nI.vQ {J:Nat→Prop} {w:World} {ι:Nat→Nat→Option Nat} {o:Nat} {s:cF} (h:nI J w ι o s) {b:Nat} (hb:s.own ι o b):∃ x,w.heap[b]? = some x∧x.nU=true:=by
 cases s with
 | free=>exact hb.elim
 | dead=>exact hb.elim
 | live ob=>
   cases ob with
   | box et cells=>
     obtain ⟨⟨b',C,h1,h2,_⟩,_⟩:=h
     cases h1.symm.trans hb
     exact ⟨_,h2,rfl⟩
   | dat et aS rows=>
     obtain ⟨⟨_,h1⟩,_⟩:=h
     obtain ⟨⟨C,h2⟩,_⟩:=h1 b hb
     exact ⟨_,h2,rfl⟩
   | kW et aS rows=>exact hb.elim
   | mp es=>
     obtain ⟨⟨b',E,c,h1,h2,_⟩,_⟩:=h
     cases h1.symm.trans hb
     exact ⟨_,h2,rfl⟩
theorem aI.vQ {G:Nat→Option (List DV)} {J:Nat→Prop} {w:World} {ι:Nat→Nat→Option Nat} {obj:Nat→cF} (S:aI G J w ι obj) {b:Nat} (h:Own ι obj b):∃ x,w.heap[b]? = some x∧x.nU=true:=by
 obtain ⟨o,h⟩:=h
 exact (S.rep o).vQ h
theorem aI.Sb {G:Nat→Option (List DV)} {J:Nat→Prop} {w:World} {ι:Nat→Nat→Option Nat} {obj:Nat→cF} (S:aI G J w ι obj) {z b:Nat} (hz:∃ et e rows,obj z=.live (.dat et e rows)∨obj z=.live (.kW et e rows)) (h:(obj z).own ι z b):∃ C t f,w.heap[b]? = some (.cells C t f):=by
 obtain ⟨et,e,rows,hz | hz⟩:=hz <;> rw [hz] at h
 ·have hr:=S.rep z
  rw [hz] at hr
  obtain ⟨⟨_,h1⟩,_⟩:=hr
  obtain ⟨⟨C,h2⟩,_⟩:=h1 b h
  exact ⟨_,_,_,h2⟩
 ·exact h.elim
structure Ext (obj obj':Nat→cF) (J J':Nat→Prop) (ι ι':Nat→Nat→Option Nat) (w w':World):Prop where
 ev:Ev (Own ι obj) J J' ι ι' w w'
 own:∀ b,Own ι' obj' b→Own ι obj b∨w.heap.size≤b
theorem Ext.refl (obj:Nat→cF) (J:Nat→Prop) (ι:Nat→Nat→Option Nat) (w:World):Ext obj obj J J ι ι w w:=⟨Ev.refl ..,fun _ h=>.inl h⟩
theorem Ext.trans {o1 o2 o3:Nat→cF} {J1 J2 J3:Nat→Prop} {i1 i2 i3:Nat→Nat→Option Nat} {w1 w2 w3:World}
  (h:Ext o1 o2 J1 J2 i1 i2 w1 w2) (k:Ext o2 o3 J2 J3 i2 i3 w2 w3):Ext o1 o3 J1 J3 i1 i3 w1 w3:=by
 have hs:=h.ev.size
 refine ⟨⟨k.ev.os.trans h.ev.os,k.ev.tape.trans h.ev.tape,k.ev.output.trans h.ev.output,Nat.le_trans hs k.ev.size,?_,?_,fun b hb=>k.ev.iB b (h.ev.iB b hb),?_,fun o n b hb=>k.ev.iC _ _ _ (h.ev.iC _ _ _ hb)⟩,?_⟩
 ·intro b hb hn
  rw [k.ev.same b (by omega) (fun hw=>(h.own b hw).elim hn (by omega)),h.ev.same b hb hn]
 ·intro b hb
  rw [k.ev.shape b (by omega),h.ev.shape b hb]
 ·intro b hb
  rcases k.ev.vZ b hb with hb | hb | hb
  ·exact h.ev.vZ b hb
  ·exact .inr (.inl (by omega))
  ·rcases h.own b hb with hb | hb
   ·exact .inr (.inr hb)
   ·exact .inr (.inl hb)
 ·intro b hb
  rcases k.own b hb with hb | hb
  ·exact h.own b hb
  ·exact .inr (by omega)
theorem gI {w:World} {b:Nat} (h:(w.shape? b).isSome=true):b<w.heap.size:=by
 unfold World.shape? at h
 rcases Nat.lt_or_ge b w.heap.size with hb | hb
 ·exact hb
 ·rw [Array.getElem?_eq_none hb] at h; cases h
section
variable {G:Nat→Option (List DV)} {J J':Nat→Prop} {w w':World} {ι ι':Nat→Nat→Option Nat} {obj obj':Nat→cF}
theorem aI.same (S:aI G J w ι obj) (E:Ev (Own ι obj) J J' ι ι' w w') (b:Nat) (hb:J b):w'.heap[b]? = w.heap[b]?:=
 E.same b (S.Ez b hb) (fun ⟨o,ho⟩=>S.sn o b ho hb)
theorem dm.ev (S:aI G J w ι obj) (E:Ev (Own ι obj) J J' ι ι' w w') {x:LV} {v:Value} (h:dm J w ι x v):dm J' w' ι' x v:=
 dm.mono E.iB (S.same E) E.iC (fun b hb=>E.shape b (gI hb)) x v h
theorem cu.ev (S:aI G J w ι obj) (E:Ev (Own ι obj) J J' ι ι' w w') {x:List LV} {v:List Value} (h:cu J w ι x v):cu J' w' ι' x v:=
 cu.mono E.iB (S.same E) E.iC (fun b hb=>E.shape b (gI hb)) x v h
theorem bM.ev (S:aI G J w ι obj) (E:Ev (Own ι obj) J J' ι ι' w w') {x:List LV} {v:List Value} (h:bM J w ι x v):bM J' w' ι' x v:=
 bM.mono E.iB (S.same E) E.iC (fun b hb=>E.shape b (gI hb)) x v h
theorem iV.ev (S:aI G J w ι obj) (E:Ev (Own ι obj) J J' ι ι' w w') {x:List (Int×LV)} {v:List MapEntry} (h:iV J w ι x v):iV J' w' ι' x v:=
 iV.mono E.iB (S.same E) E.iC (fun b hb=>E.shape b (gI hb)) x v h
theorem iH.ev (S:aI G J w ι obj) (E:Ev (Own ι obj) J J' ι ι' w w') {x:DV} {v:Value} (h:iH J w x v):iH J' w' x v:=
 iH.mono E.iB (S.same E) x v h
theorem dI.ev (S:aI G J w ι obj) (E:Ev (Own ι obj) J J' ι ι' w w') {x:List DV} {b off:Nat} (hb:J b) (h:dI J w x b off):dI J' w' x b off:=
 dI.mono E.iB (S.same E) x b off (S.same E b hb) h
theorem bF.ev (S:aI G J w ι obj) (E:Ev (Own ι obj) J J' ι ι' w w') {aS:Nat} {x:List (List DV)} {b off:Nat} (hb:w'.heap[b]? = w.heap[b]?) (h:bF J w aS x b off):bF J' w' aS x b off:=
 bF.mono E.iB (S.same E) aS x b off hb h
end
end Dv
namespace Dv
open Go
inductive bU where
 | t (n:Nat)
 | c (x:DV)
 | g (n:Nat)
 | f (n:Nat)
inductive M where
 | sla (n:Nat) (x:bU) (lo hi:Option bU)
 | cpy (x y:bU)
 | xm (et aS bytes:Nat) (z:List DV) (n:bU)
 | b2s (x:bU)
 | stk
 | cpl (x:bU)
 | clr (aS:Nat) (z:List DV) (x:bU)
 | atl (x:bU)
 | ata (x y:bU)
 | mkm
 | mup (x k y:bU)
 | mlk (z:Value) (ok:Bool) (x k:bU)
inductive I where
 | mv (x:bU)
 | pick (c x y:bU)
 | new (et:TypeId) (row:List DV)
 | box (et:TypeId) (x:bU)
 | build (zero:List DV) (parts:List (Nat×Nat×bU))
 | YQ (et aS:Nat) (parts:List bU)
 | ld1 (x:bU)
 | Bi (size:Nat) (x:bU)
 | st (size:Nat) (x y:bU)
 | kT (x:bU)
 | bin (op:BinOp) (x y:bU)
 | eqb (neg:Bool) (x y:bU)
 | not (x:bU)
 | cvt (k:IntKind) (x:bU)
 | eO (off:Nat) (x:bU)
 | MB (off:Nat) (x:bU)
 | Vr (off size:Nat) (x:bU)
 | A3 (aS:Nat) (x i:bU)
 | ixr (len aS:Nat) (x i:bU)
 | ix1 (len:Nat) (x i:bU)
 | ixs (x i:bU)
 | len (x:bU)
 | lens (x:bU)
 | mkf (f:Fn) (first captured:List bU)
 | ext (x:bU) (i:Nat)
 | app (et aS bytes:Nat) (x y:bU)
 | min (x y:bU)
 | max (x y:bU)
 | Mj (neg:Bool) (x:bU)
 | Mi (neg:Bool) (x:bU)
 | eqs (neg:Bool) (ks:List Nat) (x y:bU)
 | neg (x:bU)
 | ixn (len aS:Nat) (x i:bU)
 | sli (aS:Nat) (x:bU) (lo hi mx:Option bU)
 | sls (x:bU) (lo hi:Option bU)
 | more (m:M)
 | call (f:bU) (args:List bU)
structure ei where
 dst:Option Nat
 op:I
 guard:Option (Nat×Bool):=none
 pre:List Nat:=[]
def bU.tmps:bU→List Nat
 | .t n=>[n]
 | _=>[]
def bU.w9:Option bU→List Nat
 | some x=>x.tmps
 | none=>[]
def M.tmps:M→List Nat
 | .sla _ x lo hi=>x.tmps++bU.w9 lo++bU.w9 hi
 | .cpy x y=>x.tmps++y.tmps
 | .xm _ _ _ _ n=>n.tmps
 | .b2s x=>x.tmps
 | .stk=>[]
 | .cpl x=>x.tmps
 | .clr _ _ x=>x.tmps
 | .atl x=>x.tmps
 | .ata x y=>x.tmps++y.tmps
 | .mkm=>[]
 | .mup x k y=>x.tmps++k.tmps++y.tmps
 | .mlk _ _ x k=>x.tmps++k.tmps
def I.tmps:I→List Nat
 | .more m=>m.tmps
 | .mv x=>x.tmps
 | .pick c x y=>c.tmps++x.tmps++y.tmps
 | .new _ _=>[]
 | .box _ x=>x.tmps
 | .build _ parts=>parts.flatMap fun p=>p.2.2.tmps
 | .YQ _ _ parts=>parts.flatMap bU.tmps
 | .ld1 x=>x.tmps
 | .Bi _ x=>x.tmps
 | .st _ x y=>x.tmps++y.tmps
 | .kT x=>x.tmps
 | .bin _ x y=>x.tmps++y.tmps
 | .eqb _ x y=>x.tmps++y.tmps
 | .not x=>x.tmps
 | .cvt _ x=>x.tmps
 | .eO _ x=>x.tmps
 | .MB _ x=>x.tmps
 | .Vr _ _ x=>x.tmps
 | .A3 _ x i=>x.tmps++i.tmps
 | .ixr _ _ x i=>x.tmps++i.tmps
 | .ix1 _ x i=>x.tmps++i.tmps
 | .ixs x i=>x.tmps++i.tmps
 | .len x=>x.tmps
 | .lens x=>x.tmps
 | .mkf _ a b=>a.flatMap bU.tmps++b.flatMap bU.tmps
 | .ext x _=>x.tmps
 | .app _ _ _ x y=>x.tmps++y.tmps
 | .min x y=>x.tmps++y.tmps
 | .max x y=>x.tmps++y.tmps
 | .Mj _ x=>x.tmps
 | .Mi _ x=>x.tmps
 | .eqs _ _ x y=>x.tmps++y.tmps
 | .neg x=>x.tmps
 | .ixn _ _ x i=>x.tmps++i.tmps
 | .sli _ x lo hi mx=>x.tmps++bU.w9 lo++bU.w9 hi++bU.w9 mx
 | .sls x lo hi=>x.tmps++bU.w9 lo++bU.w9 hi
 | .call f args=>f.tmps++args.flatMap bU.tmps
structure fu where
 r:LV
 rd:List Nat:=[]
 wr:List (Nat×aH):=[]
 nw:List aH:=[]
def LV.int (n:Int):LV:=.d (.val (.int .i64 n))
def LV.bool (b:Bool):LV:=.d (.val (.bool b))
def LV.undef:LV:=.d (.val Go.undef)
def LV.cells:LV→Option (List LV)
 | .d (.val v)=>if v.oneCell' then some [.d (.val v)] else none
 | .d (.agg cs)=>some (cs.map .d)
 | .d x=>some [.d x]
 | .ptr o c=>some [.ptr o c]
 | .rp o n e r c=>some [.rp o n e r c]
 | .ip r c=>some [.ip r c]
 | .sl o n e l k=>some [.sl o n e l k]
 | .fn f a b=>some [.fn f a b]
 | .fW t v=>some [.fW t v]
 | .agg cs=>some cs
 | .dQ=>some [.dQ]
 | .top=>none
 | .yl _=>none
 | .mr o=>some [.mr o]
 | .dJ _=>none
mutual
def LV.VW:LV→Option DV
 | .d x=>some x
 | .fn f a b=>match LV.sS a,LV.sS b with
   | some a,some b=>some (.fn f a b)
   | _,_=>none
 | .fW t v=>match LV.VW v with
   | some v=>some (.fW t v)
   | none=>none
 | _=>none
def LV.sS:List LV→Option (List DV)
 | []=>some []
 | x::xs=>match LV.VW x,LV.sS xs with
   | some x,some xs=>some (x::xs)
   | _,_=>none
end
def splice {α:Type} (l:List α) (o:Nat) (xs:List α):List α:=l.take o++xs++l.drop (o+xs.length)
def ry (k:IntKind) (a b:Int):Int:=k.wrap (BitVec.ofInt k.bits a&&& BitVec.ofInt k.bits b).toNat
def B9 (k:IntKind) (a b:Int):Int:=k.wrap (BitVec.ofInt k.bits a||| BitVec.ofInt k.bits b).toNat
def xN (k:IntKind) (a b:Int):Int:=k.wrap (BitVec.ofInt k.bits a ^^^ BitVec.ofInt k.bits b).toNat
def gz (k:IntKind) (a b:Int):Int:=k.wrap (BitVec.ofInt k.bits a&&& ~~~ BitVec.ofInt k.bits b).toNat
def Di (k:IntKind) (a b:Int):Int:=k.wrap (a*2 ^ (Nat.min b.toNat k.bits))
def vK (k:IntKind) (a b:Int):Int:=a.fdiv (2 ^ (Nat.min b.toNat k.bits))
def VJ (op:BinOp):Value→Value→Option Value
 | .int k a,.int k' b=>
   match op with
   | .add=>if k=k' then some (.int k (k.wrap (a+b))) else none
   | .sub=>if k=k' then some (.int k (k.wrap (a-b))) else none
   | .mul=>if k=k' then some (.int k (k.wrap (a*b))) else none
   | .quo=>if k=k'∧b≠0 then some (.int k (k.wrap (a.tdiv b))) else none
   | .rem=>if k=k'∧b≠0 then some (.int k (a.tmod b)) else none
   | .and=>if k=k' then some (.int k (ry k a b)) else none
   | .or=>if k=k' then some (.int k (B9 k a b)) else none
   | .xor=>if k=k' then some (.int k (xN k a b)) else none
   | .andNot=>if k=k' then some (.int k (gz k a b)) else none
   | .shl=>if 0≤b then some (.int k (Di k a b)) else none
   | .shr=>if 0≤b then some (.int k (vK k a b)) else none
   | .eql=>if k=k' then some (.bool (a==b)) else none
   | .neq=>if k=k' then some (.bool (a !=b)) else none
   | .lss=>if k=k' then some (.bool (decide (a<b))) else none
   | .leq=>if k=k' then some (.bool (decide (a≤b))) else none
   | .gtr=>if k=k' then some (.bool (decide (a>b))) else none
   | .geq=>if k=k' then some (.bool (decide (a≥b))) else none
 | .string a,.string b=>
   match op with
   | .add=>if a.size+b.size≤9223372036854775807 then some (.string (a++b)) else none
   | .eql=>some (.bool (a.toList==b.toList))
   | .neq=>some (.bool (!(a.toList==b.toList)))
   | .lss=>some (.bool (Op.bytesLess a.toList b.toList))
   | .leq=>some (.bool (Op.bytesLess a.toList b.toList||a.toList==b.toList))
   | .gtr=>some (.bool (!(Op.bytesLess a.toList b.toList||a.toList==b.toList)))
   | .geq=>some (.bool (!(Op.bytesLess a.toList b.toList)))
   | _=>none
 | _,_=>none
def GY:Nat→Value→Value→Option Bool
 | 0,.int k a,.int k' b=>if k=k' then some (a==b) else none
 | 1,.bool a,.bool b=>some (a==b)
 | 2,.string a,.string b=>some (a.toList==b.toList)
 | _,_,_=>none
def en:List Nat→List LV→List LV→Option Bool
 | [],[],[]=>some true
 | k::ks,.d (.val a)::xs,.d (.val b)::ys=>match GY k a b,en ks xs ys with
   | some p,some q=>some (p&&q)
   | _,_=>none
 | _,_,_=>none
def gK (dflt:Nat):Option LV→Option Nat
 | none=>some dflt
 | some (.d (.val (.int _ i)))=>if 0≤i then some i.toNat else none
 | some _=>none
section
variable (G:Nat→Option (List DV)) (get:Nat→LV) (obj:Nat→cF) (base:Nat)
def bU.ev:bU→LV
 | .t n=>get n
 | .c x=>.d x
 | .g n=>match G n with | some row=>.ip row 0 | none=>.top
 | .f n=>.d (.fn (.func n) [] [])
def sI:List LV→List (Nat×Nat×bU)→Option (List LV)
 | cells,[]=>some cells
 | cells,(off,size,x)::rest=>match (x.ev G get).cells with
   | some cs=>if cs.length=size∧off+cs.length≤cells.length then sI (splice cells off cs) rest else none
   | none=>none
def rowsOf (aS:Nat):List bU→Option (List (List DV))
 | []=>some []
 | x::xs=>match (x.ev G get).cells with
   | some cs=>match LV.sS cs with
     | some ds=>if ds.length=aS then (match rowsOf aS xs with | some r=>some (ds::r) | none=>none) else none
     | none=>none
   | none=>none
def vh:List bU→Option (List LV)
 | []=>some []
 | x::xs=>match (x.ev G get).cells with
   | some cs=>if cs.length=1 then (match vh xs with | some r=>some (cs++r) | none=>none) else none
   | none=>none
def zD:List bU→Option LV
 | [p]=>match p.ev G get with
   | .sl o n e lo len=>some (.sl o n e lo len)
   | _=>none
 | _=>none
def qV:LV→Option (Nat×aH×DV)
 | .sl o n e lo len=>match obj o with
   | .live (.dat t e' rows)=>if e=e'∧n=rows.length∧lo+len≤rows.length then some (o,.kW t e' rows,.dH e' ((rows.drop lo).take len)) else none
   | _=>none
 | _=>none
def bn (aS:Nat):LV→Option (List (List DV)×List Nat)
 | .d (.dH e rows)=>if e=aS then some (rows,[]) else none
 | .d (.val (.slice none 0 0))=>some ([],[])
 | .d (.val (.string s))=>if aS=1 then some (s.data.toList.map fun b=>[.val (.int .u8 b.toNat)],[]) else none
 | .sl o n e lo len=>match obj o with
   | .live (.dat _ e' rows)=>if e=aS∧e'=aS∧n=rows.length∧lo+len≤n then some ((rows.drop lo).take len,[o]) else none
   | .live (.kW _ e' rows)=>if e=aS∧e'=aS∧n=rows.length∧lo+len≤n then some ((rows.drop lo).take len,[o]) else none
   | .live (.box _ cells)=>if e=aS∧aS=1∧n=0∧lo+len≤cells.length then (match LV.sS ((cells.drop lo).take len) with
     | some ds=>some (ds.map fun x=>[x],[o])
     | none=>none) else none
   | _=>none
 | _=>none
def bytesOf:List (List DV)→Option (List UInt8)
 | []=>some []
 | [.val (.int .u8 n)]::r=>match bytesOf r with
   | some bs=>some (UInt8.ofNat n.toNat::bs)
   | none=>none
 | _=>none
def getM:List (Int×LV)→Int→Option LV
 | [],_=>none
 | (k,x)::r,n=>if n=k then some x else getM r n
def Be:List (Int×LV)→Int→LV→List (Int×LV)
 | [],n,y=>[(n,y)]
 | (k,x)::r,n,y=>if n=k then (k,y)::r else (k,x)::Be r n y
def fO:M→Option fu
 | .sla n x lo hi=>match x.ev G get with
   | .ptr o col=>match obj o with
     | .live (.box _ cells)=>match gK 0 (lo.map (·.ev G get)),gK n (hi.map (·.ev G get)) with
       | some l,some h=>if l≤h∧h≤n∧col+n≤cells.length then some { r:=.sl o 0 1 (col+l) (h-l),rd:=[o] } else none
       | _,_=>none
     | _=>none
   | _=>none
 | .cpy x y=>match bn obj 1 (y.ev G get) with
   | some (new,rd)=>(match x.ev G get with
     | .sl o 0 1 lo len=>match obj o with
       | .live (.box et cells)=>if lo+len≤cells.length∧new.length≤len then
         some { r:=.int new.length,rd:=o::rd,wr:=[(o,.box et (splice cells lo (new.flatten.map .d)))] } else none
       | _=>none
     | .sl o n 1 lo len=>match obj o with
       | .live (.dat et 1 rows)=>if n=rows.length∧lo+len≤rows.length∧new.length≤len∧rows≠[] then
         some { r:=.int new.length,rd:=o::rd,wr:=[(o,.dat et 1 (splice rows lo new))] } else none
       | _=>none
     | _=>none)
   | none=>none
 | .xm et aS bytes z n=>match n.ev G get with
   | .d (.val (.int _ k))=>if 0≤k∧k.toNat*bytes≤70368744177664∧k≤9223372036854775807 then some { r:=.sl base k.toNat aS 0 k.toNat,nw:=[.dat et aS (List.replicate k.toNat z)] } else none
   | _=>none
 | .b2s x=>match x.ev G get with
   | .d (.val (.string _))=>none
   | y=>match bn obj 1 y with
     | some (rows,rd)=>match bytesOf rows with
       | some bs=>some { r:=.d (.val (.string ⟨bs.toArray⟩)),rd:=rd }
       | none=>none
     | none=>none
 | .stk=>none
 | .cpl x=>match x.ev G get with
   | .d (.val (.int k a))=>some { r:=.d (.val (.int k (xN k (if k.signed=true then -1 else k.max) a))) }
   | _=>none
 | .clr aS z x=>match x.ev G get with
   | .sl o n e lo len=>match obj o with
     | .live (.dat et e' rows)=>if e=aS∧e'=aS∧n=rows.length∧lo+len≤rows.length∧0<len then
       some { r:=.undef,rd:=[o],wr:=[(o,.dat et e' (splice rows lo (List.replicate len z)))] } else none
     | _=>none
   | .d (.dH _ [])=>some { r:=.undef }
   | _=>none
 | .atl x=>match x.ev G get with
   | .ptr o c=>match obj o with
     | .live (.box et cells)=>match cells[c]? with
       | some (.d (.val (.int .i64 a)))=>some { r:=.int a,rd:=[o] }
       | _=>none
     | _=>none
   | _=>none
 | .ata x y=>match x.ev G get,y.ev G get with
   | .ptr o c,.d (.val (.int .i64 d))=>match obj o with
     | .live (.box et cells)=>match cells[c]? with
       | some (.d (.val (.int .i64 a)))=>some { r:=.int (IntKind.i64.wrap (a+d)),rd:=[o],wr:=[(o,.box et (splice cells c [.int (IntKind.i64.wrap (a+d))]))] }
       | _=>none
     | _=>none
   | _,_=>none
 | .mkm=>some { r:=.mr base,nw:=[.mp []] }
 | .mup x k y=>match x.ev G get,k.ev G get with
   | .mr o,.d (.val (.int .i64 n))=>match obj o with
     | .live (.mp es)=>some { r:=.undef,rd:=[o],wr:=[(o,.mp (Be es n (y.ev G get)))] }
     | _=>none
   | _,_=>none
 | .mlk z ok x k=>match x.ev G get,k.ev G get with
   | .mr o,.d (.val (.int .i64 n))=>match obj o with
     | .live (.mp es)=>match getM es n with
       | some y=>some { r:=bif ok then .dJ [y,.bool true] else y,rd:=[o] }
       | none=>some { r:=bif ok then .dJ [.d (.val z),.bool false] else .d (.val z),rd:=[o] }
     | _=>none
   | _,_=>none
def cI:I→Option fu
 | .more m=>fO G get obj base m
 | .mv x=>some { r:=x.ev G get }
 | .pick c x y=>match c.ev G get with
   | .d (.val (.bool b))=>some { r:=bif b then x.ev G get else y.ev G get }
   | _=>none
 | .new et row=>some { r:=.ptr base 0,nw:=[.box et (row.map .d)] }
 | .box et x=>match (x.ev G get).cells with
   | some cs=>some { r:=.ptr base 0,nw:=[.box et cs] }
   | none=>none
 | .build zero parts=>match sI G get (zero.map .d) parts with
   | some cs=>some { r:=.agg cs }
   | none=>none
 | .YQ et aS parts=>match rowsOf G get aS parts with
   | some rows=>some { r:=.sl base rows.length aS 0 rows.length,nw:=[.dat et aS rows] }
   | none=>match zD G get parts with
     | some x=>if aS=1 then (match qV obj x with
       | some (o,ob,d)=>some { r:=.sl base 1 1 0 1,rd:=[o],wr:=[(o,ob)],nw:=[.dat et 1 [[d]]] }
       | none=>none) else none
     | none=>if aS=1 then (match vh G get parts with
       | some cs=>some { r:=.sl base 0 1 0 cs.length,nw:=[.box et cs] }
       | none=>none) else none
 | .ld1 x=>match x.ev G get with
   | .ptr o col=>match obj o with
     | .live (.box et cells)=>match cells[col]? with
       | some v=>some { r:=v,rd:=[o] }
       | none=>none
     | _=>none
   | .ip row col=>match row[col]? with
     | some v=>some { r:=.d v }
     | none=>none
   | .rp o n aS row col=>match obj o with
     | .live (.dat et Eh rows)=>if aS=Eh∧n=rows.length then (match rows[row]? with
       | some r=>match r[col]? with
         | some v=>some { r:=.d v,rd:=[o] }
         | none=>none
       | none=>none) else none
     | _=>none
   | _=>none
 | .Bi size x=>match x.ev G get with
   | .ptr o col=>match obj o with
     | .live (.box et cells)=>if ((cells.drop col).take size).length=size then some { r:=.agg ((cells.drop col).take size),rd:=[o] } else none
     | _=>none
   | .ip row col=>if ((row.drop col).take size).length=size then some { r:=.agg (((row.drop col).take size).map .d) } else none
   | .rp o n aS row col=>match obj o with
     | .live (.dat et Eh rows)=>if aS=Eh∧n=rows.length then (match rows[row]? with
       | some r=>if ((r.drop col).take size).length=size then some { r:=.agg (((r.drop col).take size).map .d),rd:=[o] } else none
       | none=>none) else none
     | _=>none
   | _=>none
 | .st size x y=>match (y.ev G get).cells with
   | some cs=>if cs.length=size then (match x.ev G get with
     | .ptr o col=>match obj o with
       | .live (.box et cells)=>if col+cs.length≤cells.length then some { r:=.undef,rd:=[o],wr:=[(o,.box et (splice cells col cs))] } else none
       | _=>none
     | .rp o n aS row col=>match obj o with
       | .live (.dat et Eh rows)=>if aS=Eh∧n=rows.length then (match LV.sS cs with
         | some ds=>match rows[row]? with
           | some r=>if col+ds.length≤r.length then some { r:=.undef,rd:=[o],wr:=[(o,.dat et Eh (rows.set row (splice r col ds)))] } else none
           | none=>none
         | none=>none) else none
       | _=>none
     | _=>none) else none
   | none=>none
 | .kT x=>match x.ev G get with
   | .ptr o col=>some { r:=.ptr o col }
   | .rp o n e r c=>some { r:=.rp o n e r c }
   | .ip r c=>some { r:=.ip r c }
   | _=>none
 | .bin op x y=>match x.ev G get,y.ev G get with
   | .d (.val a),.d (.val b)=>match VJ op a b with
     | some v=>some { r:=.d (.val v) }
     | none=>none
   | _,_=>none
 | .eqb neg x y=>match x.ev G get,y.ev G get with
   | .d (.val (.bool a)),.d (.val (.bool b))=>some { r:=.bool (bif neg then !(a==b) else a==b) }
   | _,_=>none
 | .not x=>match x.ev G get with
   | .d (.val (.bool a))=>some { r:=.bool (!a) }
   | _=>none
 | .cvt k x=>match x.ev G get with
   | .d (.val (.int _ a))=>some { r:=.d (.val (.int k (k.wrap a))) }
   | _=>none
 | .eO off x=>match x.ev G get with
   | .ptr o col=>some { r:=.ptr o (col+off) }
   | .rp o n e r c=>some { r:=.rp o n e r (c+off) }
   | .ip r c=>some { r:=.ip r (c+off) }
   | _=>none
 | .MB off x=>match x.ev G get with
   | .agg cs=>match cs[off]? with
     | some v=>some { r:=v }
     | none=>none
   | _=>none
 | .Vr off size x=>match x.ev G get with
   | .agg cs=>if ((cs.drop off).take size).length=size then some { r:=.agg ((cs.drop off).take size) } else none
   | _=>none
 | .A3 aS x i=>match i.ev G get with
   | .d (.val (.int _ i))=>if 0≤i then (match x.ev G get with
     | .d (.dH e rows)=>if e=aS then (match rows[i.toNat]? with
       | some r=>some { r:=.ip r 0 }
       | none=>none) else none
     | .sl o n e lo len=>match obj o with
       | .live (.kW et e' rows)=>if e=aS∧e'=aS∧n=rows.length∧i.toNat<len then (match rows[lo+i.toNat]? with
         | some r=>some { r:=.ip r 0,rd:=[o] }
         | none=>none) else none
       | .live (.box _ _)=>if e=aS∧e=1∧n=0∧i.toNat<len then some { r:=.ptr o (lo+i.toNat),rd:=[o] } else none
       | _=>if e=aS∧i.toNat<len then some { r:=.rp o n e (lo+i.toNat) 0,rd:=[o] } else none
     | _=>none) else none
   | _=>none
 | .ixr len aS x i=>match i.ev G get with
   | .d (.val (.int _ i))=>if 0≤i∧i.toNat<len then (match x.ev G get with
     | .ptr o col=>some { r:=.ptr o (col+i.toNat*aS) }
     | .rp o n e r c=>some { r:=.rp o n e r (c+i.toNat*aS) }
     | .ip r c=>some { r:=.ip r (c+i.toNat*aS) }
     | _=>none) else none
   | _=>none
 | .ix1 len x i=>match i.ev G get with
   | .d (.val (.int _ i))=>if 0≤i∧i.toNat<len then (match x.ev G get with
     | .agg cs=>match cs[i.toNat]? with
       | some v=>some { r:=v }
       | none=>none
     | _=>none) else none
   | _=>none
 | .ixs x i=>match i.ev G get,x.ev G get with
   | .d (.val (.int _ i)),.d (.val (.string s))=>if 0≤i then (match s.data.toList[i.toNat]? with
     | some b=>some { r:=.d (.val (.int .u8 b.toNat)) }
     | none=>none) else none
   | _,_=>none
 | .len x=>match x.ev G get with
   | .d (.dH e rows)=>some { r:=.int rows.length }
   | .d (.val (.slice none 0 0))=>some { r:=.int 0 }
   | .sl o n e lo len=>some { r:=.int len }
   | _=>none
 | .lens x=>match x.ev G get with
   | .d (.val (.string s))=>some { r:=.int s.size }
   | _=>none
 | .mkf f a b=>some { r:=.fn f (a.map (·.ev G get)) (b.map (·.ev G get)) }
 | .ext x i=>match x.ev G get with
   | .dJ vs=>match vs[i]? with
     | some v=>some { r:=v }
     | none=>none
   | _=>none
 | .app et aS bytes x y=>match bn obj aS (y.ev G get) with
   | some (new,rd)=>(match x.ev G get with
     | .d (.val (.slice none 0 0))=>if new.length*bytes≤70368744177664 then
       some { r:=.sl base new.length aS 0 new.length,rd:=rd,nw:=[.dat et aS new] } else none
     | .sl o n e lo len=>match obj o with
       | .live (.dat et' e' rows)=>if et'=et∧e=aS∧e'=aS∧n=rows.length∧lo=0∧len=n∧(rows++new).length*bytes≤70368744177664 then
         some { r:=.sl o (rows.length+new.length) aS 0 (rows.length+new.length),rd:=o::rd,wr:=[(o,.dat et' aS (rows++new))] } else none
       | _=>none
     | _=>none)
   | none=>none
 | .min x y=>match x.ev G get,y.ev G get with
   | .d (.val (.int k a)),.d (.val (.int _ b))=>some { r:=.d (.val (.int k (if b<a then b else a))) }
   | _,_=>none
 | .max x y=>match x.ev G get,y.ev G get with
   | .d (.val (.int k a)),.d (.val (.int _ b))=>some { r:=.d (.val (.int k (if b>a then b else a))) }
   | _,_=>none
 | .Mj neg x=>match x.ev G get with
   | .ptr _ _=>some { r:=.bool neg }
   | .rp _ _ _ _ _=>some { r:=.bool neg }
   | .ip _ _=>some { r:=.bool neg }
   | .d (.val (.pointer none))=>some { r:=.bool !neg }
   | _=>none
 | .Mi neg x=>match x.ev G get with
   | .d (.val (.slice none 0 0))=>some { r:=.bool !neg }
   | .d (.dH _ rows)=>some { r:=if rows.length=0 then .dQ else .bool neg }
   | .sl _ _ _ _ len=>some { r:=if len=0 then .dQ else .bool neg }
   | _=>none
 | .eqs neg ks x y=>match x.ev G get,y.ev G get with
   | .agg xs,.agg ys=>match en ks xs ys with
     | some b=>some { r:=.bool (bif neg then !b else b) }
     | none=>none
   | _,_=>none
 | .neg x=>match x.ev G get with
   | .d (.val (.int k a))=>some { r:=.d (.val (.int k (k.wrap (0-a)))) }
   | _=>none
 | .ixn len aS x i=>match i.ev G get with
   | .d (.val (.int _ i))=>if 0≤i∧i.toNat<len then (match x.ev G get with
     | .agg cs=>if ((cs.drop (i.toNat*aS)).take aS).length=aS then some { r:=.agg ((cs.drop (i.toNat*aS)).take aS) } else none
     | _=>none) else none
   | _=>none
 | .sli aS x lo hi mx=>match x.ev G get with
   | .d (.dH e rows)=>match gK 0 (lo.map (·.ev G get)),gK rows.length (hi.map (·.ev G get)),gK rows.length (mx.map (·.ev G get)) with
     | some l,some h,some m=>if e=aS∧l≤h∧h≤m∧m≤rows.length then some { r:=.d (.dH aS ((rows.drop l).take (h-l))) } else none
     | _,_,_=>none
   | .sl o n e slo len=>match gK 0 (lo.map (·.ev G get)),gK len (hi.map (·.ev G get)),gK len (mx.map (·.ev G get)) with
     | some l,some h,some m=>if e=aS∧l≤h∧h≤m∧m≤len then some { r:=.sl o n e (slo+l) (h-l) } else none
     | _,_,_=>none
   | .d (.val (.slice none 0 0))=>match gK 0 (lo.map (·.ev G get)),gK 0 (hi.map (·.ev G get)),gK 0 (mx.map (·.ev G get)) with
     | some l,some h,some m=>if l≤h∧h≤m∧m≤0 then some { r:=.d (.val (.slice none 0 0)) } else none
     | _,_,_=>none
   | _=>none
 | .sls x lo hi=>match x.ev G get with
   | .d (.val (.string s))=>match gK 0 (lo.map (·.ev G get)),gK s.size (hi.map (·.ev G get)) with
     | some l,some h=>if l≤h∧h≤s.size then some { r:=.d (.val (.string (s.extract l h))) } else none
     | _,_=>none
   | _=>none
 | .call _ _=>none
end
end Dv
namespace Dv
open Go
theorem wS {α:Type} (l:List α) (o:Nat) (x:α) (xs:List α) (h:o<l.length):splice (l.set o x) (o+1) xs=splice l o (x::xs):=by
 unfold splice
 rw [List.take_set,List.take_add_one,List.getElem?_eq_getElem h,List.drop_set]
 simp only [List.length_cons,show ¬ (o+1+xs.length≤o) by omega]
 rw [if_pos (by omega),List.set_append,List.length_take,Nat.min_eq_left (by omega),if_neg (by omega)]
 simp only [Option.toList_some,Nat.sub_self,List.set_cons_zero,List.append_assoc,List.singleton_append,List.cons_append,List.nil_append]
 rw [show o+1+xs.length=o+(xs.length+1) by omega]
theorem jX {α:Type} (l:List α) (o:Nat) (xs:List α) (h:o+xs.length≤l.length):(splice l o xs).length=l.length:=by
 unfold splice
 simp only [List.length_append,List.length_take,List.length_drop]; omega
theorem iD {b:Nat} {et:TypeId} {fr:Nat×Nat} : ∀ (vs:List Value) (o:Nat) (w:World) (C:Array Value),w.heap[b]? = some (.cells C et fr)→o+vs.length≤C.size→
  ∃ C',(w.setCells b o vs).heap[b]? = some (.cells C' et fr)∧C'.toList=splice C.toList o vs
 | [],o,w,C,h,hl=>⟨C,h,by simp [splice]⟩
 | v::r,o,w,C,h,hl=>by
   simp only [List.length_cons] at hl
   have h1:(w.setCell ⟨b,o,none⟩ v).heap[b]? = some (.cells (C.setIfInBounds o v) et fr):=by
    simp [World.setCell,Array.getElem?_modify,h]
   obtain ⟨C',h2,h3⟩:=iD r (o+1) _ _ h1 (by simp; omega)
   refine ⟨C',by rw [World.setCells]; exact h2,?_⟩
   rw [h3,Array.toList_setIfInBounds,wS _ _ _ _ (by simp; omega)]
theorem heap_setCells_other {b k:Nat} (h:k≠b):∀ (vs:List Value) (o:Nat) (w:World),(w.setCells b o vs).heap[k]? = w.heap[k]?
 | [],_,_=>rfl
 | v::r,o,w=>by
   rw [World.setCells,heap_setCells_other h r]
   simp only [World.setCell,Array.getElem?_modify]
   rw [if_neg (by omega)]
theorem size_setCells (b:Nat):∀ (vs:List Value) (o:Nat) (w:World),(w.setCells b o vs).heap.size=w.heap.size
 | [],_,_=>rfl
 | v::r,o,w=>by rw [World.setCells,size_setCells b r]; simp
theorem sA (b:Nat):∀ (vs:List Value) (o:Nat) (w:World),(w.setCells b o vs).os=w.os∧(w.setCells b o vs).tape=w.tape∧(w.setCells b o vs).output=w.output
 | [],_,_=>⟨rfl,rfl,rfl⟩
 | v::r,o,w=>by rw [World.setCells]; exact sA b r (o+1) _
theorem iZ (b:Nat):∀ (vs:List Value) (o:Nat) (w:World) (k:Nat),(w.setCells b o vs).shape? k=w.shape? k
 | [],_,_,_=>rfl
 | v::r,o,w,k=>by
   rw [World.setCells,iZ b r]
   simp only [World.setCell,World.shape?,Array.getElem?_modify]
   by_cases hb:b=k
   ·subst hb
    simp only [if_true]
    cases w.heap[b]? with
    | none=>rfl
    | some x=>cases x <;> simp
   ·rw [if_neg hb]
theorem fH (w:World) (o:Obj) (k:Nat) (h:k<w.heap.size):(w.alloc o).heap[k]? = w.heap[k]?:=by
 show (w.heap.push o)[k]? = _
 rw [Array.getElem?_push,if_neg (by omega)]
theorem ee (w:World) (o:Obj):(w.alloc o).heap[w.heap.size]? = some o:=by
 show (w.heap.push o)[w.heap.size]? = _
 rw [Array.getElem?_push,if_pos rfl]
theorem HW {w:World} {b:Nat} {x:Obj} (h:w.heap[b]? = some x):b<w.heap.size:=(Array.getElem?_eq_some_iff.1 h).1
section
variable {G:Nat→Option (List DV)} {J J':Nat→Prop} {w w':World} {ι ι':Nat→Nat→Option Nat} {obj obj':Nat→cF}
theorem aI.nr (S:aI G J w ι obj) {b:Nat} (h:Own ι obj b):b<w.heap.size:=by
 obtain ⟨o,ho⟩:=h
 obtain ⟨x,hh,_⟩:=(S.rep o).vQ ho
 exact HW hh
theorem nI.keep (S:aI G J w ι obj) (E:Ev (Own ι obj) J J' ι ι' w w') {o:Nat} (hk:∀ n,ι' o n=ι o n) (hb:∀ b,(obj o).own ι o b→w'.heap[b]? = w.heap[b]?):nI J' w' ι' o (obj o):=by
 have h:=S.rep o
 cases hs:obj o with
 | free=>rw [hs] at h; intro n; rw [hk]; exact h n
 | dead=>trivial
 | live ob=>
   rw [hs] at h hb
   obtain ⟨h,hkey⟩:=h
   cases ob with
   | box et cells=>
     obtain ⟨b,C,h1,h2,h3⟩:=h
     exact ⟨⟨b,C,by rw [hk]; exact h1,by rw [hb b h1]; exact h2,h3.ev S E⟩,trivial⟩
   | dat et aS rows=>
     obtain ⟨h1,h2⟩:=h
     refine ⟨⟨by rw [hk]; exact h1,fun b hb'=>?_⟩,fun n hn=>by rw [hk]; exact hkey n hn⟩
     rw [hk] at hb'
     obtain ⟨⟨C,h3⟩,h4⟩:=h2 b hb'
     exact ⟨⟨C,by rw [hb b hb']; exact h3⟩,h4.ev S E (hb b hb')⟩
   | kW et aS rows=>
     obtain ⟨h1,h2⟩:=h
     refine ⟨⟨by rw [hk]; exact h1,fun b hb'=>?_⟩,trivial⟩
     rw [hk] at hb'
     obtain ⟨h3,h4⟩:=h2 b hb'
     exact ⟨E.iB b h3,h4.ev S E (S.same E b h3)⟩
   | mp es=>
     obtain ⟨b,C,c,h1,h2,h3⟩:=h
     exact ⟨⟨b,C,c,by rw [hk]; exact h1,by rw [hb b h1]; exact h2,h3.ev S E⟩,trivial⟩
theorem cF.lS {o:Nat} {s:cF} (hk:∀ n,ι' o n=ι o n) {b:Nat} : s.own ι' o b↔s.own ι o b:=by
 cases s with
 | free=>exact Iff.rfl
 | dead=>exact Iff.rfl
 | live ob=>cases ob <;> simp only [cF.own,aH.own,hk]
theorem aI.tV (S:aI G J w ι obj) (o0:Nat) (s:cF) (E:Ev (Own ι obj) J J ι ι' w w') (hk:∀ o,o≠o0→∀ n,ι' o n=ι o n)
  (hb:∀ b,b<w.heap.size→¬ (obj o0).own ι o0 b→w'.heap[b]? = w.heap[b]?)
  (hs:nI J w' ι' o0 s) (hown:∀ b,s.own ι' o0 b→(obj o0).own ι o0 b∨w.heap.size≤b) :
  aI G J w' ι' (fun o=>if o=o0 then s else obj o)∧Ext obj (fun o=>if o=o0 then s else obj o) J J ι ι' w w':=by
 have hO:∀ o b,(if o=o0 then s else obj o).own ι' o b→(o=o0∧s.own ι' o0 b)∨(o≠o0∧(obj o).own ι o b):=by
  intro o b h
  by_cases ho:o=o0
  ·subst ho; rw [if_pos rfl] at h; exact .inl ⟨rfl,h⟩
  ·rw [if_neg ho] at h; exact .inr ⟨ho,(cF.lS (hk o ho)).1 h⟩
 have hlt:∀ o b,(obj o).own ι o b→b<w.heap.size:=fun o b h=>S.nr ⟨o,h⟩
 refine ⟨⟨?_,?_,?_,?_,?_⟩,⟨E,?_⟩⟩
 ·intro o
  by_cases ho:o=o0
  ·subst ho; rw [if_pos rfl]; exact hs
  ·rw [if_neg ho]
   exact nI.keep S E (hk o ho) (fun b h=>hb b (hlt o b h) (fun h'=>ho (S.inj o o0 b h h')))
 ·intro o o' b h h'
  rcases hO o b h with ⟨e1,k⟩ | ⟨ho,k⟩ <;> rcases hO o' b h' with ⟨e2,k'⟩ | ⟨ho',k'⟩
  ·rw [e1,e2]
  ·rw [e1]
   rcases hown b k with h2 | h2
   ·exact S.inj _ _ _ h2 k'
   ·have:=hlt _ _ k'; omega
  ·rw [e2]
   rcases hown b k' with h2 | h2
   ·exact S.inj _ _ _ k h2
   ·have:=hlt _ _ k; omega
  ·exact S.inj _ _ _ k k'
 ·intro o b h hj
  rcases hO o b h with ⟨rfl,h⟩ | ⟨ho,h⟩
  ·rcases hown b h with h2 | h2
   ·exact S.sn _ _ h2 hj
   ·have:=S.Ez b hj; omega
  ·exact S.sn _ _ h hj
 ·intro b hj; rw [S.same E b hj]; exact S.jcell b hj
 ·intro g row hg
  obtain ⟨h1,h2,t,h3⟩:=S.xV g row hg
  exact ⟨h1,h2.ev S E h1,t,by rw [E.shape g (S.Ez g h1)]; exact h3⟩
 ·rintro b ⟨o,h⟩
  rcases hO o b h with ⟨rfl,h⟩ | ⟨ho,h⟩
  ·exact (hown b h).imp (fun h=>⟨_,h⟩) id
  ·exact .inl ⟨o,h⟩
theorem Ev.alloc (W J:Nat→Prop) (w:World) (n:Nat) (x:Obj) (hi:∀ o n b,ι o n=some b→ι' o n=some b):Ev W J J ι ι' w ({ w with drawn:=n }.alloc x):=by
 refine ⟨rfl,rfl,rfl,by simp,fun b hb _=>?_,fun b hb=>?_,fun _ h=>h,fun _ h=>.inl h,hi⟩
 ·exact fH { w with drawn:=n } x b hb
 ·exact bJ (fH { w with drawn:=n } x b hb)
theorem Ev.setCells (J:Nat→Prop) (w:World) (b o:Nat) (vs:List Value) (hw:Own ι obj b) (hi:∀ o n b,ι o n=some b→ι' o n=some b):Ev (Own ι obj) J J ι ι' w (w.setCells b o vs):=by
 obtain ⟨h1,h2,h3⟩:=sA b vs o w
 refine ⟨h1,h2,h3,by rw [size_setCells]; exact Nat.le_refl _,fun k hk hn=>?_,fun k hk=>iZ b vs o w k,fun _ h=>h,fun _ h=>.inl h,hi⟩
 exact heap_setCells_other (fun e=>hn (by rw [e]; exact hw)) vs o w
end
section
variable {J:Nat→Prop} {w:World} {ι:Nat→Nat→Option Nat}
theorem cu.length:∀ {xs:List LV} {vs:List Value},cu J w ι xs vs→xs.length=vs.length
 | [],[],_=>rfl
 | x::xs,v::vs,h=>by simp [cu.length h.2]
 | [],_::_,h=>h.elim
 | _::_,[],h=>h.elim
theorem bM.length:∀ {xs:List LV} {vs:List Value},bM J w ι xs vs→xs.length=vs.length
 | [],[],_=>rfl
 | x::xs,v::vs,h=>by simp [bM.length h.2.2]
 | [],_::_,h=>h.elim
 | _::_,[],h=>h.elim
theorem bM.get:∀ {xs:List LV} {vs:List Value} {i:Nat} {x:LV},bM J w ι xs vs→xs[i]? = some x→∃ v,vs[i]? = some v∧v.oneCell'=true∧dm J w ι x v
 | [],[],i,x,_,h=>by simp at h
 | y::xs,v::vs,0,x,h,hx=>by simp at hx; subst hx; exact ⟨v,by simp,h.1,h.2.1⟩
 | y::xs,v::vs,i+1,x,h,hx=>by simpa using bM.get h.2.2 (by simpa using hx)
 | [],_::_,_,_,h,_=>h.elim
 | _::_,[],_,_,h,_=>h.elim
theorem cu.get:∀ {xs:List LV} {vs:List Value} {i:Nat} {x:LV},cu J w ι xs vs→xs[i]? = some x→∃ v,vs[i]? = some v∧dm J w ι x v
 | [],[],i,x,_,h=>by simp at h
 | y::xs,v::vs,0,x,h,hx=>by simp at hx; subst hx; exact ⟨v,by simp,h.1⟩
 | y::xs,v::vs,i+1,x,h,hx=>by simpa using cu.get h.2 (by simpa using hx)
 | [],_::_,_,_,h,_=>h.elim
 | _::_,[],_,_,h,_=>h.elim
theorem bM.one:∀ {xs:List LV} {vs:List Value},bM J w ι xs vs→∀ v∈vs,v.oneCell'=true
 | [],[],_,v,h=>by cases h
 | x::xs,y::vs,h,v,hv=>by
   rcases List.mem_cons.1 hv with rfl | hv
   ·exact h.1
   ·exact bM.one h.2.2 v hv
 | [],_::_,h,_,_=>h.elim
 | _::_,[],h,_,_=>h.elim
theorem bM.append:∀ {xs ys:List LV} {vs us:List Value},bM J w ι xs vs→bM J w ι ys us→bM J w ι (xs++ys) (vs++us)
 | [],ys,[],us,_,h=>h
 | x::xs,ys,v::vs,us,h,k=>⟨h.1,h.2.1,bM.append h.2.2 k⟩
 | [],_,_::_,_,h,_=>h.elim
 | _::_,_,[],_,h,_=>h.elim
theorem bM.take:∀ (n:Nat) {xs:List LV} {vs:List Value},bM J w ι xs vs→bM J w ι (xs.take n) (vs.take n)
 | 0,_,_,_=>by simp [bM]
 | n+1,[],[],_=>by simp [bM]
 | n+1,x::xs,v::vs,h=>by simpa [bM] using ⟨h.1,h.2.1,bM.take n h.2.2⟩
 | _+1,[],_::_,h=>h.elim
 | _+1,_::_,[],h=>h.elim
theorem bM.drop:∀ (n:Nat) {xs:List LV} {vs:List Value},bM J w ι xs vs→bM J w ι (xs.drop n) (vs.drop n)
 | 0,_,_,h=>by simpa using h
 | n+1,[],[],_=>by simp [bM]
 | n+1,x::xs,v::vs,h=>by simpa using bM.drop n h.2.2
 | _+1,[],_::_,h=>h.elim
 | _+1,_::_,[],h=>h.elim
theorem bM.splice {xs ys:List LV} {vs us:List Value} (o:Nat) (h:bM J w ι xs vs) (k:bM J w ι ys us):bM J w ι (splice xs o ys) (splice vs o us):=by
 unfold Dv.splice
 rw [k.length]
 exact (bM.append (bM.append (h.take o) k) (h.drop _))
theorem bM.A_:∀ {xs:List LV} {vs:List Value},bM J w ι xs vs→cu J w ι xs vs
 | [],[],_=>trivial
 | x::xs,v::vs,h=>⟨h.2.1,bM.A_ h.2.2⟩
 | [],_::_,h=>h.elim
 | _::_,[],h=>h.elim
theorem bM.ofL:∀ {xs:List LV} {vs:List Value},cu J w ι xs vs→(∀ v∈vs,v.oneCell'=true)→bM J w ι xs vs
 | [],[],_,_=>trivial
 | x::xs,v::vs,h,k=>⟨k v (by simp),h.1,bM.ofL h.2 (fun u hu=>k u (by simp [hu]))⟩
 | [],_::_,h,_=>h.elim
 | _::_,[],h,_=>h.elim
theorem bA.A_:∀ {xs:List DV} {vs:List Value},bA J w xs vs→cu J w ι (xs.map .d) vs
 | [],[],_=>trivial
 | x::xs,v::vs,h=>⟨h.1,bA.A_ h.2⟩
 | [],_::_,h=>h.elim
 | _::_,[],h=>h.elim
theorem dI.get {b:Nat} : ∀ {xs:List DV} {off i:Nat} {x:DV},dI J w xs b off→xs[i]? = some x→∃ v,w.cell? ⟨b,off+i,none⟩=some v∧v.oneCell'=true∧iH J w x v
 | [],off,i,x,_,h=>by simp at h
 | y::xs,off,0,x,h,hx=>by simp at hx; subst hx; exact h.1
 | y::xs,off,i+1,x,h,hx=>by
   have:=dI.get h.2 (by simpa using hx:xs[i]? = some x)
   rwa [show off+(i+1)=off+1+i by omega]
theorem dI.drop {b:Nat} : ∀ (n:Nat) {xs:List DV} {off:Nat},dI J w xs b off→dI J w (xs.drop n) b (off+n)
 | 0,_,_,h=>by simpa using h
 | n+1,[],_,_=>by simp [dI]
 | n+1,x::xs,off,h=>by
   have:=dI.drop n h.2
   rw [show off+(n+1)=off+1+n by omega]
   simpa using this
theorem dI.take {b:Nat} : ∀ (n:Nat) {xs:List DV} {off:Nat},dI J w xs b off→dI J w (xs.take n) b off
 | 0,_,_,h=>by simp [dI]
 | n+1,[],_,_=>by simp [dI]
 | n+1,x::xs,off,h=>by simpa [dI] using ⟨h.1,dI.take n h.2⟩
theorem dI.append {b:Nat} : ∀ {xs ys:List DV} {off:Nat},dI J w xs b off→dI J w ys b (off+xs.length)→dI J w (xs++ys) b off
 | [],ys,off,_,h=>by simpa using h
 | x::xs,ys,off,h,k=>⟨h.1,dI.append h.2 (by rw [show off+1+xs.length=off+(xs.length+1) by omega]; exact k)⟩
theorem dI.vals {b:Nat} : ∀ {xs:List DV} {off:Nat},dI J w xs b off→∃ vs:List Value,bA J w xs vs∧(∀ v∈vs,v.oneCell'=true)∧w.rangeAt b off vs
 | [],off,_=>⟨[],trivial,by simp,fun j v h=>by simp at h⟩
 | x::xs,off,h=>by
   obtain ⟨⟨v,h1,h2,h3⟩,hr⟩:=h
   obtain ⟨vs,k1,k2,k3⟩:=dI.vals hr
   refine ⟨v::vs,⟨h3,k1⟩,by simpa [h2] using k2,fun j u hu=>?_⟩
   cases j with
   | zero=>simp at hu; subst hu; simpa using h1
   | succ j=>have:=k3 j u (by simpa using hu); rwa [show off+(j+1)=off+1+j by omega]
theorem dI.of {b:Nat} : ∀ {xs:List DV} {vs:List Value} {off:Nat},bA J w xs vs→(∀ v∈vs,v.oneCell'=true)→w.rangeAt b off vs→dI J w xs b off
 | [],[],off,_,_,_=>trivial
 | x::xs,v::vs,off,h,k,r=>by
   refine ⟨⟨v,by simpa using r 0 v (by simp),k v (by simp),h.1⟩,dI.of h.2 (fun u hu=>k u (by simp [hu])) (fun j u hu=>?_)⟩
   have:=r (j+1) u (by simpa using hu)
   rwa [show off+(j+1)=off+1+j by omega] at this
 | [],_::_,_,h,_,_=>h.elim
 | _::_,[],_,h,_,_=>h.elim
theorem bA.length:∀ {xs:List DV} {vs:List Value},bA J w xs vs→xs.length=vs.length
 | [],[],_=>rfl
 | x::xs,v::vs,h=>by simp [bA.length h.2]
 | [],_::_,h=>h.elim
 | _::_,[],h=>h.elim
theorem bF.get {b aS:Nat} : ∀ {rs:List (List DV)} {off i:Nat} {r:List DV},bF J w aS rs b off→rs[i]? = some r→r.length=aS∧dI J w r b (off+i*aS)
 | [],off,i,x,_,h=>by simp at h
 | y::xs,off,0,x,h,hx=>by simp at hx; subst hx; simpa using ⟨h.1,h.2.1⟩
 | y::xs,off,i+1,x,h,hx=>by
   have:=bF.get h.2.2 (by simpa using hx:xs[i]? = some x)
   rwa [show off+(i+1)*aS=off+aS+i*aS by rw [Nat.add_mul]; omega]
theorem bF.of {b aS:Nat} : ∀ {rs:List (List DV)} {off:Nat},(∀ i r,rs[i]? = some r→r.length=aS∧dI J w r b (off+i*aS))→bF J w aS rs b off
 | [],_,_=>trivial
 | r::rs,off,h=>by
   have h0:=h 0 r (by simp)
   refine ⟨h0.1,by simpa using h0.2,bF.of (fun i x hx=>?_)⟩
   have:=h (i+1) x (by simpa using hx)
   rwa [show off+(i+1)*aS=off+aS+i*aS by rw [Nat.add_mul]; omega] at this
theorem bF.drop {b aS:Nat} : ∀ (n:Nat) {rs:List (List DV)} {off:Nat},bF J w aS rs b off→bF J w aS (rs.drop n) b (off+n*aS)
 | 0,_,_,h=>by simpa using h
 | n+1,[],_,_=>by simp [bF]
 | n+1,x::xs,off,h=>by
   have:=bF.drop n h.2.2
   rw [show off+(n+1)*aS=off+aS+n*aS by rw [Nat.add_mul]; omega]
   simpa using this
theorem bF.take {b aS:Nat} : ∀ (n:Nat) {rs:List (List DV)} {off:Nat},bF J w aS rs b off→bF J w aS (rs.take n) b off
 | 0,_,_,h=>by simp [bF]
 | n+1,[],_,_=>by simp [bF]
 | n+1,x::xs,off,h=>by simpa [bF] using ⟨h.1,h.2.1,bF.take n h.2.2⟩
theorem aI.freeze {G:Nat→Option (List DV)} {obj:Nat→cF} (S:aI G J w ι obj) {o et aS:Nat} {rows:List (List DV)} (ho:obj o=.live (.dat et aS rows)) :
  aI G (fun b=>J b∨ι o rows.length=some b) w ι (fun k=>if k=o then .live (.kW et aS rows) else obj k)∧Ext obj (fun k=>if k=o then .live (.kW et aS rows) else obj k) J (fun b=>J b∨ι o rows.length=some b) ι ι w w:=by
 have hown:∀ b,ι o rows.length=some b→(obj o).own ι o b:=fun b h=>by rw [ho]; exact h
 have E:Ev (Own ι obj) J (fun b=>J b∨ι o rows.length=some b) ι ι w w:=⟨rfl,rfl,rfl,Nat.le_refl _,fun _ _ _=>rfl,fun _ _=>rfl,fun _ h=>.inl h,fun b h=>h.elim .inl (fun h=>.inr (.inr ⟨o,hown b h⟩)),fun _ _ _ h=>h⟩
 have hO:∀ k b,(if k=o then cF.live (.kW et aS rows) else obj k).own ι k b→k≠o∧(obj k).own ι k b:=by
  intro k b h
  by_cases hk:k=o
  ·rw [if_pos hk] at h; exact h.elim
  ·rw [if_neg hk] at h; exact ⟨hk,h⟩
 have hr:=S.rep o
 rw [ho] at hr
 refine ⟨⟨?_,?_,?_,?_,?_⟩,⟨E,?_⟩⟩
 ·intro k
  by_cases hk:k=o
  ·subst hk; rw [if_pos rfl]
   exact ⟨⟨hr.1.1,fun b hb=>⟨.inr hb,bF.mono (fun _ h=>.inl h) (fun _ _=>rfl) _ _ _ _ rfl (hr.1.2 b hb).2⟩⟩,trivial⟩
  ·rw [if_neg hk]; exact nI.keep S E (fun _=>rfl) (fun _ _=>rfl)
 ·intro k k' b h h'; exact S.inj k k' b (hO k b h).2 (hO k' b h').2
 ·intro k b h hj
  obtain ⟨hk,h⟩:=hO k b h
  rcases hj with hj | hj
  ·exact S.sn _ _ h hj
  ·exact hk (S.inj k o b h (hown b hj))
 ·intro b hj
  rcases hj with hj | hj
  ·exact S.jcell b hj
  ·obtain ⟨C,hC⟩:=(hr.1.2 b hj).1
   exact ⟨C,_,_,hC⟩
 ·intro g row hg
  obtain ⟨h1,h2,t,h3⟩:=S.xV g row hg
  exact ⟨.inl h1,dI.mono (fun _ h=>.inl h) (fun _ _=>rfl) _ _ _ rfl h2,t,h3⟩
 ·rintro b ⟨k,h⟩
  exact .inl ⟨k,(hO k b h).2⟩
theorem Lq {G:Nat→Option (List DV)} {obj:Nat→cF} (S:aI G J w ι obj) {o et e lo len:Nat} {rows:List (List DV)} (ho:obj o=.live (.dat et e rows)) (hle:lo+len≤rows.length) {v:Value} (hv:dm J w ι (.sl o rows.length e lo len) v) :
  iH (fun b=>J b∨ι o rows.length=some b) w (.dH e ((rows.drop lo).take len)) v∧v.cells=#[v]∧v.oneCell'=true:=by
 have gh:=S.rep o
 rw [ho] at gh
 obtain ⟨⟨_,hd⟩,_⟩:=gh
 have we:((rows.drop lo).take len).length=len:=by simp; omega
 rcases hv with ⟨rfl,a,rfl⟩ | ⟨b,cap,et',C,hb,rfl,hcap,_⟩
 ·exact ⟨⟨a,0,0,rfl,by simp,Nat.le_refl _,.inl (by simp)⟩,rfl,rfl⟩
 ·obtain ⟨_,hrows⟩:=hd b hb
  have:=bF.mono (J':=fun b=>J b∨ι o rows.length=some b) (w':=w) (fun b h=>.inl h) (fun _ _=>rfl) e _ _ _ rfl ((hrows.drop lo).take len)
  exact ⟨⟨_,len,cap,rfl,we.symm,hcap,.inr ⟨b,lo*e,rfl,.inr hb,by simpa using this⟩⟩,rfl,rfl⟩
theorem bF.append {b aS:Nat} : ∀ {xs ys:List (List DV)} {off:Nat},bF J w aS xs b off→bF J w aS ys b (off+xs.length*aS)→bF J w aS (xs++ys) b off
 | [],ys,off,_,h=>by simpa using h
 | x::xs,ys,off,h,k=>⟨h.1,h.2.1,bF.append h.2.2 (by rw [show off+aS+xs.length*aS=off+(xs.length+1)*aS by rw [Nat.add_mul]; omega]; exact k)⟩
theorem bF.flat {b aS:Nat} : ∀ {rs:List (List DV)} {off:Nat},bF J w aS rs b off→dI J w rs.flatten b off∧rs.flatten.length=rs.length*aS
 | [],_,_=>⟨trivial,by simp⟩
 | r::rs,off,h=>by
   obtain ⟨k1,k2⟩:=bF.flat h.2.2
   refine ⟨?_,by simp [k2,h.1,Nat.add_mul]; omega⟩
   simp only [List.flatten_cons]
   exact dI.append h.2.1 (by rw [h.1]; exact k1)
theorem bF.Da {b aS:Nat} : ∀ {rs:List (List DV)} {off:Nat},(∀ r∈rs,r.length=aS)→dI J w rs.flatten b off→bF J w aS rs b off
 | [],_,_,_=>trivial
 | r::rs,off,hl,h=>by
   simp only [List.flatten_cons] at h
   have hr:=hl r (by simp)
   have h1:=h.take r.length
   have h2:=h.drop r.length
   simp only [List.take_left,List.drop_left] at h1 h2
   rw [hr] at h2
   exact ⟨hr,h1,bF.Da (fun x hx=>hl x (by simp [hx])) h2⟩
end
end Dv
namespace Dv
open Go
def Pe:Value→Option DV
 | .agg cs=>if cs.all (·.oneCell') then some (.agg (cs.toList.map .val)) else none
 | v=>some (.val v)
def aM:Operand→Option bU
 | .tmp t=>some (.t t)
 | .const v=>match Pe v with
   | some x=>some (.c x)
   | none=>none
 | .global g=>some (.g g)
 | .func f=>some (.f f)
def dU:List Operand→Option (List bU)
 | []=>some []
 | x::xs=>match aM x,dU xs with
   | some x,some xs=>some (x::xs)
   | _,_=>none
def fJ:Option Operand→Option (Option bU)
 | none=>some none
 | some x=>match aM x with
   | some y=>some (some y)
   | none=>none
def Su:Operand→Bool
 | .const (.pointer none)=>true
 | _=>false
def Ss:Operand→Bool
 | .const (.slice none 0 0)=>true
 | _=>false
def dS (P:Program) (t:TypeId):Option Nat:=match P.info? t with
 | some i=>some i.size
 | none=>none
def og (P:Program) (t:TypeId):Option Bool:=match P.underlying t with
 | some (.struct _)=>some true
 | some (.array _ _)=>some true
 | some _=>some false
 | none=>none
def pT (P:Program) (t:TypeId):Option (List DV):=match P.info? t with
 | some i=>match i.zero with
   | some z=>if z.cells.all (·.oneCell') then some (z.cells.toList.map .val) else none
   | none=>none
 | none=>none
def yo (P:Program) (fs:Array Field):List (Nat×Operand)→Option (List (Nat×Nat×bU))
 | []=>some []
 | (i,x)::rest=>match fs[i]?,aM x,yo P fs rest with
   | some f,some x,some r=>match dS P f.type with
     | some n=>some ((f.offset,n,x)::r)
     | none=>none
   | _,_,_=>none
def xD (P:Program) (t:TypeId):Option (Nat×Nat):=match P.info? t with
 | some i=>match i.zero with
   | some z=>if z.cells.size=i.size∧0<i.bytes∧0<i.size then some (i.size,i.bytes) else none
   | none=>none
 | none=>none
def NR (P:Program) (t:TypeId):Bool:=match P.underlying t with
 | some (.slice _)=>true
 | some .string=>true
 | _=>false
def zV (P:Program) (t:TypeId):Option Nat:=match P.underlying t with
 | some (.int _)=>some 0
 | some .bool=>some 1
 | some .string=>some 2
 | _=>none
def zU (P:Program):Nat→List Field→Option (List Nat)
 | _,[]=>some []
 | i,f::fs=>match zV P f.type,zU P (i+1) fs with
   | some k,some ks=>if f.offset=i∧f.name≠ "_" then some (k::ks) else none
   | _,_=>none
def vX (P:Program):Nat→List Field→Option (List Nat)
 | _,[]=>some []
 | i,f::fs=>if f.offset=i∧f.name≠ "_" then (match zV P f.type with
   | some k=>(match vX P (i+1) fs with
     | some ks=>some (k::ks)
     | none=>none)
   | none=>(match P.underlying f.type with
     | some (.struct gs)=>(match zU P 0 gs.toList with
       | some ls=>if P.stoodInHeld f.type=false∧dS P f.type=some ls.length∧og P f.type=some true then (match vX P (i+ls.length) fs with
         | some ks=>some (ls++ks)
         | none=>none) else none
       | none=>none)
     | _=>none)) else none
def eqT (P:Program) (t:TypeId):Option (List Nat):=match P.underlying t with
 | some (.struct fs)=>if P.stoodInHeld t=false∧P.eqGuardType P.depth t=false then vX P 0 fs.toList else none
 | _=>none
def Gl (P:Program) (fs:Array Field):Bool:=fs.toList.all fun f=>(dS P f.type).isSome
def yp (n:Nat):List (Nat×Operand)→Option (List (Nat×Nat×bU))
 | []=>some []
 | (i,x)::rest=>match aM x,yp n rest with
   | some x,some r=>some ((i*n,n,x)::r)
   | _,_=>none
def cN (P:Program):Op→Option I
 | .move x=>match aM x with | some x=>some (.mv x) | none=>none
 | .assign x=>match aM x with | some x=>some (.mv x) | none=>none
 | .pick c a b=>match aM c,aM a,aM b with | some c,some a,some b=>some (.pick c a b) | _,_,_=>none
 | .alloc T=>match pT P T with | some z=>some (.new T z) | none=>none
 | .box T x=>match aM x with | some x=>some (.box T x) | none=>none
 | .load T x=>match aM x,og P T,dS P T with
   | some x,some true,some n=>some (.Bi n x)
   | some x,some false,some _=>some (.ld1 x)
   | _,_,_=>none
 | .store T x y=>match aM x,aM y,dS P T with | some x,some y,some n=>some (.st n x y) | _,_,_=>none
 | .nilCheck x=>match aM x with | some x=>some (.kT x) | none=>none
 | .binOp op T X Y _=>match aM X,aM Y with
   | some x,some y=>match P.underlying T,op with
     | some .bool,.eql=>some (.eqb false x y)
     | some .bool,.neq=>some (.eqb true x y)
     | some (.int _),op=>some (.bin op x y)
     | some .string,op=>some (.bin op x y)
     | some (.struct _),.eql=>match eqT P T with | some ks=>some (.eqs false ks x y) | none=>none
     | some (.struct _),.neq=>match eqT P T with | some ks=>some (.eqs true ks x y) | none=>none
     | some (.pointer _),.eql=>if Su Y then some (.Mj false x) else none
     | some (.pointer _),.neq=>if Su Y then some (.Mj true x) else none
     | some (.slice _),.eql=>if Ss Y then some (.Mi false x) else none
     | some (.slice _),.neq=>if Ss Y then some (.Mi true x) else none
     | _,_=>none
   | _,_=>none
 | .unOp .neg _ x=>match aM x with | some x=>some (.neg x) | none=>none
 | .unOp .not _ x=>match aM x with | some x=>some (.not x) | none=>none
 | .convert S T x=>match aM x,P.underlying S,P.underlying T with | some x,some (.int _),some (.int k)=>some (.cvt k x) | _,_,_=>none
 | .fieldAddr T x f=>match aM x,P.underlying T with
   | some x,some (.struct fs)=>match fs[f]? with
     | some f=>match dS P f.type with
       | some (_+1)=>some (.eO f.offset x)
       | _=>none
     | none=>none
   | _,_=>none
 | .field T x f=>match aM x,P.underlying T with
   | some x,some (.struct fs)=>match fs[f]? with
     | some f=>match og P f.type,dS P f.type with
       | some true,some n=>some (.Vr f.offset n x)
       | some false,some _=>some (.MB f.offset x)
       | _,_=>none
     | none=>none
   | _,_=>none
 | .indexAddr T x i=>match aM x,aM i,P.underlying T with
   | some x,some i,some (.slice e)=>match dS P e with | some n=>some (.A3 n x i) | none=>none
   | some x,some i,some (.array len e)=>match dS P e with | some n=>some (.ixr len n x i) | none=>none
   | _,_,_=>none
 | .index T x i=>match aM x,aM i,P.underlying T with
   | some x,some i,some (.array len e)=>match og P e,dS P e with | some false,some 1=>some (.ix1 len x i) | some true,some n=>some (.ixn len n x i) | _,_=>none
   | some x,some i,some .string=>some (.ixs x i)
   | _,_,_=>none
 | .makeFunc f a b=>match dU a.toList,dU b.toList with | some a,some b=>some (.mkf f a b) | _,_=>none
 | .extract x i=>match aM x with | some x=>some (.ext x i) | none=>none
 | .call ⟨.builtin .len,args,ts⟩=>match args.toList,ts[0]? with
   | [x],some T=>match aM x,P.underlying T with
     | some x,some .string=>some (.lens x)
     | some x,some (.slice _)=>some (.len x)
     | _,_=>none
   | _,_=>none
 | .call ⟨.builtin .append,args,ts⟩=>match args.toList,ts.toList with
   | [x,y],[tx,ty]=>match aM x,aM y,P.underlying tx,NR P ty with
     | some x,some y,some (.slice e),true=>match xD P e with | some (n,b)=>some (.app e n b x y) | none=>none
     | _,_,_,_=>none
   | _,_=>none
 | .build T parts=>match pT P T,P.underlying T with
   | some z,some (.struct fs)=>if Gl P fs then (match yo P fs parts.toList with | some ps=>some (.build z ps) | none=>none) else none
   | some z,some (.array _ e)=>match dS P e with
     | some n=>match yp n parts.toList with | some ps=>some (.build z ps) | none=>none
     | none=>none
   | _,_=>none
 | .buildSlice T n parts=>match P.underlying T with
   | some (.slice e)=>match xD P e,dU (parts.toList.map (·.2)) with
     | some (size,_),some xs=>if n*size≤16777216∧parts.toList.map (·.1)=List.range n then some (.YQ e size xs) else none
     | _,_=>none
   | _=>none
 | .call ⟨.builtin .min,args,ts⟩=>match args.toList with
   | [x,y]=>match aM x,aM y with | some x,some y=>some (.min x y) | _,_=>none
   | _=>none
 | .call ⟨.builtin .max,args,ts⟩=>match args.toList with
   | [x,y]=>match aM x,aM y with | some x,some y=>some (.max x y) | _,_=>none
   | _=>none
 | .slice T x lo hi mx=>match aM x,fJ lo,fJ hi,fJ mx,P.underlying T with
   | some x,some lo',some hi',some mx',some (.slice e)=>match dS P e with | some n=>if mx.isNone||hi.isSome then some (.sli n x lo' hi' mx') else none | none=>none
   | some x,some lo,some hi,some none,some .string=>some (.sls x lo hi)
   | _,_,_,_,_=>none
 | .call ⟨.value f,args,ts⟩=>match aM f,dU args.toList with | some f,some args=>some (.call f args) | _,_=>none
 | _=>none
def cM (P:Program) (o:Oper) (a:Act) (w:World) (post:Value→World→Prop):Prop:=
 ∀ next Q,(∀ v w',post v w'→next (a.put o.dst v) w')→o.wp P a w next Q
theorem cM.of_run {P:Program} {o:Oper} {a:Act} {w w':World} {v:Value} {post:Value→World→Prop} (h:(execOp a.eval o).run P w=.ok (.value v) w') (hp:post v w'):cM P o a w post:=
 fun next Q hn=>by unfold Oper.wp; rw [h]; exact hn v w' hp
theorem cM.yq {P:Program} {o:Oper} {a:Act} {w w':World} {post:Value→World→Prop} (h:(execOp a.eval o).run P w=.ok .skip w') (hp:post Go.undef w'):cM P o a w post:=
 fun next Q hn=>by unfold Oper.wp; rw [h]; exact hn _ w' hp
def cV:List (Nat×aH)→(Nat→cF)→Nat→cF
 | [],obj=>obj
 | (k,ob)::r,obj=>fun o=>if o=k then .live ob else cV r obj o
def qN:Nat→List aH→(Nat→cF)→Nat→cF
 | _,[],obj=>obj
 | k,ob::r,obj=>fun o=>if o=k then .live ob else qN (k+1) r obj o
def bL (obj:Nat→cF) (base:Nat) (e:fu):Nat→cF:=qN base e.nw (cV e.wr obj)
def bg (G:Nat→Option (List DV)) (obj obj':Nat→cF) (J:Nat→Prop) (ι:Nat→Nat→Option Nat) (w:World) (r:LV) (v:Value) (w':World):Prop:=
 ∃ J' ι',aI G J' w' ι' obj'∧dm J' w' ι' r v∧Ext obj obj' J J' ι ι' w w'
section
variable {P:Program} {G:Nat→Option (List DV)} {J:Nat→Prop} {w:World} {ι:Nat→Nat→Option Nat} {obj:Nat→cF} {a:Act} {get:Nat→LV} {base:Nat}
theorem bg.stay (S:aI G J w ι obj) {r:LV} {v:Value} (h:dm J w ι r v):bg G obj obj J ι w r v w:=⟨J,ι,S,h,Ext.refl ..⟩
theorem L4 {v:Value} {x:DV} (h:Pe v=some x):iH J w x v:=by
 cases v <;> simp only [Pe] at h <;> first
  | (cases h; rfl; done)
  | skip
 split at h
 ·rename_i cs hall
  cases h
  rw [Array.all_eq_true_iff_forall_mem] at hall
  refine ⟨cs,rfl,?_,fun v hv=>hall v (by simpa using hv)⟩
  have:∀ l:List Value,bA J w (l.map .val) l:=fun l=>by
   induction l with
   | nil=>trivial
   | cons y l ih=>exact ⟨rfl,ih⟩
  exact this _
 ·cases h
theorem bf (S:aI G J w ι obj) (he:∀ t,dm J w ι (get t) (a.tmps.getD t Go.undef)) {x:Operand} {y:bU} (h:aM x=some y):dm J w ι (y.ev G get) (a.eval x):=by
 cases x with
 | tmp t=>cases h; exact he t
 | const v=>
   simp only [aM] at h
   split at h
   ·rename_i x hx; cases h; exact L4 hx
   ·cases h
 | global g=>
   cases h
   simp only [bU.ev,Act.eval]
   cases hg:G g with
   | none=>trivial
   | some row=>obtain ⟨h1,h2,_⟩:=S.xV g row hg; exact ⟨g,0,h1,rfl,h2⟩
 | func f=>cases h; exact ⟨#[],#[],rfl,trivial,trivial⟩
theorem rJ (S:aI G J w ι obj) (he:∀ t,dm J w ι (get t) (a.tmps.getD t Go.undef)):∀ {xs:List Operand} {ys:List bU},dU xs=some ys→cu J w ι (ys.map (·.ev G get)) (xs.map a.eval)
 | [],ys,h=>by cases h; trivial
 | x::xs,ys,h=>by
   simp only [dU] at h
   split at h
   ·rename_i y ys' h1 h2; cases h; exact ⟨bf S he h1,rJ S he h2⟩
   ·cases h
theorem bA.xT {cs:List DV} {vs:List Value} (h:bA J w cs vs) (k:∀ v∈vs,v.oneCell'=true):bM J w ι (cs.map .d) vs:=bM.ofL h.A_ k
theorem oc {x:LV} {v:Value} {cs:List LV} (h:dm J w ι x v) (hc:x.cells=some cs):bM J w ι cs v.cells.toList:=by
 cases x with
 | top=>cases hc
 | dQ=>cases hc; obtain ⟨b,rfl⟩:=h; exact ⟨rfl,⟨b,rfl⟩,trivial⟩
 | d x=>
   cases x with
   | val u=>
     simp only [LV.cells] at hc
     split at hc
     ·rename_i h1
      cases hc
      have hv:v=u:=h
      subst hv
      have:v.cells=#[v]:=by cases v <;> first | rfl | (simp [Value.oneCell'] at h1; done)
      rw [this]
      exact ⟨h1,rfl,trivial⟩
     ·cases hc
   | dH aS rows=>cases hc; obtain ⟨a,n,cap,rfl,h⟩:=h; exact ⟨rfl,⟨a,n,cap,rfl,h⟩,trivial⟩
   | fn f fs cs=>cases hc; obtain ⟨f1,f2,rfl,h⟩:=h; exact ⟨rfl,⟨f1,f2,rfl,h⟩,trivial⟩
   | fW t y=>cases hc; obtain ⟨z,rfl,h⟩:=h; exact ⟨rfl,⟨z,rfl,h⟩,trivial⟩
   | agg ds=>
     simp only [LV.cells] at hc; cases hc
     obtain ⟨xs,rfl,h1,h2⟩:=h
     exact bA.xT h1 h2
 | ptr o c=>cases hc; obtain ⟨b,hb,rfl⟩:=h; exact ⟨rfl,⟨b,hb,rfl⟩,trivial⟩
 | mr o=>cases hc; obtain ⟨b,hb,rfl⟩:=h; exact ⟨rfl,⟨b,hb,rfl⟩,trivial⟩
 | rp o n e r c=>cases hc; obtain ⟨b,hb,rfl⟩:=h; exact ⟨rfl,⟨b,hb,rfl⟩,trivial⟩
 | ip r c=>cases hc; obtain ⟨b,off,hb,rfl,h⟩:=h; exact ⟨rfl,⟨b,off,hb,rfl,h⟩,trivial⟩
 | sl o n e l k=>
   cases hc
   have h':=h
   rcases h with ⟨_,a,rfl⟩ | ⟨b,cap,et,C,_,rfl,_⟩
   ·exact ⟨rfl,h',trivial⟩
   ·exact ⟨rfl,h',trivial⟩
 | fn f fs cs=>cases hc; obtain ⟨f1,f2,rfl,h⟩:=h; exact ⟨rfl,⟨f1,f2,rfl,h⟩,trivial⟩
 | agg cs=>cases hc; obtain ⟨xs,rfl,h⟩:=h; exact h
 | dJ vs=>cases hc
 | fW t y=>cases hc; obtain ⟨z,rfl,h⟩:=h; exact ⟨rfl,⟨z,rfl,h⟩,trivial⟩
 | yl o=>cases hc
theorem cr {t:TypeId} {n:Nat} (h:dS P t=some n):∃ i,P.info? t=some i∧i.size=n:=by
 unfold dS at h
 split at h
 ·rename_i i hi; cases h; exact ⟨i,hi,rfl⟩
 ·cases h
theorem vA {t:TypeId} {z:List DV} (h:pT P t=some z):∃ v:Value,(zeroValue t).run P w=.ok v w∧bM J w ι (z.map .d) v.cells.toList:=by
 unfold pT at h
 split at h
 ·rename_i i hi
  split at h
  ·rename_i v hv
   split at h
   ·rename_i hall
    cases h
    refine ⟨v,by simp [zeroValue,typeInfo,hi,hv],bA.xT ?_ ?_⟩
    ·have:∀ l:List Value,bA J w (l.map .val) l:=fun l=>by
      induction l with
      | nil=>trivial
      | cons y l ih=>exact ⟨rfl,ih⟩
     exact this _
    ·rw [Array.all_eq_true_iff_forall_mem] at hall
     exact fun v hv=>hall v (by simpa using hv)
   ·cases h
  ·cases h
 ·cases h
theorem mz {t:TypeId} {b:Bool} (h:og P t=some b):(isAgg t).run P w=.ok b w:=by
 unfold og at h
 unfold isAgg
 cases hu:P.underlying t with
 | none=>simp [hu] at h
 | some d=>
   rw [Sem.run_bind,run_underlying hu w]
   rw [hu] at h
   cases d <;> first | (cases h; rfl)
theorem bg.box (S:aI G J w ι obj) (hb:obj base=.free) (et:TypeId) (cells:List LV) (C:Array Value) (h:bM J w ι cells C.toList) :
  bg G obj (fun o=>if o=base then .live (.box et cells) else obj o) J ι w (.ptr base 0) (.pointer (some ⟨w.heap.size,0,none⟩)) (w.alloc (.cells C et)):=by
 have hfree:∀ n,ι base n=none:=by have:=S.rep base; rw [hb] at this; exact this
 let ι':Nat→Nat→Option Nat:=fun o n=>if o=base then (if n=0 then some w.heap.size else none) else ι o n
 have hi:∀ o n b,ι o n=some b→ι' o n=some b:=fun o n b eX=>by
  by_cases ho:o=base
  ·subst ho; rw [hfree] at eX; cases eX
  ·simp only [ι',if_neg ho]; exact eX
 have E:Ev (Own ι obj) J J ι ι' w (w.alloc (.cells C et)):=Ev.alloc _ _ w w.drawn _ hi
 have hT:=aI.tV S base (.live (.box et cells)) E (fun o ho n=>by simp only [ι',if_neg ho]) (fun b hlt _=>fH w _ b hlt)
  ⟨⟨w.heap.size,C,by simp [ι'],ee w _,h.ev S E⟩,trivial⟩ (fun b eX=>by
    have:ι' base 0=some b:=eX
    simp [ι'] at this; exact .inr (by omega))
 exact ⟨J,ι',hT.1,⟨w.heap.size,by simp [ι'],rfl⟩,hT.2⟩
theorem bg.dat (S:aI G J w ι obj) (hb:obj base=.free) (et:TypeId) (aS:Nat) (rows:List (List DV)) (C:Array Value) (n:Nat) (cap:Nat) (hcap:rows.length≤cap) (hC:cap*aS≤C.size)
  (h:∀ ι':Nat→Nat→Option Nat,Ev (Own ι obj) J J ι ι' w ({ w with drawn:=n }.alloc (.cells C et))→bF J ({ w with drawn:=n }.alloc (.cells C et)) aS rows w.heap.size 0) :
  bg G obj (fun o=>if o=base then .live (.dat et aS rows) else obj o) J ι w (.sl base rows.length aS 0 rows.length) (.slice (some ⟨w.heap.size,0,none⟩) rows.length cap) ({ w with drawn:=n }.alloc (.cells C et)):=by
 have hfree:∀ n,ι base n=none:=by have:=S.rep base; rw [hb] at this; exact this
 let ι':Nat→Nat→Option Nat:=fun o n=>if o=base then (if n=rows.length then some w.heap.size else none) else ι o n
 have hi:∀ o n b,ι o n=some b→ι' o n=some b:=fun o n b eX=>by
  by_cases ho:o=base
  ·subst ho; rw [hfree] at eX; cases eX
  ·simp only [ι',if_neg ho]; exact eX
 have E:Ev (Own ι obj) J J ι ι' w ({ w with drawn:=n }.alloc (.cells C et)):=Ev.alloc _ _ w n _ hi
 have hnew:({ w with drawn:=n }.alloc (.cells C et)).heap[w.heap.size]? = some (.cells C et (0,0)):=ee { w with drawn:=n } _
 have hT:=aI.tV S base (.live (.dat et aS rows)) E (fun o ho n=>by simp only [ι',if_neg ho]) (fun b hlt _=>fH { w with drawn:=n } _ b hlt)
  ⟨⟨.inr (by simp [ι']),fun b eX=>by
    simp [ι'] at eX; subst eX
    exact ⟨⟨C,hnew⟩,h ι' E⟩⟩,fun m hm=>by simp only [ι',if_true]; rw [if_neg (by omega)]⟩
  (fun b eX=>by
   have:ι' base rows.length=some b:=eX
   simp [ι'] at this; exact .inr (by omega))
 refine ⟨J,ι',hT.1,.inr ⟨w.heap.size,cap,et,C.size,by simp [ι'],by simp,hcap,?_,by simpa using hC⟩,hT.2⟩
 simp only [World.shape?,hnew]
theorem bg.y9 (S:aI G J w ι obj) {o:Nat} {et:TypeId} {cells cs:List LV} {vs:List Value} {col:Nat} (ho:obj o=.live (.box et cells)) (h:bM J w ι cs vs) (hl:col+cs.length≤cells.length) :
  ∃ b,ι o 0=some b∧w.there b col vs.length∧bg G obj (fun k=>if k=o then .live (.box et (splice cells col cs)) else obj k) J ι w .undef Go.undef (w.setCells b col vs):=by
 have h0:=S.rep o
 rw [ho] at h0
 obtain ⟨⟨b,C,h1,h2,h3⟩,_⟩:=h0
 have hlen:C.size=cells.length:=by rw [h3.length]; simp
 have hown:Own ι obj b:=⟨o,by rw [ho]; exact h1⟩
 have E:Ev (Own ι obj) J J ι ι w (w.setCells b col vs):=Ev.setCells J w b col vs hown (fun _ _ _ h=>h)
 obtain ⟨C',k1,k2⟩:=iD vs col w C h2 (by rw [← h.length]; omega)
 refine ⟨b,h1,fun j hj=>?_,?_⟩
 ·have:col+j<C.size:=by rw [← h.length] at hj; omega
  simp [World.cell?,World.frozen?,h2,this]
 ·have hT:=aI.tV S o (.live (.box et (splice cells col cs))) E (fun _ _ _=>rfl) (fun k hk hn=>heap_setCells_other (fun e=>hn (by rw [ho,e]; exact h1)) vs col w)
   ⟨⟨b,C',h1,k1,by rw [k2]; exact (h3.splice col h).ev S E⟩,trivial⟩ (fun k hk=>.inl (by rw [ho]; exact hk))
  exact ⟨J,ι,hT.1,rfl,hT.2⟩
theorem bg.Y_ (S:aI G J w ι obj) {o:Nat} {et:TypeId} {aS:Nat} {rows:List (List DV)} {row col:Nat} {r ds:List DV} {vs:List Value} (ho:obj o=.live (.dat et aS rows)) (hr:rows[row]? = some r)
  (h:bA J w ds vs) (yC:∀ v∈vs,v.oneCell'=true) (hl:col+ds.length≤r.length) :
  ∃ b,ι o rows.length=some b∧w.there b (row*aS+col) vs.length∧
    bg G obj (fun k=>if k=o then .live (.dat et aS (rows.set row (splice r col ds))) else obj k) J ι w .undef Go.undef (w.setCells b (row*aS+col) vs):=by
 have h0:=S.rep o
 rw [ho] at h0
 obtain ⟨⟨hsome,F3⟩,hkey⟩:=h0
 have hne:rows≠[]:=by intro e; rw [e] at hr; simp at hr
 obtain ⟨b,h1⟩:=Option.isSome_iff_exists.1 (hsome.resolve_left hne)
 obtain ⟨⟨C,h2⟩,h3⟩:=F3 b h1
 have hown:Own ι obj b:=⟨o,by rw [ho]; exact h1⟩
 have E:Ev (Own ι obj) J J ι ι w (w.setCells b (row*aS+col) vs):=Ev.setCells J w b _ vs hown (fun _ _ _ h=>h)
 obtain ⟨hrl,hrow⟩:=h3.get hr
 simp only [Nat.zero_add] at hrow
 have hcell:∀ j,j<r.length→(w.cell? ⟨b,row*aS+j,none⟩).isSome=true:=fun j hj=>by
  obtain ⟨v,hv,_⟩:=hrow.get (List.getElem?_eq_getElem hj)
  rw [hv]; rfl
 have tj:w.there b (row*aS+col) vs.length:=fun j hj=>by
  rw [← h.length] at hj
  have:=hcell (col+j) (by omega)
  rw [← Nat.add_assoc] at this
  refine ⟨this,?_⟩
  simp [World.frozen?,h2]
 have hout:∀ x:Addr,x.block=b→(x.off<row*aS+col∨row*aS+col+vs.length≤x.off)→(w.setCells b (row*aS+col) vs).cell? x=w.cell? x:=fun x hx hj=>
  World.cell?_setCells_out b vs _ w x (fun _ _=>hj)
 have hin:=World.rangeAt_setCells_same w b (row*aS+col) vs tj
 -- the rows behind
 have aal:∀ k,J k→(w.setCells b (row*aS+col) vs).heap[k]? = w.heap[k]?:=S.same E
 have hrows:bF J (w.setCells b (row*aS+col) vs) aS (rows.set row (splice r col ds)) b 0:=by
  refine bF.of (fun i x hx=>?_)
  simp only [Nat.zero_add]
  by_cases hi:i=row
  ·subst hi
   have hilt:i<rows.length:=(List.getElem?_eq_some_iff.1 hr).1
   rw [List.getElem?_set_self hilt] at hx
   cases hx
   refine ⟨by rw [jX _ _ _ (by omega)]; exact hrl,?_⟩
   obtain ⟨us,u1,u2,u3⟩:=hrow.vals
   have Yw:us.length=r.length:=u1.length.symm
   refine dI.of (vs:=splice us col vs) ?_ ?_ ?_
   ·have e1:bM J w ι (splice (r.map .d) col (ds.map .d)) (splice us col vs):=bM.splice col (bA.xT u1 u2) (bA.xT h yC)
    have e2:splice (r.map LV.d) col (ds.map LV.d)=(splice r col ds).map .d:=by simp [splice]
    rw [e2] at e1
    have e3:=(e1.ev S E).A_
    have:∀ (xs:List DV) (vs:List Value),cu J (w.setCells b (i*aS+col) (vs:List Value)) ι (xs.map .d) vs→True:=fun _ _ _=>trivial
    clear this
    have back:∀ {w0:World} (xs:List DV) (ys:List Value),cu J w0 ι (xs.map .d) ys→bA J w0 xs ys:=fun {w0} xs=>by
     induction xs with
     | nil=>intro ys h; cases ys with
       | nil=>trivial
       | cons _ _=>exact h.elim
     | cons x xs ih=>intro ys h; cases ys with
       | nil=>exact h.elim
       | cons y ys=>exact ⟨h.1,ih ys h.2⟩
    exact back _ _ e3
   ·intro v hv
    have e1:bM J w ι (splice (r.map .d) col (ds.map .d)) (splice us col vs):=bM.splice col (bA.xT u1 u2) (bA.xT h yC)
    exact e1.one v hv
   ·intro j v hv
    have hvl:vs.length=ds.length:=h.length.symm
    by_cases hj1:j<col
    ·rw [hout _ rfl (.inl (by show i*aS+j<_; omega))]
     refine u3 j v ?_
     rw [← hv]
     simp only [splice,List.append_assoc]
     rw [List.getElem?_append_left (by simp; omega),List.getElem?_take_of_lt hj1]
    ·by_cases hj2:j<col+vs.length
     ·have:=hin (j-col) v (by
       rw [← hv]
       simp only [splice]
       rw [List.getElem?_append_left (by simp; omega),List.getElem?_append_right (by simp; omega)]
       congr 1; simp; omega)
      rwa [show i*aS+col+(j-col)=i*aS+j by omega] at this
     ·rw [hout _ rfl (.inr (by show _≤i*aS+j; omega))]
      refine u3 j v ?_
      rw [← hv]
      simp only [splice]
      rw [List.getElem?_append_right (by simp; omega),List.getElem?_drop]
      congr 1; simp; omega
  ·rw [List.getElem?_set_ne (fun e=>hi e.symm)] at hx
   obtain ⟨k1,k2⟩:=h3.get hx
   refine ⟨k1,?_⟩
   simp only [Nat.zero_add] at k2
   obtain ⟨us,u1,u2,u3⟩:=k2.vals
   have hvl:vs.length=ds.length:=h.length.symm
   refine dI.of (vs:=us) (bA.mono (fun _ h=>h) aal _ _ u1) u2 (fun j v hv=>?_)
   have hj:j<us.length:=(List.getElem?_eq_some_iff.1 hv).1
   rw [← u1.length,k1] at hj
   rw [hout _ rfl ?_]
   ·exact u3 j v hv
   ·show i*aS+j<_∨_≤i*aS+j
    rcases Nat.lt_or_gt_of_ne hi with hlt | hgt
    ·left
     have:(i+1)*aS≤row*aS:=Nat.mul_le_mul_right _ hlt
     rw [Nat.add_mul] at this; omega
    ·right
     have:(row+1)*aS≤i*aS:=Nat.mul_le_mul_right _ hgt
     rw [Nat.add_mul] at this; omega
 obtain ⟨C',k1,k2⟩:∃ C',(w.setCells b (row*aS+col) vs).heap[b]? = some (.cells C' et (0,0))∧True:=by
  have hs:row*aS+col+vs.length≤C.size∨vs.length=0:=by
   rcases Nat.eq_zero_or_pos vs.length with hz | hz
   ·exact .inr hz
   ·left
    have:=(tj (vs.length-1) (by omega)).1
    simp only [World.cell?,h2] at this
    simp at this
    omega
  rcases hs with hs | hs
  ·obtain ⟨C',k1,_⟩:=iD vs _ w C h2 hs; exact ⟨C',k1,trivial⟩
  ·have:vs=[]:=by simpa using hs
   subst this; exact ⟨C,h2,trivial⟩
 refine ⟨b,h1,tj,?_⟩
 have hT:=aI.tV S o (.live (.dat et aS (rows.set row (splice r col ds)))) E (fun _ _ _=>rfl) (fun k hk hn=>heap_setCells_other (fun e=>hn (by rw [ho,e]; exact h1)) vs _ w)
  ⟨⟨.inr (by simp [h1]),fun k hk=>by
    rw [List.length_set,h1] at hk; cases hk
    exact ⟨⟨C',k1⟩,hrows⟩⟩,fun n hn=>by rw [List.length_set] at hn; exact hkey n hn⟩
  (fun k hk=>.inl (by
   rw [ho]
   simp only [cF.own,aH.own,List.length_set] at hk ⊢
   exact hk))
 exact ⟨J,ι,hT.1,rfl,hT.2⟩
end
end Dv
namespace Dv
open Go
section
variable {P:Program} {G:Nat→Option (List DV)} {J:Nat→Prop} {w w':World} {ι:Nat→Nat→Option Nat} {obj:Nat→cF} {a:Act} {get:Nat→LV} {base:Nat}
theorem bA.append:∀ {xs ys:List DV} {vs us:List Value},bA J w xs vs→bA J w ys us→bA J w (xs++ys) (vs++us)
 | [],ys,[],us,_,h=>h
 | x::xs,ys,v::vs,us,h,k=>⟨h.1,bA.append h.2 k⟩
 | [],_,_::_,_,h,_=>h.elim
 | _::_,_,[],_,h,_=>h.elim
theorem bF.rowLen {b aS:Nat} : ∀ {rs:List (List DV)} {off:Nat},bF J w aS rs b off→∀ r∈rs,r.length=aS
 | [],_,_,r,h=>by cases h
 | x::xs,off,h,r,hr=>by
   rcases List.mem_cons.1 hr with rfl | hr
   ·exact h.1
   ·exact bF.rowLen h.2.2 r hr
theorem bF.uy {rows:List (List DV)} {aS b:Nat} {vs:List Value} {C:Array Value} {et:TypeId} {fr:Nat×Nat} (h:bA J w rows.flatten vs) (h1:∀ v∈vs,v.oneCell'=true) (hl:∀ r∈rows,r.length=aS)
  (hb:w.heap[b]? = some (.cells C et fr)) (hC:∀ (j:Nat) (v:Value),vs[j]? = some v→C[j]? = some v):bF J w aS rows b 0:=by
 refine bF.Da hl (dI.of h h1 (fun j v hv=>?_))
 rw [Nat.zero_add,cell_of_row w b j C et fr hb]
 exact hC j v hv
theorem mP {rows:List (List DV)} {aS:Nat} (hl:∀ r∈rows,r.length=aS):rows.flatten.length=rows.length*aS:=by
 induction rows with
 | nil=>simp
 | cons r rs ih=>
   simp only [List.flatten_cons,List.length_append,List.length_cons,Nat.add_mul]
   rw [ih (fun x hx=>hl x (by simp [hx])),hl r (by simp)]; omega
theorem lQ {b:Nat} {C:Array Value} {et:TypeId} {fr:Nat×Nat} (h:w.heap[b]? = some (.cells C et fr)) (col n:Nat):w.rangeAt b col ((C.toList.drop col).take n):=fun j v hv=>by
 rw [cell_of_row w b (col+j) C et fr h]
 rw [List.getElem?_take] at hv
 split at hv
 ·rw [List.getElem?_drop] at hv; simpa using hv
 ·cases hv
theorem nK:∀ {cs:List LV} {ds:List DV} {vs:List Value},LV.sS cs=some ds→cu J w ι cs vs→bA J w ds vs:=by
 have one:∀ (n:Nat),(∀ (x:LV) (d:DV) (v:Value),sizeOf x<n→LV.VW x=some d→dm J w ι x v→iH J w d v)∧
   (∀ (xs:List LV) (ds:List DV) (vs:List Value),sizeOf xs<n→LV.sS xs=some ds→cu J w ι xs vs→bA J w ds vs):=by
  intro n
  induction n with
  | zero=>exact ⟨fun _ _ _ h=>absurd h (by omega),fun _ _ _ h=>absurd h (by omega)⟩
  | succ n ih=>
    refine ⟨fun x d v hs h hr=>?_,fun xs ds vs hs h hr=>?_⟩
    ·cases x with
     | d x=>simp only [LV.VW] at h; cases h; exact hr
     | fn f p q=>
       simp only [LV.VW] at h
       split at h
       ·rename_i p' q' h1 h2
        cases h
        obtain ⟨fs,cs,rfl,k1,k2⟩:=hr
        simp at hs
        exact ⟨fs,cs,rfl,ih.2 _ _ _ (by omega) h1 k1,ih.2 _ _ _ (by omega) h2 k2⟩
       ·cases h
     | fW t y=>
       simp only [LV.VW] at h
       split at h
       ·rename_i y' h1
        cases h
        obtain ⟨z,rfl,k1⟩:=hr
        simp at hs
        exact ⟨z,rfl,ih.1 _ _ _ (by omega) h1 k1⟩
       ·cases h
     | _=>simp [LV.VW] at h
    ·cases xs with
     | nil=>
       simp only [LV.sS] at h; cases h
       cases vs with
       | nil=>trivial
       | cons _ _=>exact hr.elim
     | cons x xs=>
       simp only [LV.sS] at h
       split at h
       ·rename_i d ds' h1 h2
        cases h
        cases vs with
        | nil=>exact hr.elim
        | cons v vs=>
          simp at hs
          exact ⟨ih.1 _ _ _ (by omega) h1 hr.1,ih.2 _ _ _ (by omega) h2 hr.2⟩
       ·cases h
 intro cs ds vs h hr
 exact (one (sizeOf cs+1)).2 cs ds vs (by omega) h hr
theorem Q_ {cells:List LV} {C:Array Value} {et:TypeId} {fr:Nat×Nat} {b lo len:Nat} {ds:List DV} (h:bM J w ι cells C.toList) (hh:w.heap[b]? = some (.cells C et fr)) (hd:LV.sS ((cells.drop lo).take len)=some ds):bF J w 1 (ds.map fun x=>[x]) b lo:=by
 have h4:=(h.drop lo).take len
 have h5:dI J w ds b lo:=dI.of (nK hd h4.A_) h4.one (lQ hh lo len)
 have hf:∀ l:List DV,(l.map fun x=>[x]).flatten=l:=fun l=>by induction l with | nil=>rfl | cons x l ih=>simp [ih]
 refine bF.Da (fun r hr=>?_) (by rw [hf]; exact h5)
 obtain ⟨x,_,rfl⟩:=List.mem_map.1 hr
 rfl
theorem yR:∀ {cs:List LV} {ds:List DV},LV.sS cs=some ds→ds.length=cs.length
 | [],ds,h=>by simp only [LV.sS] at h; cases h; rfl
 | x::xs,ds,h=>by
   simp only [LV.sS] at h
   split at h
   ·rename_i d ds' h1 h2
    cases h
    simp [yR h2]
   ·cases h
theorem vJ (S:aI G J w ι obj) {aS:Nat} {y:LV} {v:Value} {new:List (List DV)} {rd:List Nat} {tx:TypeId} (hk:(∃ e',P.underlying tx=some (.slice e'))∨P.underlying tx=some .string)
  (h:bn obj aS y=some (new,rd)) (hy:dm J w ι y v) :
  ∃ news,Src P aS tx v new.length news w∧bA J w new.flatten news∧(∀ r∈new,r.length=aS):=by
 have DE:∀ (b off n cap:Nat),n=new.length→bF J w aS new b off→∃ news,Src P aS tx (.slice (some ⟨b,off,none⟩) n cap) new.length news w∧bA J w new.flatten news∧(∀ r∈new,r.length=aS):=by
  intro b off n cap hn hr
  subst hn
  obtain ⟨k1,k2⟩:=hr.flat
  obtain ⟨vs,v1,v2,v3⟩:=k1.vals
  have hcell:∀ j u,vs[j]? = some u→w.cell? ((⟨b,off,none⟩:Addr).add j)=some u:=fun j u hu=>by rw [Addr.add_mid]; exact v3 j u hu
  have hlen:vs.length=new.length*aS:=by rw [← v1.length,k2]
  exact ⟨vs,⟨hk,fun _=>rfl,run_firstCells_some w aS _ _ _ cap vs hlen hcell,run_firstCells_some w.drew aS _ _ _ cap vs hlen (by simpa using hcell),hlen,v2⟩,v1,hr.rowLen⟩
 have zF:∀ (a:Option Addr) (cap:Nat),new=[]→∃ news,Src P aS tx (.slice a 0 cap) new.length news w∧bA J w new.flatten news∧(∀ r∈new,r.length=aS):=by
  intro a cap hn
  subst hn
  refine ⟨[],?_,trivial,fun _ h=>by cases h⟩
  cases a with
  | none=>exact ⟨hk,fun _=>rfl,run_firstCells_none w aS 0 0 cap,run_firstCells_none w.drew aS 0 0 cap,by simp,fun _ h=>by cases h⟩
  | some a=>exact ⟨hk,fun _=>rfl,run_firstCells_some w aS 0 a 0 cap [] (by simp) (fun j u hu=>by simp at hu),run_firstCells_some w.drew aS 0 a 0 cap [] (by simp) (fun j u hu=>by simp at hu),by simp,fun _ h=>by cases h⟩
 cases y with
 | d x=>
   cases x with
   | dH e rows=>
     simp only [bn] at h
     split at h
     ·rename_i he
      cases h; subst he
      obtain ⟨a,n,cap,rfl,hn,hc,hr⟩:=hy
      rcases hr with hr | ⟨b,off,rfl,hb,hr⟩
      ·rw [hr] at hn; simp at hn; subst hn; exact zF a cap hr
      ·exact DE b off n cap hn hr
     ·cases h
   | val u=>
     have hvu:v=u:=hy
     subst hvu
     cases v with
     | slice sa n c=>
       cases sa with
       | some _=>simp [bn] at h
       | none=>
         cases n with
         | succ _=>simp [bn] at h
         | zero=>
           cases c with
           | succ _=>simp [bn] at h
           | zero=>simp [bn] at h; exact zF none 0 h.1
     | string s=>
       simp only [bn] at h
       split at h
       ·rename_i he
        cases h; subst he
        have hbc:=byteCells_length s
        have hlen:(s.data.toList.map fun b=>[DV.val (Value.int IntKind.u8 (b.toNat:Int))]).length=s.size:=by simp
        refine ⟨byteCells s,?_,?_,?_⟩
        ·rw [hlen]
         exact ⟨hk,fun _=>rfl,firstCells_string s w,firstCells_string s w.drew,by rw [hbc,Nat.mul_one],fun u hu=>by
          obtain ⟨_,_,rfl⟩:=List.mem_map.1 hu; rfl⟩
        ·have:∀ l:List UInt8,bA J w (l.map fun b=>[DV.val (Value.int IntKind.u8 (b.toNat:Int))]).flatten (l.map fun b=>Value.int .u8 b.toNat):=fun l=>by
          induction l with
          | nil=>trivial
          | cons x l ih=>exact ⟨rfl,ih⟩
         exact this _
        ·intro r hr
         obtain ⟨b,_,rfl⟩:=List.mem_map.1 hr
         rfl
       ·cases h
     | _=>simp [bn] at h
   | fn f a b=>simp [bn] at h
   | fW t y=>simp [bn] at h
   | agg cs=>simp [bn] at h
 | sl o n e lo len=>
   simp only [bn] at h
   have gh:=S.rep o
   split at h
   ·rename_i et e' rows ho
    split at h
    ·rename_i hc
     obtain ⟨rfl,rfl,rfl,hle⟩:=hc
     cases h
     rw [ho] at gh
     obtain ⟨⟨hs,hd⟩,_⟩:=gh
     have we:((rows.drop lo).take len).length=len:=by simp; omega
     rcases hy with ⟨rfl,a,rfl⟩ | ⟨b,cap,et',C,hb,rfl,hcap,_,_⟩
     ·exact zF a 0 (by simp)
     ·exact DE b (lo*_) len cap we.symm (by have:=((hd b hb).2.drop lo).take len; simpa using this)
    ·cases h
   ·rename_i et e' rows ho
    split at h
    ·rename_i hc
     obtain ⟨rfl,rfl,rfl,hle⟩:=hc
     cases h
     rw [ho] at gh
     obtain ⟨⟨hs,hd⟩,_⟩:=gh
     have we:((rows.drop lo).take len).length=len:=by simp; omega
     rcases hy with ⟨rfl,a,rfl⟩ | ⟨b,cap,et',C,hb,rfl,hcap,_,_⟩
     ·exact zF a 0 (by simp)
     ·exact DE b (lo*_) len cap we.symm (by have:=((hd b hb).2.drop lo).take len; simpa using this)
    ·cases h
   ·rename_i et cells ho
    split at h
    ·rename_i hc
     obtain ⟨rfl,rfl,rfl,hle⟩:=hc
     split at h
     ·rename_i ds hds
      cases h
      rw [ho] at gh
      obtain ⟨⟨b',C,h1,h2,h3⟩,_⟩:=gh
      have we:(ds.map fun x=>[x]).length=len:=by rw [List.length_map,yR hds]; simp; omega
      rcases hy with ⟨rfl,a,rfl⟩ | ⟨b,cap,et',C',hb,rfl,hcap,_,_⟩
      ·exact zF a 0 (List.eq_nil_of_length_eq_zero we)
      ·rw [h1] at hb; cases hb
       exact DE b' (lo*1) len cap we.symm (by rw [Nat.mul_one]; exact Q_ h3 h2 hds)
     ·cases h
    ·cases h
   ·cases h
 | top=>simp [bn] at h
 | dQ=>simp [bn] at h
 | ptr o c=>simp [bn] at h
 | rp o n e r c=>simp [bn] at h
 | ip r c=>simp [bn] at h
 | fn f a b=>simp [bn] at h
 | agg cs=>simp [bn] at h
 | dJ cs=>simp [bn] at h
 | fW t y=>simp [bn] at h
 | yl o=>simp [bn] at h
 | mr o=>simp [bn] at h
theorem Gj {need cap bytes:Nat} (h:cap<need) (hb:need*bytes≤70368744177664):Builtin.nextslicecap need cap*bytes≤281474976710656:=by
 have h1:=nextslicecap_le h
 have h2:Builtin.nextslicecap need cap*bytes≤2*need*bytes:=Nat.mul_le_mul_right _ h1
 rw [Nat.mul_assoc] at h2
 omega
theorem bg.aav (S:aI G J w ι obj) (hb:obj base=.free) {t tx ty et:TypeId} {i:TypeInfo} {z:Value} {v:Value} {new:List (List DV)} {news:List Value} (ht:P.underlying t=some (.slice et)) (hi:P.info? et=some i) (hz:i.zero=some z)
  (hzs:z.cells.size=i.size) (hbytes:0<i.bytes)
  (hsrc:Src P i.size tx v new.length news w) (gh:bA J w new.flatten news) (hrl:∀ r∈new,r.length=i.size) (hfit:new.length*i.bytes≤70368744177664) :
  ∃ u w',(Builtin.append_ #[t,tx] ty #[.slice none 0 0,v]).run P w=.ok u w'∧
    bg G obj (fun o=>if o=base then .live (.dat et i.size new) else obj o) J ι w (.sl base new.length i.size 0 new.length) u w':=by
 rcases Nat.eq_zero_or_pos new.length with h0 | h0
 ·have hn:new=[]:=by simpa using h0
  subst hn
  have hnews:news=[]:=by have:=hsrc.newsLen; simpa using this
  subst hnews
  refine ⟨.slice none 0 0,w,run_append_nothing w t tx ty et i ht hi none 0 0 (Nat.le_refl _) v hsrc,?_⟩
  have hfree:∀ n,ι base n=none:=by have:=S.rep base; rw [hb] at this; exact this
  have hT:=aI.tV S base (.live (.dat et i.size [])) (Ev.refl (Own ι obj) J ι w) (fun _ _ _=>rfl) (fun _ _ _=>rfl)
   ⟨⟨.inl rfl,fun b hb=>by rw [hfree] at hb; cases hb⟩,fun n _=>hfree n⟩ (fun b hb=>by
     have:ι base 0=some b:=hb
     rw [hfree] at this; cases this)
  exact ⟨J,ι,hT.1,.inl ⟨rfl,none,rfl⟩,hT.2⟩
 ·have hlt:0<0+new.length:=by omega
  have h63:((0+new.length:Nat):Int)≤9223372036854775807:=by
   have:new.length*1≤new.length*i.bytes:=Nat.mul_le_mul_left _ hbytes
   omega
  have hrun:=run_append_grow_src w t tx ty et i z ht hi hz none 0 0 [] (run_firstCells_none w.drew i.size 0 0 0) v new.length news hsrc hlt h63 (Gj hlt (by simpa using hfit))
  have hge:=grownCap_ge w (0+new.length) 0 et
  refine ⟨_,_,hrun,?_⟩
  simp only [Nat.zero_add,List.nil_append] at *
  have hl:news.length=new.length*i.size:=hsrc.newsLen
  have hsz:(news.toArray++Builtin.zeroCells z.cells (grownCap w new.length 0 et-new.length)).size=grownCap w new.length 0 et*i.size:=by
   simp only [Array.size_append,List.size_toArray,size_zeroCells,hzs,hl,← Nat.add_mul]
   congr 1; omega
  refine bg.dat S hb et i.size new _ (w.drawn+1) (grownCap w new.length 0 et) hge (by rw [hsz]; exact Nat.le_refl _) (fun ι' E=>?_)
  refine bF.uy (bA.mono (fun _ h=>h) (S.same E) _ _ gh) hsrc.one hrl (ee { w with drawn:=w.drawn+1 } _) (fun j u hu=>?_)
  have hj:j<news.length:=(List.getElem?_eq_some_iff.1 hu).1
  rw [Array.getElem?_append_left (by simpa using hj)]
  simpa using hu
theorem bg.aau (S:aI G J w ι obj) {o:Nat} {t tx ty et:TypeId} {i:TypeInfo} {z:Value} {v x:Value} {rows new:List (List DV)} {news:List Value} (ho:obj o=.live (.dat et i.size rows))
  (hx:dm J w ι (.sl o rows.length i.size 0 rows.length) x) (ht:P.underlying t=some (.slice et)) (hi:P.info? et=some i) (hz:i.zero=some z)
  (hzs:z.cells.size=i.size) (hbytes:0<i.bytes)
  (hsrc:Src P i.size tx v new.length news w) (gh:bA J w new.flatten news) (hrl:∀ r∈new,r.length=i.size) (hfit:(rows++new).length*i.bytes≤70368744177664) :
  ∃ u w',(Builtin.append_ #[t,tx] ty #[x,v]).run P w=.ok u w'∧
    bg G obj (fun k=>if k=o then .live (.dat et i.size (rows++new)) else obj k) J ι w (.sl o (rows.length+new.length) i.size 0 (rows.length+new.length)) u w':=by
 have h0:=S.rep o
 rw [ho] at h0
 obtain ⟨⟨hsome,F3⟩,hkey⟩:=h0
 rw [List.length_append] at hfit
 have hl:news.length=new.length*i.size:=hsrc.newsLen
 have h63:((rows.length+new.length:Nat):Int)≤9223372036854775807:=by
  have:(rows.length+new.length)*1≤(rows.length+new.length)*i.bytes:=Nat.mul_le_mul_left _ hbytes
  omega
 -- the elder cells
 obtain ⟨sa,cap,rfl,hcap,olds,hold,Yy,abO,Kw,hblk⟩:∃ (sa:Option Addr) (cap:Nat),x=.slice sa rows.length cap∧rows.length≤cap∧∃ olds:List Value,
   (Builtin.firstCells i.size rows.length (.slice sa rows.length cap)).run P w.drew=.ok olds.toArray w.drew∧bA J w rows.flatten olds∧(∀ v∈olds,v.oneCell'=true)∧(∀ r∈rows,r.length=i.size)∧
   ((cap=0∧rows.length=0)∨∃ b C,sa=some ⟨b,0,none⟩∧ι o rows.length=some b∧w.heap[b]? = some (.cells C et (0,0))∧cap*i.size≤C.size∧bF J w i.size rows b 0):=by
  rcases hx with ⟨h1,sa,rfl⟩ | ⟨b,cap,et',C',hb,rfl,hc,hS,hC'⟩
  ·have hn:rows=[]:=by simpa using h1
   subst hn
   refine ⟨sa,0,rfl,Nat.le_refl _,[],?_,trivial,(fun _ h=>by cases h),(fun _ h=>by cases h),.inl ⟨rfl,rfl⟩⟩
   cases sa with
   | none=>exact run_firstCells_none w.drew i.size 0 0 0
   | some a=>exact run_firstCells_some w.drew i.size 0 a 0 0 [] (by simp) (fun j u hu=>by simp at hu)
  ·obtain ⟨⟨C,h2⟩,h3⟩:=F3 b hb
   obtain ⟨k1,k2⟩:=h3.flat
   obtain ⟨vs,v1,v2,v3⟩:=k1.vals
   have hcs:C'= C.size:=by simp only [World.shape?,h2] at hS; cases hS; rfl
   subst hcs
   refine ⟨some ⟨b,0,none⟩,cap,by simp,hc,vs,?_,v1,v2,h3.rowLen,.inr ⟨b,C,rfl,hb,h2,by simpa using hC',h3⟩⟩
   refine run_firstCells_some w.drew i.size _ _ _ cap vs (by rw [← v1.length,k2]) (fun j u hu=>?_)
   rw [Addr.add_mid]
   exact v3 j u hu
 by_cases hroom:rows.length+new.length≤cap
 ·rcases hblk with ⟨rfl,Mo⟩ | ⟨b,C,rfl,hb,h2,hC,h3⟩
  · -- nothing to append to nothing
   have hn:new=[]:=by
    have:new.length=0:=by omega
    simpa using this
   subst hn
   have hnews:news=[]:=by simpa using hl
   subst hnews
   have PS:rows=[]:=by simpa using Mo
   subst PS
   refine ⟨_,w,run_append_nothing w t tx ty et i ht hi sa 0 0 (Nat.le_refl _) v hsrc,?_⟩
   have hT:=aI.tV S o (.live (.dat et i.size ([]++[]))) (Ev.refl (Own ι obj) J ι w) (fun _ _ _=>rfl) (fun _ _ _=>rfl)
    (by have:=S.rep o; rw [ho] at this; exact this) (fun b hb=>.inl (by rw [ho]; exact hb))
   exact ⟨J,ι,hT.1,.inl ⟨rfl,sa,rfl⟩,hT.2⟩
  ·have hlen:news.length+rows.length*i.size≤C.size:=by
    rw [hl,← Nat.add_mul]
    exact Nat.le_trans (Nat.mul_le_mul_right _ (by omega)) hC
   have hc1:∀ j,j<news.length→(w.cell? ⟨b,0+rows.length*i.size+j,none⟩).isSome=true:=fun j hj=>by
    rw [cell_of_row w b _ C et _ h2]
    simp; omega
   have hf1:∀ j,j<news.length→w.frozen? ⟨b,0+rows.length*i.size+j,none⟩=false:=fun j hj=>by simp [World.frozen?,h2]
   have hrun:=run_append_room_src w t tx ty et i ht hi b 0 rows.length cap v new.length news hsrc hroom hc1 hf1
   simp only [Nat.zero_add] at hrun
   refine ⟨_,_,hrun,?_⟩
   have hown:Own ι obj b:=⟨o,by rw [ho]; exact hb⟩
   let ι':Nat→Nat→Option Nat:=fun k n=>if k=o∧n=rows.length+new.length then some b else ι k n
   have hi':∀ k n c,ι k n=some c→ι' k n=some c:=fun k n c hc=>by
    by_cases hk:k=o∧n=rows.length+new.length
    ·obtain ⟨rfl,rfl⟩:=hk
     rcases Nat.eq_zero_or_pos new.length with hz | hz
     ·rw [hz,Nat.add_zero] at hc ⊢
      rw [hb] at hc; cases hc
      simp [ι',hz]
     ·rw [hkey _ (by omega)] at hc; cases hc
    ·simp only [ι',if_neg hk]; exact hc
   have E:Ev (Own ι obj) J J ι ι' w (w.setCells b (rows.length*i.size) news):=Ev.setCells J w b _ news hown hi'
   obtain ⟨C',k1,k2⟩:=iD news (rows.length*i.size) w C h2 (by omega)
   have hCl:C'.size=C.size:=by
    have:=congrArg List.length k2
    rw [jX _ _ _ (by simp; omega)] at this
    simpa using this
   have Yz:olds.length=rows.length*i.size:=by rw [← Yy.length,mP Kw]
   have abP:∀ (j:Nat) (u:Value),olds[j]? = some u→C[j]? = some u:=by
    obtain ⟨q1,q2⟩:=h3.flat
    obtain ⟨us,u1,u2,u3⟩:=q1.vals
    have:us=olds:=by
     have:∀ {xs:List DV} {a b:List Value},True:=trivial
     have hh:=run_firstCells_some (P:=P) w.drew i.size rows.length ⟨b,0,none⟩ rows.length cap us (by rw [← u1.length,q2]) (fun j u hu=>by rw [Addr.add_mid]; exact u3 j u hu)
     rw [hh] at hold
     injection hold with e1 _
     exact (List.toArray_inj e1)
    subst this
    intro j u hu
    have:=u3 j u hu
    rw [Nat.zero_add,cell_of_row w b _ C et _ h2] at this
    exact this
   have Ip:bF J (w.setCells b (rows.length*i.size) news) i.size (rows++new) b 0:=by
    refine bF.uy (vs:=olds++news) ?_ ?_ ?_ k1 ?_
    ·rw [List.flatten_append]
     exact bA.mono (fun _ h=>h) (S.same E) _ _ (bA.append Yy gh)
    ·intro u hu
     rcases List.mem_append.1 hu with hu | hu
     ·exact abO u hu
     ·exact hsrc.one u hu
    ·intro r hr
     rcases List.mem_append.1 hr with hr | hr
     ·exact Kw r hr
     ·exact hrl r hr
    ·intro j u hu
     have hk:C'[j]? = C'.toList[j]?:=by simp
     rw [hk,k2]
     unfold splice
     by_cases hj:j<olds.length
     ·rw [List.getElem?_append_left hj] at hu
      rw [List.append_assoc,List.getElem?_append_left (by simp; omega),List.getElem?_take_of_lt (by omega)]
      simpa using abP j u hu
     ·rw [List.getElem?_append_right (by omega)] at hu
      have hj2:j-olds.length<news.length:=(List.getElem?_eq_some_iff.1 hu).1
      rw [List.getElem?_append_left (by simp; omega),List.getElem?_append_right (by simp; omega),← hu]
      congr 1
      simp; omega
   have hT:=aI.tV S o (.live (.dat et i.size (rows++new))) E (fun k hk n=>by simp only [ι']; rw [if_neg (fun h=>hk h.1)])
    (fun k hk hn=>heap_setCells_other (fun e=>hn (by rw [ho,e]; exact hb)) news _ w)
    ⟨⟨.inr (by simp [ι']),fun c hc=>by
      simp [ι'] at hc; subst hc
      exact ⟨⟨C',k1⟩,Ip⟩⟩,fun n hn=>by
      rw [List.length_append] at hn
      simp only [ι']; rw [if_neg (by omega)]; exact hkey n (by omega)⟩
    (fun c hc=>.inl (by
     simp [cF.own,aH.own,ι'] at hc
     rw [ho]; subst hc; exact hb))
   refine ⟨J,ι',hT.1,.inr ⟨b,cap,et,C.size,by simp [ι'],by simp,by omega,?_,by simpa using hC⟩,hT.2⟩
   simp only [World.shape?,k1,hCl]
 ·have hlt:cap<rows.length+new.length:=by omega
  have hrun:=run_append_grow_src w t tx ty et i z ht hi hz sa rows.length cap olds hold v new.length news hsrc hlt h63 (Gj hlt hfit)
  have hge:=grownCap_ge w (rows.length+new.length) cap et
  refine ⟨_,_,hrun,?_⟩
  generalize grownCap w (rows.length+new.length) cap et=gc at *
  let ι':Nat→Nat→Option Nat:=fun k n=>if k=o∧n=rows.length+new.length then some w.heap.size else ι k n
  have hpos:0<new.length:=by omega
  have hi':∀ k n c,ι k n=some c→ι' k n=some c:=fun k n c hc=>by
   by_cases hk:k=o∧n=rows.length+new.length
   ·obtain ⟨rfl,rfl⟩:=hk
    rw [hkey _ (by omega)] at hc; cases hc
   ·simp only [ι',if_neg hk]; exact hc
  have Yz:olds.length=rows.length*i.size:=by rw [← Yy.length,mP Kw]
  have hsz:((olds++news).toArray++Builtin.zeroCells z.cells (gc-(rows.length+new.length))).size=gc*i.size:=by
   simp only [Array.size_append,List.size_toArray,size_zeroCells,hzs,List.length_append,Yz,hl,← Nat.add_mul]
   congr 1; omega
  generalize hCC:(olds++news).toArray++Builtin.zeroCells z.cells (gc-(rows.length+new.length))=C at *
  have E:Ev (Own ι obj) J J ι ι' w ({ w with drawn:=w.drawn+1 }.alloc (.cells C et)):=Ev.alloc _ _ w _ _ hi'
  have hnew:({ w with drawn:=w.drawn+1 }.alloc (.cells C et)).heap[w.heap.size]? = some (.cells C et (0,0)):=ee { w with drawn:=w.drawn+1 } _
  have Ip:bF J ({ w with drawn:=w.drawn+1 }.alloc (.cells C et)) i.size (rows++new) w.heap.size 0:=by
   refine bF.uy (vs:=olds++news) ?_ ?_ ?_ hnew ?_
   ·rw [List.flatten_append]
    exact bA.mono (fun _ h=>h) (S.same E) _ _ (bA.append Yy gh)
   ·intro u hu
    rcases List.mem_append.1 hu with hu | hu
    ·exact abO u hu
    ·exact hsrc.one u hu
   ·intro r hr
    rcases List.mem_append.1 hr with hr | hr
    ·exact Kw r hr
    ·exact hrl r hr
   ·intro j u hu
    rw [← hCC]
    have hj:j<(olds++news).length:=(List.getElem?_eq_some_iff.1 hu).1
    rw [Array.getElem?_append_left (by simpa using hj)]
    simpa using hu
  have hT:=aI.tV S o (.live (.dat et i.size (rows++new))) E (fun k hk n=>by simp only [ι']; rw [if_neg (fun h=>hk h.1)])
   (fun k hk hn=>fH { w with drawn:=w.drawn+1 } _ k hk)
   ⟨⟨.inr (by simp [ι']),fun c hc=>by
     simp [ι'] at hc; subst hc
     exact ⟨⟨C,hnew⟩,Ip⟩⟩,fun n hn=>by
     rw [List.length_append] at hn
     simp only [ι']; rw [if_neg (by omega)]; exact hkey n (by omega)⟩
   (fun c hc=>.inr (by simp [cF.own,aH.own,ι'] at hc; omega))
  refine ⟨J,ι',hT.1,.inr ⟨w.heap.size,gc,et,C.size,by simp [ι'],by simp,hge,?_,by simp [hsz]⟩,hT.2⟩
  show ({ w with drawn:=w.drawn+1 }.alloc (.cells C et)).shape? w.heap.size=_
  simp only [World.shape?,hnew]
end
end Dv
