/- The logical machine and its plain laws: parts V1, V2, V3, V4, V5, proved sound. -/
import Derived.ProofKit
import Derived.Deep.MidRow
import Derived.Deep.AppendSrc
import Derived.Deep.Upon
set_option linter.unusedVariables false
set_option linter.unusedSimpArgs false
def Go.Obj.lG:Go.Obj→Bool
 | .cells ..=>true
 | .map ..=>true
 | _=>false
namespace Dv
open Go
inductive DV where
 | val (v:Value)
 | dY (esz:Nat) (rows:List (List DV))
 | fn (f:Fn) (first captured:List DV)
 | fe (t:TypeId) (v:DV)
 | agg (cs:List DV)
inductive LV where
 | top
 | c_
 | d (x:DV)
 | ptr (o col:Nat)
 | rp (o n esz row col:Nat)
 | ip (row:List DV) (col:Nat)
 | sl (o n esz lo len:Nat)
 | fn (f:Fn) (first captured:List LV)
 | agg (cs:List LV)
 | dP (vs:List LV)
 | fe (t:TypeId) (v:LV)
 | yl (o:Nat)
 | mr (o:Nat)
section
variable (J:Nat→Prop) (w:World)
mutual
def h_:DV→Value→Prop
 | .val v,x=>x=v
 | .dY esz rows,x=>∃ a n cap,x=.slice a n cap∧n=rows.length∧n≤cap∧(rows=[]∨∃ b off,a=some ⟨b,off,none⟩∧J b∧bC esz rows b off)
 | .fn f fs cs,x=>∃ fs' cs',x=.func f fs' cs'∧bq fs fs'.toList∧bq cs cs'.toList
 | .fe t y,x=>∃ z,x=.iface t z∧h_ y z
 | .agg cs,x=>∃ xs,x=.agg xs∧bq cs xs.toList∧∀ v∈xs.toList,v.oneCell'=true
def bq:List DV→List Value→Prop
 | [],[]=>True
 | x::xs,v::vs=>h_ x v∧bq xs vs
 | _,_=>False
def cU:List DV→Nat→Nat→Prop
 | [],_,_=>True
 | x::xs,b,off=>(∃ v,w.cell? ⟨b,off,none⟩=some v∧v.oneCell'=true∧h_ x v)∧cU xs b (off+1)
def bC (esz:Nat):List (List DV)→Nat→Nat→Prop
 | [],_,_=>True
 | r::rs,b,off=>r.length=esz∧cU r b off∧bC esz rs b (off+esz)
end
variable (ι:Nat→Nat→Option Nat)
mutual
def cQ:LV→Value→Prop
 | .top,_=>True
 | .c_,v=>∃ b,v=.bool b
 | .d x,v=>h_ J w x v
 | .ptr o col,v=>∃ b,ι o 0=some b∧v=.pointer (some ⟨b,col,none⟩)
 | .rp o n esz row col,v=>∃ b,ι o n=some b∧v=.pointer (some ⟨b,row*esz+col,none⟩)
 | .ip row col,v=>∃ b off,J b∧v=.pointer (some ⟨b,off+col,none⟩)∧cU J w row b off
 | .sl o n esz lo len,v=>(len=0∧∃ a,v=.slice a 0 0)∨
   ∃ b cap et C,ι o n=some b∧v=.slice (some ⟨b,lo*esz,none⟩) len cap∧len≤cap∧w.shape? b=some (et,C)∧(lo+cap)*esz≤C
 | .fn f fs cs,v=>∃ fs' cs',v=.func f fs' cs'∧bW fs fs'.toList∧bW cs cs'.toList
 | .agg cs,v=>∃ xs,v=.agg xs∧bI cs xs.toList
 | .dP vs,v=>∃ xs,v=.tuple xs∧bW vs xs.toList
 | .fe t x,v=>∃ y,v=.iface t y∧cQ x y
 | .yl o,v=>∃ b,ι o 0=some b∧v=.func (.yield b) #[] #[]
 | .mr o,v=>∃ b,ι o 0=some b∧v=.map (some b)
def bW:List LV→List Value→Prop
 | [],[]=>True
 | x::xs,v::vs=>cQ x v∧bW xs vs
 | _,_=>False
def bI:List LV→List Value→Prop
 | [],[]=>True
 | x::xs,v::vs=>v.oneCell'=true∧cQ x v∧bI xs vs
 | _,_=>False
end
def gM:List (Int×LV)→List MapEntry→Prop
 | [],[]=>True
 | (k,x)::r,e::es=>e.key=.int .i64 k∧cQ J w ι x e.val∧gM r es
 | _,_=>False
end
structure Ev (W J J':Nat→Prop) (ι ι':Nat→Nat→Option Nat) (w w':World):Prop where
 os:w'.os=w.os
 tape:w'.tape=w.tape
 output:w'.output=w.output
 size:w.heap.size≤w'.heap.size
 same:∀ b,b<w.heap.size→¬ W b→w'.heap[b]? = w.heap[b]?
 shape:∀ b,b<w.heap.size→w'.shape? b=w.shape? b
 jmono:∀ b,J b→J' b
 jnew:∀ b,J' b→J b∨w.heap.size≤b∨W b
 imono:∀ o n b,ι o n=some b→ι' o n=some b
theorem Ev.refl (W J:Nat→Prop) (ι:Nat→Nat→Option Nat) (w:World):Ev W J J ι ι w w:=
 ⟨rfl,rfl,rfl,Nat.le_refl _,fun _ _ _=>rfl,fun _ _=>rfl,fun _ h=>h,fun _ h=>.inl h,fun _ _ _ h=>h⟩
theorem gZ {w w':World} {b o:Nat} (h:w'.heap[b]? = w.heap[b]?):w'.cell? ⟨b,o,none⟩=w.cell? ⟨b,o,none⟩:=by
 simp only [World.cell?,h]
theorem bD {w w':World} {b:Nat} (h:w'.heap[b]? = w.heap[b]?):w'.shape? b=w.shape? b:=by
 simp only [World.shape?,h]
section mono
variable {J J':Nat→Prop} {w w':World}
mutual
theorem h_.mono (hj:∀ b,J b→J' b) (hs:∀ b,J b→w'.heap[b]? = w.heap[b]?):∀ (x:DV) (v:Value),h_ J w x v→h_ J' w' x v
 | .val v,x,h=>h
 | .dY esz rows,x,h=>by
   obtain ⟨a,n,cap,rfl,hn,hc,h⟩:=h
   refine ⟨a,n,cap,rfl,hn,hc,h.imp id ?_⟩
   rintro ⟨b,off,ha,hb,hr⟩
   exact ⟨b,off,ha,hj b hb,bC.mono hj hs esz rows b off (hs b hb) hr⟩
 | .fn f fs cs,x,h=>by
   obtain ⟨fs',cs',rfl,h1,h2⟩:=h
   exact ⟨fs',cs',rfl,bq.mono hj hs fs _ h1,bq.mono hj hs cs _ h2⟩
 | .fe t y,x,h=>by
   obtain ⟨z,rfl,h1⟩:=h
   exact ⟨z,rfl,h_.mono hj hs y z h1⟩
 | .agg cs,x,h=>by
   obtain ⟨xs,rfl,h1,h2⟩:=h
   exact ⟨xs,rfl,bq.mono hj hs cs _ h1,h2⟩
theorem bq.mono (hj:∀ b,J b→J' b) (hs:∀ b,J b→w'.heap[b]? = w.heap[b]?):∀ (xs:List DV) (vs:List Value),bq J w xs vs→bq J' w' xs vs
 | [],[],_=>trivial
 | x::xs,v::vs,h=>⟨h_.mono hj hs x v h.1,bq.mono hj hs xs vs h.2⟩
 | [],_::_,h=>h.elim
 | _::_,[],h=>h.elim
theorem cU.mono (hj:∀ b,J b→J' b) (hs:∀ b,J b→w'.heap[b]? = w.heap[b]?):∀ (xs:List DV) (b off:Nat),w'.heap[b]? = w.heap[b]?→cU J w xs b off→cU J' w' xs b off
 | [],_,_,_,_=>trivial
 | x::xs,b,off,hb,h=>by
   obtain ⟨⟨v,hv,h1,hx⟩,hr⟩:=h
   exact ⟨⟨v,by rw [gZ hb]; exact hv,h1,h_.mono hj hs x v hx⟩,cU.mono hj hs xs b (off+1) hb hr⟩
theorem bC.mono (hj:∀ b,J b→J' b) (hs:∀ b,J b→w'.heap[b]? = w.heap[b]?) (esz:Nat):∀ (rs:List (List DV)) (b off:Nat),w'.heap[b]? = w.heap[b]?→bC J w esz rs b off→bC J' w' esz rs b off
 | [],_,_,_,_=>trivial
 | r::rs,b,off,hb,h=>⟨h.1,cU.mono hj hs r b off hb h.2.1,bC.mono hj hs esz rs b (off+esz) hb h.2.2⟩
end
variable {ι ι':Nat→Nat→Option Nat}
mutual
theorem cQ.mono (hj:∀ b,J b→J' b) (hs:∀ b,J b→w'.heap[b]? = w.heap[b]?) (hi:∀ o n b,ι o n=some b→ι' o n=some b)
  (hsh:∀ b,(w.shape? b).isSome=true→w'.shape? b=w.shape? b):∀ (x:LV) (v:Value),cQ J w ι x v→cQ J' w' ι' x v
 | .top,_,_=>trivial
 | .c_,_,h=>h
 | .d x,v,h=>h_.mono hj hs x v h
 | .ptr o col,v,h=>by obtain ⟨b,hb,rfl⟩:=h; exact ⟨b,hi _ _ _ hb,rfl⟩
 | .rp o n esz row col,v,h=>by obtain ⟨b,hb,rfl⟩:=h; exact ⟨b,hi _ _ _ hb,rfl⟩
 | .ip row col,v,h=>by
   obtain ⟨b,off,hb,rfl,hr⟩:=h
   exact ⟨b,off,hj b hb,rfl,cU.mono hj hs row b off (hs b hb) hr⟩
 | .sl o n esz lo len,v,h=>by
   rcases h with h | ⟨b,cap,et,C,hb,rfl,hl,hS,hC⟩
   ·exact .inl h
   ·exact .inr ⟨b,cap,et,C,hi _ _ _ hb,rfl,hl,by rw [hsh b (by rw [hS]; rfl)]; exact hS,hC⟩
 | .fn f fs cs,v,h=>by
   obtain ⟨fs',cs',rfl,h1,h2⟩:=h
   exact ⟨fs',cs',rfl,bW.mono hj hs hi hsh fs _ h1,bW.mono hj hs hi hsh cs _ h2⟩
 | .agg cs,v,h=>by obtain ⟨xs,rfl,h1⟩:=h; exact ⟨xs,rfl,bI.mono hj hs hi hsh cs _ h1⟩
 | .dP vs,v,h=>by obtain ⟨xs,rfl,h1⟩:=h; exact ⟨xs,rfl,bW.mono hj hs hi hsh vs _ h1⟩
 | .fe t x,v,h=>by obtain ⟨y,rfl,h1⟩:=h; exact ⟨y,rfl,cQ.mono hj hs hi hsh x y h1⟩
 | .yl o,v,h=>by obtain ⟨b,hb,rfl⟩:=h; exact ⟨b,hi _ _ _ hb,rfl⟩
 | .mr o,v,h=>by obtain ⟨b,hb,rfl⟩:=h; exact ⟨b,hi _ _ _ hb,rfl⟩
theorem bW.mono (hj:∀ b,J b→J' b) (hs:∀ b,J b→w'.heap[b]? = w.heap[b]?) (hi:∀ o n b,ι o n=some b→ι' o n=some b)
  (hsh:∀ b,(w.shape? b).isSome=true→w'.shape? b=w.shape? b):∀ (xs:List LV) (vs:List Value),bW J w ι xs vs→bW J' w' ι' xs vs
 | [],[],_=>trivial
 | x::xs,v::vs,h=>⟨cQ.mono hj hs hi hsh x v h.1,bW.mono hj hs hi hsh xs vs h.2⟩
 | [],_::_,h=>h.elim
 | _::_,[],h=>h.elim
theorem bI.mono (hj:∀ b,J b→J' b) (hs:∀ b,J b→w'.heap[b]? = w.heap[b]?) (hi:∀ o n b,ι o n=some b→ι' o n=some b)
  (hsh:∀ b,(w.shape? b).isSome=true→w'.shape? b=w.shape? b):∀ (xs:List LV) (vs:List Value),bI J w ι xs vs→bI J' w' ι' xs vs
 | [],[],_=>trivial
 | x::xs,v::vs,h=>⟨h.1,cQ.mono hj hs hi hsh x v h.2.1,bI.mono hj hs hi hsh xs vs h.2.2⟩
 | [],_::_,h=>h.elim
 | _::_,[],h=>h.elim
end
theorem gM.mono (hj:∀ b,J b→J' b) (hs:∀ b,J b→w'.heap[b]? = w.heap[b]?) (hi:∀ o n b,ι o n=some b→ι' o n=some b)
  (hsh:∀ b,(w.shape? b).isSome=true→w'.shape? b=w.shape? b):∀ (x:List (Int×LV)) (v:List MapEntry),gM J w ι x v→gM J' w' ι' x v
 | [],[],_=>trivial
 | (k,x)::r,e::es,h=>⟨h.1,cQ.mono hj hs hi hsh x _ h.2.1,gM.mono hj hs hi hsh r es h.2.2⟩
 | [],_::_,h=>h.elim
 | _::_,[],h=>h.elim
end mono
inductive aD where
 | box (et:TypeId) (cells:List LV)
 | dat (et:TypeId) (esz:Nat) (rows:List (List DV))
 | kA (et:TypeId) (esz:Nat) (rows:List (List DV))
 | mp (es:List (Int×LV))
inductive cv where
 | free
 | dead
 | live (ob:aD)
def aD.own (ι:Nat→Nat→Option Nat) (o:Nat):aD→Nat→Prop
 | .box _ _,b=>ι o 0=some b
 | .dat _ _ rows,b=>ι o rows.length=some b
 | .kA ..,_=>False
 | .mp _,b=>ι o 0=some b
def cv.own (ι:Nat→Nat→Option Nat) (o:Nat):cv→Nat→Prop
 | .live ob,b=>ob.own ι o b
 | _,_=>False
def Uv (J:Nat→Prop) (w:World) (ι:Nat→Nat→Option Nat) (o:Nat):aD→Prop
 | .box et cells=>∃ b C,ι o 0=some b∧w.heap[b]? = some (.cells C et (0,0))∧bI J w ι cells C.toList
 | .dat et esz rows=>(rows=[]∨(ι o rows.length).isSome=true)∧∀ b,ι o rows.length=some b→(∃ C,w.heap[b]? = some (.cells C et (0,0)))∧bC J w esz rows b 0
 | .kA et esz rows=>(rows=[]∨(ι o rows.length).isSome=true)∧∀ b,ι o rows.length=some b→J b∧bC J w esz rows b 0
 | .mp es=>∃ b E c,ι o 0=some b∧w.heap[b]? = some (.map E c)∧gM J w ι es E.toList
def mN (J:Nat→Prop) (w:World) (ι:Nat→Nat→Option Nat) (o:Nat):cv→Prop
 | .free=>∀ n,ι o n=none
 | .dead=>True
 | .live ob=>Uv J w ι o ob∧(match ob with | .dat _ _ rows=>∀ n,rows.length<n→ι o n=none | _=>True)
structure aJ (G:Nat→Option (List DV)) (J:Nat→Prop) (w:World) (ι:Nat→Nat→Option Nat) (obj:Nat→cv):Prop where
 rep:∀ o,mN J w ι o (obj o)
 inj:∀ o o' b,(obj o).own ι o b→(obj o').own ι o' b→o=o'
 qq:∀ o b,(obj o).own ι o b→¬ J b
 jcell:∀ b,J b→∃ C t f,w.heap[b]? = some (.cells C t f)
 wA:∀ g row,G g=some row→J g∧cU J w row g 0∧∃ t,w.shape? g=some (t,row.length)
theorem aJ.AK {G:Nat→Option (List DV)} {J:Nat→Prop} {w:World} {ι:Nat→Nat→Option Nat} {obj:Nat→cv} (S:aJ G J w ι obj) (b:Nat) (h:J b):b<w.heap.size:=by
 obtain ⟨C,t,f,h⟩:=S.jcell b h
 exact (Array.getElem?_eq_some_iff.1 h).1
def Own (ι:Nat→Nat→Option Nat) (obj:Nat→cv) (b:Nat):Prop:=∃ o,(obj o).own ι o b
theorem mN.sN {J:Nat→Prop} {w:World} {ι:Nat→Nat→Option Nat} {o:Nat} {s:cv} (h:mN J w ι o s) {b:Nat} (hb:s.own ι o b):∃ x,w.heap[b]? = some x∧x.lG=true:=by
 cases s with
 | free=>exact hb.elim
 | dead=>exact hb.elim
 | live ob=>
   cases ob with
   | box et cells=>
     obtain ⟨⟨b',C,h1,h2,_⟩,_⟩:=h
     cases h1.symm.trans hb
     exact ⟨_,h2,rfl⟩
   | dat et esz rows=>
     obtain ⟨⟨_,h1⟩,_⟩:=h
     obtain ⟨⟨C,h2⟩,_⟩:=h1 b hb
     exact ⟨_,h2,rfl⟩
   | kA et esz rows=>exact hb.elim
   | mp es=>
     obtain ⟨⟨b',E,c,h1,h2,_⟩,_⟩:=h
     cases h1.symm.trans hb
     exact ⟨_,h2,rfl⟩
theorem aJ.sN {G:Nat→Option (List DV)} {J:Nat→Prop} {w:World} {ι:Nat→Nat→Option Nat} {obj:Nat→cv} (S:aJ G J w ι obj) {b:Nat} (h:Own ι obj b):∃ x,w.heap[b]? = some x∧x.lG=true:=by
 obtain ⟨o,h⟩:=h
 exact (S.rep o).sN h
theorem aJ.L9 {G:Nat→Option (List DV)} {J:Nat→Prop} {w:World} {ι:Nat→Nat→Option Nat} {obj:Nat→cv} (S:aJ G J w ι obj) {z b:Nat} (hz:∃ et e rows,obj z=.live (.dat et e rows)∨obj z=.live (.kA et e rows)) (h:(obj z).own ι z b):∃ C t f,w.heap[b]? = some (.cells C t f):=by
 obtain ⟨et,e,rows,hz | hz⟩:=hz <;> rw [hz] at h
 ·have hr:=S.rep z
  rw [hz] at hr
  obtain ⟨⟨_,h1⟩,_⟩:=hr
  obtain ⟨⟨C,h2⟩,_⟩:=h1 b h
  exact ⟨_,_,_,h2⟩
 ·exact h.elim
structure Ext (obj obj':Nat→cv) (J J':Nat→Prop) (ι ι':Nat→Nat→Option Nat) (w w':World):Prop where
 ev:Ev (Own ι obj) J J' ι ι' w w'
 own:∀ b,Own ι' obj' b→Own ι obj b∨w.heap.size≤b
theorem Ext.refl (obj:Nat→cv) (J:Nat→Prop) (ι:Nat→Nat→Option Nat) (w:World):Ext obj obj J J ι ι w w:=⟨Ev.refl ..,fun _ h=>.inl h⟩
theorem Ext.trans {o1 o2 o3:Nat→cv} {J1 J2 J3:Nat→Prop} {i1 i2 i3:Nat→Nat→Option Nat} {w1 w2 w3:World}
  (h:Ext o1 o2 J1 J2 i1 i2 w1 w2) (k:Ext o2 o3 J2 J3 i2 i3 w2 w3):Ext o1 o3 J1 J3 i1 i3 w1 w3:=by
 have hs:=h.ev.size
 refine ⟨⟨k.ev.os.trans h.ev.os,k.ev.tape.trans h.ev.tape,k.ev.output.trans h.ev.output,Nat.le_trans hs k.ev.size,?_,?_,fun b hb=>k.ev.jmono b (h.ev.jmono b hb),?_,fun o n b hb=>k.ev.imono _ _ _ (h.ev.imono _ _ _ hb)⟩,?_⟩
 ·intro b hb hn
  rw [k.ev.same b (by omega) (fun hw=>(h.own b hw).elim hn (by omega)),h.ev.same b hb hn]
 ·intro b hb
  rw [k.ev.shape b (by omega),h.ev.shape b hb]
 ·intro b hb
  rcases k.ev.jnew b hb with hb | hb | hb
  ·exact h.ev.jnew b hb
  ·exact .inr (.inl (by omega))
  ·rcases h.own b hb with hb | hb
   ·exact .inr (.inr hb)
   ·exact .inr (.inl hb)
 ·intro b hb
  rcases k.own b hb with hb | hb
  ·exact h.own b hb
  ·exact .inr (by omega)
theorem fI {w:World} {b:Nat} (h:(w.shape? b).isSome=true):b<w.heap.size:=by
 unfold World.shape? at h
 rcases Nat.lt_or_ge b w.heap.size with hb | hb
 ·exact hb
 ·rw [Array.getElem?_eq_none hb] at h; cases h
section
variable {G:Nat→Option (List DV)} {J J':Nat→Prop} {w w':World} {ι ι':Nat→Nat→Option Nat} {obj obj':Nat→cv}
theorem aJ.same (S:aJ G J w ι obj) (E:Ev (Own ι obj) J J' ι ι' w w') (b:Nat) (hb:J b):w'.heap[b]? = w.heap[b]?:=
 E.same b (S.AK b hb) (fun ⟨o,ho⟩=>S.qq o b ho hb)
theorem cQ.ev (S:aJ G J w ι obj) (E:Ev (Own ι obj) J J' ι ι' w w') {x:LV} {v:Value} (h:cQ J w ι x v):cQ J' w' ι' x v:=
 cQ.mono E.jmono (S.same E) E.imono (fun b hb=>E.shape b (fI hb)) x v h
theorem bW.ev (S:aJ G J w ι obj) (E:Ev (Own ι obj) J J' ι ι' w w') {x:List LV} {v:List Value} (h:bW J w ι x v):bW J' w' ι' x v:=
 bW.mono E.jmono (S.same E) E.imono (fun b hb=>E.shape b (fI hb)) x v h
theorem bI.ev (S:aJ G J w ι obj) (E:Ev (Own ι obj) J J' ι ι' w w') {x:List LV} {v:List Value} (h:bI J w ι x v):bI J' w' ι' x v:=
 bI.mono E.jmono (S.same E) E.imono (fun b hb=>E.shape b (fI hb)) x v h
theorem gM.ev (S:aJ G J w ι obj) (E:Ev (Own ι obj) J J' ι ι' w w') {x:List (Int×LV)} {v:List MapEntry} (h:gM J w ι x v):gM J' w' ι' x v:=
 gM.mono E.jmono (S.same E) E.imono (fun b hb=>E.shape b (fI hb)) x v h
theorem h_.ev (S:aJ G J w ι obj) (E:Ev (Own ι obj) J J' ι ι' w w') {x:DV} {v:Value} (h:h_ J w x v):h_ J' w' x v:=
 h_.mono E.jmono (S.same E) x v h
theorem cU.ev (S:aJ G J w ι obj) (E:Ev (Own ι obj) J J' ι ι' w w') {x:List DV} {b off:Nat} (hb:J b) (h:cU J w x b off):cU J' w' x b off:=
 cU.mono E.jmono (S.same E) x b off (S.same E b hb) h
theorem bC.ev (S:aJ G J w ι obj) (E:Ev (Own ι obj) J J' ι ι' w w') {esz:Nat} {x:List (List DV)} {b off:Nat} (hb:w'.heap[b]? = w.heap[b]?) (h:bC J w esz x b off):bC J' w' esz x b off:=
 bC.mono E.jmono (S.same E) esz x b off hb h
end
end Dv
namespace Dv
open Go
inductive bR where
 | t (n:Nat)
 | c (x:DV)
 | g (n:Nat)
 | f (n:Nat)
inductive M where
 | Ux (n:Nat) (x:bR) (lo hi:Option bR)
 | T_ (x y:bR)
 | sU (et esz bytes:Nat) (z:List DV) (n:bR)
 | UM (x:bR)
 | stk
 | UJ (x:bR)
 | UK (esz:Nat) (z:List DV) (x:bR)
 | UN (x:bR)
 | UO (x y:bR)
 | SP
 | JE (x k y:bR)
 | Uy (z:Value) (ok:Bool) (x k:bR)
inductive I where
 | mv (x:bR)
 | pick (c x y:bR)
 | new (et:TypeId) (row:List DV)
 | box (et:TypeId) (x:bR)
 | build (zero:List DV) (parts:List (Nat×Nat×bR))
 | nh (et esz:Nat) (parts:List bR)
 | ld1 (x:bR)
 | bP (size:Nat) (x:bR)
 | st (size:Nat) (x y:bR)
 | aV (x:bR)
 | bin (op:BinOp) (x y:bR)
 | T8 (neg:Bool) (x y:bR)
 | not (x:bR)
 | y2 (k:IntKind) (x:bR)
 | aj (off:Nat) (x:bR)
 | KW (off:Nat) (x:bR)
 | O3 (off size:Nat) (x:bR)
 | eG (esz:Nat) (x i:bR)
 | Mv (len esz:Nat) (x i:bR)
 | UB (len:Nat) (x i:bR)
 | ixs (x i:bR)
 | len (x:bR)
 | lens (x:bR)
 | zS (f:Fn) (first captured:List bR)
 | ext (x:bR) (i:Nat)
 | app (et esz bytes:Nat) (x y:bR)
 | min (x y:bR)
 | max (x y:bR)
 | ic (neg:Bool) (x:bR)
 | zX (neg:Bool) (x:bR)
 | eqs (neg:Bool) (ks:List Nat) (x y:bR)
 | neg (x:bR)
 | PS (len esz:Nat) (x i:bR)
 | zm (esz:Nat) (x:bR) (lo hi mx:Option bR)
 | Xu (x:bR) (lo hi:Option bR)
 | more (m:M)
 | call (f:bR) (args:List bR)
structure dD where
 dst:Option Nat
 op:I
 guard:Option (Nat×Bool):=none
 pre:List Nat:=[]
def bR.tmps:bR→List Nat
 | .t n=>[n]
 | _=>[]
def bR.tS:Option bR→List Nat
 | some x=>x.tmps
 | none=>[]
def M.tmps:M→List Nat
 | .Ux _ x lo hi=>x.tmps++bR.tS lo++bR.tS hi
 | .T_ x y=>x.tmps++y.tmps
 | .sU _ _ _ _ n=>n.tmps
 | .UM x=>x.tmps
 | .stk=>[]
 | .UJ x=>x.tmps
 | .UK _ _ x=>x.tmps
 | .UN x=>x.tmps
 | .UO x y=>x.tmps++y.tmps
 | .SP=>[]
 | .JE x k y=>x.tmps++k.tmps++y.tmps
 | .Uy _ _ x k=>x.tmps++k.tmps
def I.tmps:I→List Nat
 | .more m=>m.tmps
 | .mv x=>x.tmps
 | .pick c x y=>c.tmps++x.tmps++y.tmps
 | .new _ _=>[]
 | .box _ x=>x.tmps
 | .build _ parts=>parts.flatMap fun p=>p.2.2.tmps
 | .nh _ _ parts=>parts.flatMap bR.tmps
 | .ld1 x=>x.tmps
 | .bP _ x=>x.tmps
 | .st _ x y=>x.tmps++y.tmps
 | .aV x=>x.tmps
 | .bin _ x y=>x.tmps++y.tmps
 | .T8 _ x y=>x.tmps++y.tmps
 | .not x=>x.tmps
 | .y2 _ x=>x.tmps
 | .aj _ x=>x.tmps
 | .KW _ x=>x.tmps
 | .O3 _ _ x=>x.tmps
 | .eG _ x i=>x.tmps++i.tmps
 | .Mv _ _ x i=>x.tmps++i.tmps
 | .UB _ x i=>x.tmps++i.tmps
 | .ixs x i=>x.tmps++i.tmps
 | .len x=>x.tmps
 | .lens x=>x.tmps
 | .zS _ a b=>a.flatMap bR.tmps++b.flatMap bR.tmps
 | .ext x _=>x.tmps
 | .app _ _ _ x y=>x.tmps++y.tmps
 | .min x y=>x.tmps++y.tmps
 | .max x y=>x.tmps++y.tmps
 | .ic _ x=>x.tmps
 | .zX _ x=>x.tmps
 | .eqs _ _ x y=>x.tmps++y.tmps
 | .neg x=>x.tmps
 | .PS _ _ x i=>x.tmps++i.tmps
 | .zm _ x lo hi mx=>x.tmps++bR.tS lo++bR.tS hi++bR.tS mx
 | .Xu x lo hi=>x.tmps++bR.tS lo++bR.tS hi
 | .call f args=>f.tmps++args.flatMap bR.tmps
structure eN where
 r:LV
 rd:List Nat:=[]
 wr:List (Nat×aD):=[]
 nw:List aD:=[]
def LV.int (n:Int):LV:=.d (.val (.int .i64 n))
def LV.bool (b:Bool):LV:=.d (.val (.bool b))
def LV.undef:LV:=.d (.val Go.undef)
def LV.cells:LV→Option (List LV)
 | .d (.val v)=>if v.oneCell' then some [.d (.val v)] else none
 | .d (.agg cs)=>some (cs.map .d)
 | .d x=>some [.d x]
 | .ptr o c=>some [.ptr o c]
 | .rp o n e r c=>some [.rp o n e r c]
 | .ip r c=>some [.ip r c]
 | .sl o n e l k=>some [.sl o n e l k]
 | .fn f a b=>some [.fn f a b]
 | .fe t v=>some [.fe t v]
 | .agg cs=>some cs
 | .c_=>some [.c_]
 | .top=>none
 | .yl _=>none
 | .mr o=>some [.mr o]
 | .dP _=>none
mutual
def LV.Pz:LV→Option DV
 | .d x=>some x
 | .fn f a b=>match LV.pM a,LV.pM b with
   | some a,some b=>some (.fn f a b)
   | _,_=>none
 | .fe t v=>match LV.Pz v with
   | some v=>some (.fe t v)
   | none=>none
 | _=>none
def LV.pM:List LV→Option (List DV)
 | []=>some []
 | x::xs=>match LV.Pz x,LV.pM xs with
   | some x,some xs=>some (x::xs)
   | _,_=>none
end
def splice {α:Type} (l:List α) (o:Nat) (xs:List α):List α:=l.take o++xs++l.drop (o+xs.length)
def rY (k:IntKind) (a b:Int):Int:=k.wrap (BitVec.ofInt k.bits a&&& BitVec.ofInt k.bits b).toNat
def yA (k:IntKind) (a b:Int):Int:=k.wrap (BitVec.ofInt k.bits a||| BitVec.ofInt k.bits b).toNat
def uo (k:IntKind) (a b:Int):Int:=k.wrap (BitVec.ofInt k.bits a ^^^ BitVec.ofInt k.bits b).toNat
def fC (k:IntKind) (a b:Int):Int:=k.wrap (BitVec.ofInt k.bits a&&& ~~~ BitVec.ofInt k.bits b).toNat
def zo (k:IntKind) (a b:Int):Int:=k.wrap (a*2 ^ (Nat.min b.toNat k.bits))
def sG (k:IntKind) (a b:Int):Int:=a.fdiv (2 ^ (Nat.min b.toNat k.bits))
def Pm (op:BinOp):Value→Value→Option Value
 | .int k a,.int k' b=>
   match op with
   | .add=>if k=k' then some (.int k (k.wrap (a+b))) else none
   | .sub=>if k=k' then some (.int k (k.wrap (a-b))) else none
   | .mul=>if k=k' then some (.int k (k.wrap (a*b))) else none
   | .quo=>if k=k'∧b≠0 then some (.int k (k.wrap (a.tdiv b))) else none
   | .rem=>if k=k'∧b≠0 then some (.int k (a.tmod b)) else none
   | .and=>if k=k' then some (.int k (rY k a b)) else none
   | .or=>if k=k' then some (.int k (yA k a b)) else none
   | .xor=>if k=k' then some (.int k (uo k a b)) else none
   | .andNot=>if k=k' then some (.int k (fC k a b)) else none
   | .shl=>if 0≤b then some (.int k (zo k a b)) else none
   | .shr=>if 0≤b then some (.int k (sG k a b)) else none
   | .eql=>if k=k' then some (.bool (a==b)) else none
   | .neq=>if k=k' then some (.bool (a !=b)) else none
   | .lss=>if k=k' then some (.bool (decide (a<b))) else none
   | .leq=>if k=k' then some (.bool (decide (a≤b))) else none
   | .gtr=>if k=k' then some (.bool (decide (a>b))) else none
   | .geq=>if k=k' then some (.bool (decide (a≥b))) else none
 | .string a,.string b=>
   match op with
   | .add=>if a.size+b.size≤9223372036854775807 then some (.string (a++b)) else none
   | .eql=>some (.bool (a.toList==b.toList))
   | .neq=>some (.bool (!(a.toList==b.toList)))
   | .lss=>some (.bool (Op.bytesLess a.toList b.toList))
   | .leq=>some (.bool (Op.bytesLess a.toList b.toList||a.toList==b.toList))
   | .gtr=>some (.bool (!(Op.bytesLess a.toList b.toList||a.toList==b.toList)))
   | .geq=>some (.bool (!(Op.bytesLess a.toList b.toList)))
   | _=>none
 | _,_=>none
def CI:Nat→Value→Value→Option Bool
 | 0,.int k a,.int k' b=>if k=k' then some (a==b) else none
 | 1,.bool a,.bool b=>some (a==b)
 | 2,.string a,.string b=>some (a.toList==b.toList)
 | _,_,_=>none
def dH:List Nat→List LV→List LV→Option Bool
 | [],[],[]=>some true
 | k::ks,.d (.val a)::xs,.d (.val b)::ys=>match CI k a b,dH ks xs ys with
   | some p,some q=>some (p&&q)
   | _,_=>none
 | _,_,_=>none
def fK (dflt:Nat):Option LV→Option Nat
 | none=>some dflt
 | some (.d (.val (.int _ i)))=>if 0≤i then some i.toNat else none
 | some _=>none
section
variable (G:Nat→Option (List DV)) (get:Nat→LV) (obj:Nat→cv) (base:Nat)
def bR.ev:bR→LV
 | .t n=>get n
 | .c x=>.d x
 | .g n=>match G n with | some row=>.ip row 0 | none=>.top
 | .f n=>.d (.fn (.func n) [] [])
def pF:List LV→List (Nat×Nat×bR)→Option (List LV)
 | cells,[]=>some cells
 | cells,(off,size,x)::rest=>match (x.ev G get).cells with
   | some cs=>if cs.length=size∧off+cs.length≤cells.length then pF (splice cells off cs) rest else none
   | none=>none
def rowsOf (esz:Nat):List bR→Option (List (List DV))
 | []=>some []
 | x::xs=>match (x.ev G get).cells with
   | some cs=>match LV.pM cs with
     | some ds=>if ds.length=esz then (match rowsOf esz xs with | some r=>some (ds::r) | none=>none) else none
     | none=>none
   | none=>none
def rW:List bR→Option (List LV)
 | []=>some []
 | x::xs=>match (x.ev G get).cells with
   | some cs=>if cs.length=1 then (match rW xs with | some r=>some (cs++r) | none=>none) else none
   | none=>none
def aU (esz:Nat):LV→Option (List (List DV)×List Nat)
 | .d (.dY e rows)=>if e=esz then some (rows,[]) else none
 | .d (.val (.slice none 0 0))=>some ([],[])
 | .d (.val (.string s))=>if esz=1 then some (s.data.toList.map fun b=>[.val (.int .u8 b.toNat)],[]) else none
 | .sl o n e lo len=>match obj o with
   | .live (.dat _ e' rows)=>if e=esz∧e'=esz∧n=rows.length∧lo+len≤n then some ((rows.drop lo).take len,[o]) else none
   | .live (.kA _ e' rows)=>if e=esz∧e'=esz∧n=rows.length∧lo+len≤n then some ((rows.drop lo).take len,[o]) else none
   | .live (.box _ cells)=>if e=esz∧esz=1∧n=0∧lo+len≤cells.length then (match LV.pM ((cells.drop lo).take len) with
     | some ds=>some (ds.map fun x=>[x],[o])
     | none=>none) else none
   | _=>none
 | _=>none
def bytesOf:List (List DV)→Option (List UInt8)
 | []=>some []
 | [.val (.int .u8 n)]::r=>match bytesOf r with
   | some bs=>some (UInt8.ofNat n.toNat::bs)
   | none=>none
 | _=>none
def getM:List (Int×LV)→Int→Option LV
 | [],_=>none
 | (k,x)::r,n=>if n=k then some x else getM r n
def xG:List (Int×LV)→Int→LV→List (Int×LV)
 | [],n,y=>[(n,y)]
 | (k,x)::r,n,y=>if n=k then (k,y)::r else (k,x)::xG r n y
def eU:M→Option eN
 | .Ux n x lo hi=>match x.ev G get with
   | .ptr o col=>match obj o with
     | .live (.box _ cells)=>match fK 0 (lo.map (·.ev G get)),fK n (hi.map (·.ev G get)) with
       | some l,some h=>if l≤h∧h≤n∧col+n≤cells.length then some { r:=.sl o 0 1 (col+l) (h-l),rd:=[o] } else none
       | _,_=>none
     | _=>none
   | _=>none
 | .T_ x y=>match aU obj 1 (y.ev G get) with
   | some (new,rd)=>(match x.ev G get with
     | .sl o 0 1 lo len=>match obj o with
       | .live (.box et cells)=>if lo+len≤cells.length∧new.length≤len then
         some { r:=.int new.length,rd:=o::rd,wr:=[(o,.box et (splice cells lo (new.flatten.map .d)))] } else none
       | _=>none
     | .sl o n 1 lo len=>match obj o with
       | .live (.dat et 1 rows)=>if n=rows.length∧lo+len≤rows.length∧new.length≤len∧rows≠[] then
         some { r:=.int new.length,rd:=o::rd,wr:=[(o,.dat et 1 (splice rows lo new))] } else none
       | _=>none
     | _=>none)
   | none=>none
 | .sU et esz bytes z n=>match n.ev G get with
   | .d (.val (.int _ k))=>if 0≤k∧k.toNat*bytes≤70368744177664∧k≤9223372036854775807 then some { r:=.sl base k.toNat esz 0 k.toNat,nw:=[.dat et esz (List.replicate k.toNat z)] } else none
   | _=>none
 | .UM x=>match x.ev G get with
   | .d (.val (.string _))=>none
   | y=>match aU obj 1 y with
     | some (rows,rd)=>match bytesOf rows with
       | some bs=>some { r:=.d (.val (.string ⟨bs.toArray⟩)),rd:=rd }
       | none=>none
     | none=>none
 | .stk=>none
 | .UJ x=>match x.ev G get with
   | .d (.val (.int k a))=>some { r:=.d (.val (.int k (uo k (if k.signed=true then -1 else k.max) a))) }
   | _=>none
 | .UK esz z x=>match x.ev G get with
   | .sl o n e lo len=>match obj o with
     | .live (.dat et e' rows)=>if e=esz∧e'=esz∧n=rows.length∧lo+len≤rows.length∧0<len then
       some { r:=.undef,rd:=[o],wr:=[(o,.dat et e' (splice rows lo (List.replicate len z)))] } else none
     | _=>none
   | _=>none
 | .UN x=>match x.ev G get with
   | .ptr o c=>match obj o with
     | .live (.box et cells)=>match cells[c]? with
       | some (.d (.val (.int .i64 a)))=>some { r:=.int a,rd:=[o] }
       | _=>none
     | _=>none
   | _=>none
 | .UO x y=>match x.ev G get,y.ev G get with
   | .ptr o c,.d (.val (.int .i64 d))=>match obj o with
     | .live (.box et cells)=>match cells[c]? with
       | some (.d (.val (.int .i64 a)))=>some { r:=.int (IntKind.i64.wrap (a+d)),rd:=[o],wr:=[(o,.box et (splice cells c [.int (IntKind.i64.wrap (a+d))]))] }
       | _=>none
     | _=>none
   | _,_=>none
 | .SP=>some { r:=.mr base,nw:=[.mp []] }
 | .JE x k y=>match x.ev G get,k.ev G get with
   | .mr o,.d (.val (.int .i64 n))=>match obj o with
     | .live (.mp es)=>some { r:=.undef,rd:=[o],wr:=[(o,.mp (xG es n (y.ev G get)))] }
     | _=>none
   | _,_=>none
 | .Uy z ok x k=>match x.ev G get,k.ev G get with
   | .mr o,.d (.val (.int .i64 n))=>match obj o with
     | .live (.mp es)=>match getM es n with
       | some y=>some { r:=bif ok then .dP [y,.bool true] else y,rd:=[o] }
       | none=>some { r:=bif ok then .dP [.d (.val z),.bool false] else .d (.val z),rd:=[o] }
     | _=>none
   | _,_=>none
def cB:I→Option eN
 | .more m=>eU G get obj base m
 | .mv x=>some { r:=x.ev G get }
 | .pick c x y=>match c.ev G get with
   | .d (.val (.bool b))=>some { r:=bif b then x.ev G get else y.ev G get }
   | _=>none
 | .new et row=>some { r:=.ptr base 0,nw:=[.box et (row.map .d)] }
 | .box et x=>match (x.ev G get).cells with
   | some cs=>some { r:=.ptr base 0,nw:=[.box et cs] }
   | none=>none
 | .build zero parts=>match pF G get (zero.map .d) parts with
   | some cs=>some { r:=.agg cs }
   | none=>none
 | .nh et esz parts=>match rowsOf G get esz parts with
   | some rows=>some { r:=.sl base rows.length esz 0 rows.length,nw:=[.dat et esz rows] }
   | none=>if esz=1 then (match rW G get parts with
     | some cs=>some { r:=.sl base 0 1 0 cs.length,nw:=[.box et cs] }
     | none=>none) else none
 | .ld1 x=>match x.ev G get with
   | .ptr o col=>match obj o with
     | .live (.box et cells)=>match cells[col]? with
       | some v=>some { r:=v,rd:=[o] }
       | none=>none
     | _=>none
   | .ip row col=>match row[col]? with
     | some v=>some { r:=.d v }
     | none=>none
   | .rp o n esz row col=>match obj o with
     | .live (.dat et Ar rows)=>if esz=Ar∧n=rows.length then (match rows[row]? with
       | some r=>match r[col]? with
         | some v=>some { r:=.d v,rd:=[o] }
         | none=>none
       | none=>none) else none
     | _=>none
   | _=>none
 | .bP size x=>match x.ev G get with
   | .ptr o col=>match obj o with
     | .live (.box et cells)=>if ((cells.drop col).take size).length=size then some { r:=.agg ((cells.drop col).take size),rd:=[o] } else none
     | _=>none
   | .ip row col=>if ((row.drop col).take size).length=size then some { r:=.agg (((row.drop col).take size).map .d) } else none
   | .rp o n esz row col=>match obj o with
     | .live (.dat et Ar rows)=>if esz=Ar∧n=rows.length then (match rows[row]? with
       | some r=>if ((r.drop col).take size).length=size then some { r:=.agg (((r.drop col).take size).map .d),rd:=[o] } else none
       | none=>none) else none
     | _=>none
   | _=>none
 | .st size x y=>match (y.ev G get).cells with
   | some cs=>if cs.length=size then (match x.ev G get with
     | .ptr o col=>match obj o with
       | .live (.box et cells)=>if col+cs.length≤cells.length then some { r:=.undef,rd:=[o],wr:=[(o,.box et (splice cells col cs))] } else none
       | _=>none
     | .rp o n esz row col=>match obj o with
       | .live (.dat et Ar rows)=>if esz=Ar∧n=rows.length then (match LV.pM cs with
         | some ds=>match rows[row]? with
           | some r=>if col+ds.length≤r.length then some { r:=.undef,rd:=[o],wr:=[(o,.dat et Ar (rows.set row (splice r col ds)))] } else none
           | none=>none
         | none=>none) else none
       | _=>none
     | _=>none) else none
   | none=>none
 | .aV x=>match x.ev G get with
   | .ptr o col=>some { r:=.ptr o col }
   | .rp o n e r c=>some { r:=.rp o n e r c }
   | .ip r c=>some { r:=.ip r c }
   | _=>none
 | .bin op x y=>match x.ev G get,y.ev G get with
   | .d (.val a),.d (.val b)=>match Pm op a b with
     | some v=>some { r:=.d (.val v) }
     | none=>none
   | _,_=>none
 | .T8 neg x y=>match x.ev G get,y.ev G get with
   | .d (.val (.bool a)),.d (.val (.bool b))=>some { r:=.bool (bif neg then !(a==b) else a==b) }
   | _,_=>none
 | .not x=>match x.ev G get with
   | .d (.val (.bool a))=>some { r:=.bool (!a) }
   | _=>none
 | .y2 k x=>match x.ev G get with
   | .d (.val (.int _ a))=>some { r:=.d (.val (.int k (k.wrap a))) }
   | _=>none
 | .aj off x=>match x.ev G get with
   | .ptr o col=>some { r:=.ptr o (col+off) }
   | .rp o n e r c=>some { r:=.rp o n e r (c+off) }
   | .ip r c=>some { r:=.ip r (c+off) }
   | _=>none
 | .KW off x=>match x.ev G get with
   | .agg cs=>match cs[off]? with
     | some v=>some { r:=v }
     | none=>none
   | _=>none
 | .O3 off size x=>match x.ev G get with
   | .agg cs=>if ((cs.drop off).take size).length=size then some { r:=.agg ((cs.drop off).take size) } else none
   | _=>none
 | .eG esz x i=>match i.ev G get with
   | .d (.val (.int _ i))=>if 0≤i then (match x.ev G get with
     | .d (.dY e rows)=>if e=esz then (match rows[i.toNat]? with
       | some r=>some { r:=.ip r 0 }
       | none=>none) else none
     | .sl o n e lo len=>match obj o with
       | .live (.kA et e' rows)=>if e=esz∧e'=esz∧n=rows.length∧i.toNat<len then (match rows[lo+i.toNat]? with
         | some r=>some { r:=.ip r 0,rd:=[o] }
         | none=>none) else none
       | .live (.box _ _)=>if e=esz∧e=1∧n=0∧i.toNat<len then some { r:=.ptr o (lo+i.toNat),rd:=[o] } else none
       | _=>if e=esz∧i.toNat<len then some { r:=.rp o n e (lo+i.toNat) 0,rd:=[o] } else none
     | _=>none) else none
   | _=>none
 | .Mv len esz x i=>match i.ev G get with
   | .d (.val (.int _ i))=>if 0≤i∧i.toNat<len then (match x.ev G get with
     | .ptr o col=>some { r:=.ptr o (col+i.toNat*esz) }
     | .rp o n e r c=>some { r:=.rp o n e r (c+i.toNat*esz) }
     | .ip r c=>some { r:=.ip r (c+i.toNat*esz) }
     | _=>none) else none
   | _=>none
 | .UB len x i=>match i.ev G get with
   | .d (.val (.int _ i))=>if 0≤i∧i.toNat<len then (match x.ev G get with
     | .agg cs=>match cs[i.toNat]? with
       | some v=>some { r:=v }
       | none=>none
     | _=>none) else none
   | _=>none
 | .ixs x i=>match i.ev G get,x.ev G get with
   | .d (.val (.int _ i)),.d (.val (.string s))=>if 0≤i then (match s.data.toList[i.toNat]? with
     | some b=>some { r:=.d (.val (.int .u8 b.toNat)) }
     | none=>none) else none
   | _,_=>none
 | .len x=>match x.ev G get with
   | .d (.dY e rows)=>some { r:=.int rows.length }
   | .d (.val (.slice none 0 0))=>some { r:=.int 0 }
   | .sl o n e lo len=>some { r:=.int len }
   | _=>none
 | .lens x=>match x.ev G get with
   | .d (.val (.string s))=>some { r:=.int s.size }
   | _=>none
 | .zS f a b=>some { r:=.fn f (a.map (·.ev G get)) (b.map (·.ev G get)) }
 | .ext x i=>match x.ev G get with
   | .dP vs=>match vs[i]? with
     | some v=>some { r:=v }
     | none=>none
   | _=>none
 | .app et esz bytes x y=>match aU obj esz (y.ev G get) with
   | some (new,rd)=>(match x.ev G get with
     | .d (.val (.slice none 0 0))=>if new.length*bytes≤70368744177664 then
       some { r:=.sl base new.length esz 0 new.length,rd:=rd,nw:=[.dat et esz new] } else none
     | .sl o n e lo len=>match obj o with
       | .live (.dat et' e' rows)=>if et'=et∧e=esz∧e'=esz∧n=rows.length∧lo=0∧len=n∧(rows++new).length*bytes≤70368744177664 then
         some { r:=.sl o (rows.length+new.length) esz 0 (rows.length+new.length),rd:=o::rd,wr:=[(o,.dat et' esz (rows++new))] } else none
       | _=>none
     | _=>none)
   | none=>none
 | .min x y=>match x.ev G get,y.ev G get with
   | .d (.val (.int k a)),.d (.val (.int _ b))=>some { r:=.d (.val (.int k (if b<a then b else a))) }
   | _,_=>none
 | .max x y=>match x.ev G get,y.ev G get with
   | .d (.val (.int k a)),.d (.val (.int _ b))=>some { r:=.d (.val (.int k (if b>a then b else a))) }
   | _,_=>none
 | .ic neg x=>match x.ev G get with
   | .ptr _ _=>some { r:=.bool neg }
   | .rp _ _ _ _ _=>some { r:=.bool neg }
   | .ip _ _=>some { r:=.bool neg }
   | .d (.val (.pointer none))=>some { r:=.bool !neg }
   | _=>none
 | .zX neg x=>match x.ev G get with
   | .d (.val (.slice none 0 0))=>some { r:=.bool !neg }
   | .d (.dY _ rows)=>some { r:=if rows.length=0 then .c_ else .bool neg }
   | .sl _ _ _ _ len=>some { r:=if len=0 then .c_ else .bool neg }
   | _=>none
 | .eqs neg ks x y=>match x.ev G get,y.ev G get with
   | .agg xs,.agg ys=>match dH ks xs ys with
     | some b=>some { r:=.bool (bif neg then !b else b) }
     | none=>none
   | _,_=>none
 | .neg x=>match x.ev G get with
   | .d (.val (.int k a))=>some { r:=.d (.val (.int k (k.wrap (0-a)))) }
   | _=>none
 | .PS len esz x i=>match i.ev G get with
   | .d (.val (.int _ i))=>if 0≤i∧i.toNat<len then (match x.ev G get with
     | .agg cs=>if ((cs.drop (i.toNat*esz)).take esz).length=esz then some { r:=.agg ((cs.drop (i.toNat*esz)).take esz) } else none
     | _=>none) else none
   | _=>none
 | .zm esz x lo hi mx=>match x.ev G get with
   | .d (.dY e rows)=>match fK 0 (lo.map (·.ev G get)),fK rows.length (hi.map (·.ev G get)),fK rows.length (mx.map (·.ev G get)) with
     | some l,some h,some m=>if e=esz∧l≤h∧h≤m∧m≤rows.length then some { r:=.d (.dY esz ((rows.drop l).take (h-l))) } else none
     | _,_,_=>none
   | .sl o n e XZ len=>match fK 0 (lo.map (·.ev G get)),fK len (hi.map (·.ev G get)),fK len (mx.map (·.ev G get)) with
     | some l,some h,some m=>if e=esz∧l≤h∧h≤m∧m≤len then some { r:=.sl o n e (XZ+l) (h-l) } else none
     | _,_,_=>none
   | .d (.val (.slice none 0 0))=>match fK 0 (lo.map (·.ev G get)),fK 0 (hi.map (·.ev G get)),fK 0 (mx.map (·.ev G get)) with
     | some l,some h,some m=>if l≤h∧h≤m∧m≤0 then some { r:=.d (.val (.slice none 0 0)) } else none
     | _,_,_=>none
   | _=>none
 | .Xu x lo hi=>match x.ev G get with
   | .d (.val (.string s))=>match fK 0 (lo.map (·.ev G get)),fK s.size (hi.map (·.ev G get)) with
     | some l,some h=>if l≤h∧h≤s.size then some { r:=.d (.val (.string (s.extract l h))) } else none
     | _,_=>none
   | _=>none
 | .call _ _=>none
end
end Dv
namespace Dv
open Go
theorem tL {α:Type} (l:List α) (o:Nat) (x:α) (xs:List α) (h:o<l.length):splice (l.set o x) (o+1) xs=splice l o (x::xs):=by
 unfold splice
 rw [List.take_set,List.take_add_one,List.getElem?_eq_getElem h,List.drop_set]
 simp only [List.length_cons]
 rw [if_pos (by omega),List.set_append,List.length_take,Nat.min_eq_left (by omega),if_neg (by omega)]
 simp only [Option.toList_some,Nat.sub_self,List.set_cons_zero,List.append_assoc,List.cons_append,List.nil_append]
 rw [show o+1+xs.length=o+(xs.length+1) by omega]
theorem iL {α:Type} (l:List α) (o:Nat) (xs:List α) (h:o+xs.length≤l.length):(splice l o xs).length=l.length:=by
 unfold splice
 simp only [List.length_append,List.length_take,List.length_drop]; omega
theorem gr {b:Nat} {et:TypeId} {fr:Nat×Nat} : ∀ (vs:List Value) (o:Nat) (w:World) (C:Array Value),w.heap[b]? = some (.cells C et fr)→o+vs.length≤C.size→
  ∃ C',(w.setCells b o vs).heap[b]? = some (.cells C' et fr)∧C'.toList=splice C.toList o vs
 | [],o,w,C,h,hl=>⟨C,h,by simp [splice]⟩
 | v::r,o,w,C,h,hl=>by
   simp only [List.length_cons] at hl
   have h1:(w.setCell ⟨b,o,none⟩ v).heap[b]? = some (.cells (C.setIfInBounds o v) et fr):=by
    simp [World.setCell,Array.getElem?_modify,h]
   obtain ⟨C',h2,h3⟩:=gr r (o+1) _ _ h1 (by simp; omega)
   refine ⟨C',by rw [World.setCells]; exact h2,?_⟩
   rw [h3,Array.toList_setIfInBounds,tL _ _ _ _ (by simp; omega)]
theorem heap_setCells_other {b k:Nat} (h:k≠b):∀ (vs:List Value) (o:Nat) (w:World),(w.setCells b o vs).heap[k]? = w.heap[k]?
 | [],_,_=>rfl
 | v::r,o,w=>by
   rw [World.setCells,heap_setCells_other h r]
   simp only [World.setCell,Array.getElem?_modify]
   rw [if_neg (by omega)]
theorem size_setCells (b:Nat):∀ (vs:List Value) (o:Nat) (w:World),(w.setCells b o vs).heap.size=w.heap.size
 | [],_,_=>rfl
 | v::r,o,w=>by rw [World.setCells,size_setCells b r]; simp
theorem o9 (b:Nat):∀ (vs:List Value) (o:Nat) (w:World),(w.setCells b o vs).os=w.os∧(w.setCells b o vs).tape=w.tape∧(w.setCells b o vs).output=w.output
 | [],_,_=>⟨rfl,rfl,rfl⟩
 | v::r,o,w=>by rw [World.setCells]; exact o9 b r (o+1) _
theorem gQ (b:Nat):∀ (vs:List Value) (o:Nat) (w:World) (k:Nat),(w.setCells b o vs).shape? k=w.shape? k
 | [],_,_,_=>rfl
 | v::r,o,w,k=>by
   rw [World.setCells,gQ b r]
   simp only [World.setCell,World.shape?,Array.getElem?_modify]
   by_cases hb:b=k
   ·subst hb
    simp only [if_true]
    cases w.heap[b]? with
    | none=>rfl
    | some x=>cases x <;> simp
   ·rw [if_neg hb]
theorem eP (w:World) (o:Obj) (k:Nat) (h:k<w.heap.size):(w.alloc o).heap[k]? = w.heap[k]?:=by
 show (w.heap.push o)[k]? = _
 rw [Array.getElem?_push,if_neg (by omega)]
theorem dB (w:World) (o:Obj):(w.alloc o).heap[w.heap.size]? = some o:=by
 show (w.heap.push o)[w.heap.size]? = _
 rw [Array.getElem?_push,if_pos rfl]
theorem Dy {w:World} {b:Nat} {x:Obj} (h:w.heap[b]? = some x):b<w.heap.size:=(Array.getElem?_eq_some_iff.1 h).1
section
variable {G:Nat→Option (List DV)} {J J':Nat→Prop} {w w':World} {ι ι':Nat→Nat→Option Nat} {obj obj':Nat→cv}
theorem aJ.kS (S:aJ G J w ι obj) {b:Nat} (h:Own ι obj b):b<w.heap.size:=by
 obtain ⟨o,ho⟩:=h
 obtain ⟨x,hh,_⟩:=(S.rep o).sN ho
 exact Dy hh
theorem mN.keep (S:aJ G J w ι obj) (E:Ev (Own ι obj) J J' ι ι' w w') {o:Nat} (hk:∀ n,ι' o n=ι o n) (hb:∀ b,(obj o).own ι o b→w'.heap[b]? = w.heap[b]?):mN J' w' ι' o (obj o):=by
 have h:=S.rep o
 cases hs:obj o with
 | free=>rw [hs] at h; intro n; rw [hk]; exact h n
 | dead=>trivial
 | live ob=>
   rw [hs] at h hb
   obtain ⟨h,hkey⟩:=h
   cases ob with
   | box et cells=>
     obtain ⟨b,C,h1,h2,h3⟩:=h
     exact ⟨⟨b,C,by rw [hk]; exact h1,by rw [hb b h1]; exact h2,h3.ev S E⟩,trivial⟩
   | dat et esz rows=>
     obtain ⟨h1,h2⟩:=h
     refine ⟨⟨by rw [hk]; exact h1,fun b hb'=>?_⟩,fun n hn=>by rw [hk]; exact hkey n hn⟩
     rw [hk] at hb'
     obtain ⟨⟨C,h3⟩,h4⟩:=h2 b hb'
     exact ⟨⟨C,by rw [hb b hb']; exact h3⟩,h4.ev S E (hb b hb')⟩
   | kA et esz rows=>
     obtain ⟨h1,h2⟩:=h
     refine ⟨⟨by rw [hk]; exact h1,fun b hb'=>?_⟩,trivial⟩
     rw [hk] at hb'
     obtain ⟨h3,h4⟩:=h2 b hb'
     exact ⟨E.jmono b h3,h4.ev S E (S.same E b h3)⟩
   | mp es=>
     obtain ⟨b,C,c,h1,h2,h3⟩:=h
     exact ⟨⟨b,C,c,by rw [hk]; exact h1,by rw [hb b h1]; exact h2,h3.ev S E⟩,trivial⟩
theorem cv.jN {o:Nat} {s:cv} (hk:∀ n,ι' o n=ι o n) {b:Nat} : s.own ι' o b↔s.own ι o b:=by
 cases s with
 | free=>exact Iff.rfl
 | dead=>exact Iff.rfl
 | live ob=>cases ob <;> simp only [cv.own,aD.own,hk]
theorem aJ.qK (S:aJ G J w ι obj) (o0:Nat) (s:cv) (E:Ev (Own ι obj) J J ι ι' w w') (hk:∀ o,o≠o0→∀ n,ι' o n=ι o n)
  (hb:∀ b,b<w.heap.size→¬ (obj o0).own ι o0 b→w'.heap[b]? = w.heap[b]?)
  (hs:mN J w' ι' o0 s) (hown:∀ b,s.own ι' o0 b→(obj o0).own ι o0 b∨w.heap.size≤b) :
  aJ G J w' ι' (fun o=>if o=o0 then s else obj o)∧Ext obj (fun o=>if o=o0 then s else obj o) J J ι ι' w w':=by
 have hO:∀ o b,(if o=o0 then s else obj o).own ι' o b→(o=o0∧s.own ι' o0 b)∨(o≠o0∧(obj o).own ι o b):=by
  intro o b h
  by_cases ho:o=o0
  ·subst ho; rw [if_pos rfl] at h; exact .inl ⟨rfl,h⟩
  ·rw [if_neg ho] at h; exact .inr ⟨ho,(cv.jN (hk o ho)).1 h⟩
 have hlt:∀ o b,(obj o).own ι o b→b<w.heap.size:=fun o b h=>S.kS ⟨o,h⟩
 refine ⟨⟨?_,?_,?_,?_,?_⟩,⟨E,?_⟩⟩
 ·intro o
  by_cases ho:o=o0
  ·subst ho; rw [if_pos rfl]; exact hs
  ·rw [if_neg ho]
   exact mN.keep S E (hk o ho) (fun b h=>hb b (hlt o b h) (fun h'=>ho (S.inj o o0 b h h')))
 ·intro o o' b h h'
  rcases hO o b h with ⟨e1,k⟩ | ⟨ho,k⟩ <;> rcases hO o' b h' with ⟨e2,k'⟩ | ⟨ho',k'⟩
  ·rw [e1,e2]
  ·rw [e1]
   rcases hown b k with h2 | h2
   ·exact S.inj _ _ _ h2 k'
   ·have:=hlt _ _ k'; omega
  ·rw [e2]
   rcases hown b k' with h2 | h2
   ·exact S.inj _ _ _ k h2
   ·have:=hlt _ _ k; omega
  ·exact S.inj _ _ _ k k'
 ·intro o b h hj
  rcases hO o b h with ⟨rfl,h⟩ | ⟨ho,h⟩
  ·rcases hown b h with h2 | h2
   ·exact S.qq _ _ h2 hj
   ·have:=S.AK b hj; omega
  ·exact S.qq _ _ h hj
 ·intro b hj; rw [S.same E b hj]; exact S.jcell b hj
 ·intro g row hg
  obtain ⟨h1,h2,t,h3⟩:=S.wA g row hg
  exact ⟨h1,h2.ev S E h1,t,by rw [E.shape g (S.AK g h1)]; exact h3⟩
 ·rintro b ⟨o,h⟩
  rcases hO o b h with ⟨rfl,h⟩ | ⟨ho,h⟩
  ·exact (hown b h).imp (fun h=>⟨_,h⟩) id
  ·exact .inl ⟨o,h⟩
theorem Ev.alloc (W J:Nat→Prop) (w:World) (n:Nat) (x:Obj) (hi:∀ o n b,ι o n=some b→ι' o n=some b):Ev W J J ι ι' w ({ w with drawn:=n }.alloc x):=by
 refine ⟨rfl,rfl,rfl,by simp,fun b hb _=>?_,fun b hb=>?_,fun _ h=>h,fun _ h=>.inl h,hi⟩
 ·exact eP { w with drawn:=n } x b hb
 ·exact bD (eP { w with drawn:=n } x b hb)
theorem Ev.setCells (J:Nat→Prop) (w:World) (b o:Nat) (vs:List Value) (hw:Own ι obj b) (hi:∀ o n b,ι o n=some b→ι' o n=some b):Ev (Own ι obj) J J ι ι' w (w.setCells b o vs):=by
 obtain ⟨h1,h2,h3⟩:=o9 b vs o w
 refine ⟨h1,h2,h3,by rw [size_setCells]; exact Nat.le_refl _,fun k hk hn=>?_,fun k hk=>gQ b vs o w k,fun _ h=>h,fun _ h=>.inl h,hi⟩
 exact heap_setCells_other (fun e=>hn (by rw [e]; exact hw)) vs o w
end
section
variable {J:Nat→Prop} {w:World} {ι:Nat→Nat→Option Nat}
theorem bW.length:∀ {xs:List LV} {vs:List Value},bW J w ι xs vs→xs.length=vs.length
 | [],[],_=>rfl
 | x::xs,v::vs,h=>by simp [bW.length h.2]
 | [],_::_,h=>h.elim
 | _::_,[],h=>h.elim
theorem bI.length:∀ {xs:List LV} {vs:List Value},bI J w ι xs vs→xs.length=vs.length
 | [],[],_=>rfl
 | x::xs,v::vs,h=>by simp [bI.length h.2.2]
 | [],_::_,h=>h.elim
 | _::_,[],h=>h.elim
theorem bI.get:∀ {xs:List LV} {vs:List Value} {i:Nat} {x:LV},bI J w ι xs vs→xs[i]? = some x→∃ v,vs[i]? = some v∧v.oneCell'=true∧cQ J w ι x v
 | [],[],i,x,_,h=>by simp at h
 | y::xs,v::vs,0,x,h,hx=>by simp at hx; subst hx; exact ⟨v,by simp,h.1,h.2.1⟩
 | y::xs,v::vs,i+1,x,h,hx=>by simpa using bI.get h.2.2 (by simpa using hx)
 | [],_::_,_,_,h,_=>h.elim
 | _::_,[],_,_,h,_=>h.elim
theorem bW.get:∀ {xs:List LV} {vs:List Value} {i:Nat} {x:LV},bW J w ι xs vs→xs[i]? = some x→∃ v,vs[i]? = some v∧cQ J w ι x v
 | [],[],i,x,_,h=>by simp at h
 | y::xs,v::vs,0,x,h,hx=>by simp at hx; subst hx; exact ⟨v,by simp,h.1⟩
 | y::xs,v::vs,i+1,x,h,hx=>by simpa using bW.get h.2 (by simpa using hx)
 | [],_::_,_,_,h,_=>h.elim
 | _::_,[],_,_,h,_=>h.elim
theorem bI.one:∀ {xs:List LV} {vs:List Value},bI J w ι xs vs→∀ v∈vs,v.oneCell'=true
 | [],[],_,v,h=>by cases h
 | x::xs,y::vs,h,v,hv=>by
   rcases List.mem_cons.1 hv with rfl | hv
   ·exact h.1
   ·exact bI.one h.2.2 v hv
 | [],_::_,h,_,_=>h.elim
 | _::_,[],h,_,_=>h.elim
theorem bI.append:∀ {xs ys:List LV} {vs us:List Value},bI J w ι xs vs→bI J w ι ys us→bI J w ι (xs++ys) (vs++us)
 | [],ys,[],us,_,h=>h
 | x::xs,ys,v::vs,us,h,k=>⟨h.1,h.2.1,bI.append h.2.2 k⟩
 | [],_,_::_,_,h,_=>h.elim
 | _::_,_,[],_,h,_=>h.elim
theorem bI.take:∀ (n:Nat) {xs:List LV} {vs:List Value},bI J w ι xs vs→bI J w ι (xs.take n) (vs.take n)
 | 0,_,_,_=>by simp [bI]
 | n+1,[],[],_=>by simp [bI]
 | n+1,x::xs,v::vs,h=>by simpa [bI] using ⟨h.1,h.2.1,bI.take n h.2.2⟩
 | _+1,[],_::_,h=>h.elim
 | _+1,_::_,[],h=>h.elim
theorem bI.drop:∀ (n:Nat) {xs:List LV} {vs:List Value},bI J w ι xs vs→bI J w ι (xs.drop n) (vs.drop n)
 | 0,_,_,h=>by simpa using h
 | n+1,[],[],_=>by simp [bI]
 | n+1,x::xs,v::vs,h=>by simpa using bI.drop n h.2.2
 | _+1,[],_::_,h=>h.elim
 | _+1,_::_,[],h=>h.elim
theorem bI.splice {xs ys:List LV} {vs us:List Value} (o:Nat) (h:bI J w ι xs vs) (k:bI J w ι ys us):bI J w ι (splice xs o ys) (splice vs o us):=by
 unfold Dv.splice
 rw [k.length]
 exact (bI.append (bI.append (h.take o) k) (h.drop _))
theorem bI.xC:∀ {xs:List LV} {vs:List Value},bI J w ι xs vs→bW J w ι xs vs
 | [],[],_=>trivial
 | x::xs,v::vs,h=>⟨h.2.1,bI.xC h.2.2⟩
 | [],_::_,h=>h.elim
 | _::_,[],h=>h.elim
theorem bI.X6:∀ {xs:List LV} {vs:List Value},bW J w ι xs vs→(∀ v∈vs,v.oneCell'=true)→bI J w ι xs vs
 | [],[],_,_=>trivial
 | x::xs,v::vs,h,k=>⟨k v (by simp),h.1,bI.X6 h.2 (fun u hu=>k u (by simp [hu]))⟩
 | [],_::_,h,_=>h.elim
 | _::_,[],h,_=>h.elim
theorem bq.xC:∀ {xs:List DV} {vs:List Value},bq J w xs vs→bW J w ι (xs.map .d) vs
 | [],[],_=>trivial
 | x::xs,v::vs,h=>⟨h.1,bq.xC h.2⟩
 | [],_::_,h=>h.elim
 | _::_,[],h=>h.elim
theorem cU.get {b:Nat} : ∀ {xs:List DV} {off i:Nat} {x:DV},cU J w xs b off→xs[i]? = some x→∃ v,w.cell? ⟨b,off+i,none⟩=some v∧v.oneCell'=true∧h_ J w x v
 | [],off,i,x,_,h=>by simp at h
 | y::xs,off,0,x,h,hx=>by simp at hx; subst hx; exact h.1
 | y::xs,off,i+1,x,h,hx=>by
   have:=cU.get h.2 (by simpa using hx:xs[i]? = some x)
   rwa [show off+(i+1)=off+1+i by omega]
theorem cU.drop {b:Nat} : ∀ (n:Nat) {xs:List DV} {off:Nat},cU J w xs b off→cU J w (xs.drop n) b (off+n)
 | 0,_,_,h=>by simpa using h
 | n+1,[],_,_=>by simp [cU]
 | n+1,x::xs,off,h=>by
   have:=cU.drop n h.2
   rw [show off+(n+1)=off+1+n by omega]
   simpa using this
theorem cU.take {b:Nat} : ∀ (n:Nat) {xs:List DV} {off:Nat},cU J w xs b off→cU J w (xs.take n) b off
 | 0,_,_,h=>by simp [cU]
 | n+1,[],_,_=>by simp [cU]
 | n+1,x::xs,off,h=>by simpa [cU] using ⟨h.1,cU.take n h.2⟩
theorem cU.append {b:Nat} : ∀ {xs ys:List DV} {off:Nat},cU J w xs b off→cU J w ys b (off+xs.length)→cU J w (xs++ys) b off
 | [],ys,off,_,h=>by simpa using h
 | x::xs,ys,off,h,k=>⟨h.1,cU.append h.2 (by rw [show off+1+xs.length=off+(xs.length+1) by omega]; exact k)⟩
theorem cU.vals {b:Nat} : ∀ {xs:List DV} {off:Nat},cU J w xs b off→∃ vs:List Value,bq J w xs vs∧(∀ v∈vs,v.oneCell'=true)∧w.rangeAt b off vs
 | [],off,_=>⟨[],trivial,by simp,fun j v h=>by simp at h⟩
 | x::xs,off,h=>by
   obtain ⟨⟨v,h1,h2,h3⟩,hr⟩:=h
   obtain ⟨vs,k1,k2,k3⟩:=cU.vals hr
   refine ⟨v::vs,⟨h3,k1⟩,by simpa [h2] using k2,fun j u hu=>?_⟩
   cases j with
   | zero=>simp at hu; subst hu; simpa using h1
   | succ j=>have:=k3 j u (by simpa using hu); rwa [show off+(j+1)=off+1+j by omega]
theorem cU.of {b:Nat} : ∀ {xs:List DV} {vs:List Value} {off:Nat},bq J w xs vs→(∀ v∈vs,v.oneCell'=true)→w.rangeAt b off vs→cU J w xs b off
 | [],[],off,_,_,_=>trivial
 | x::xs,v::vs,off,h,k,r=>by
   refine ⟨⟨v,by simpa using r 0 v (by simp),k v (by simp),h.1⟩,cU.of h.2 (fun u hu=>k u (by simp [hu])) (fun j u hu=>?_)⟩
   have:=r (j+1) u (by simpa using hu)
   rwa [show off+(j+1)=off+1+j by omega] at this
 | [],_::_,_,h,_,_=>h.elim
 | _::_,[],_,h,_,_=>h.elim
theorem bq.length:∀ {xs:List DV} {vs:List Value},bq J w xs vs→xs.length=vs.length
 | [],[],_=>rfl
 | x::xs,v::vs,h=>by simp [bq.length h.2]
 | [],_::_,h=>h.elim
 | _::_,[],h=>h.elim
theorem bC.get {b esz:Nat} : ∀ {rs:List (List DV)} {off i:Nat} {r:List DV},bC J w esz rs b off→rs[i]? = some r→r.length=esz∧cU J w r b (off+i*esz)
 | [],off,i,x,_,h=>by simp at h
 | y::xs,off,0,x,h,hx=>by simp at hx; subst hx; simpa using ⟨h.1,h.2.1⟩
 | y::xs,off,i+1,x,h,hx=>by
   have:=bC.get h.2.2 (by simpa using hx:xs[i]? = some x)
   rwa [show off+(i+1)*esz=off+esz+i*esz by rw [Nat.add_mul]; omega]
theorem bC.of {b esz:Nat} : ∀ {rs:List (List DV)} {off:Nat},(∀ i r,rs[i]? = some r→r.length=esz∧cU J w r b (off+i*esz))→bC J w esz rs b off
 | [],_,_=>trivial
 | r::rs,off,h=>by
   have h0:=h 0 r (by simp)
   refine ⟨h0.1,by simpa using h0.2,bC.of (fun i x hx=>?_)⟩
   have:=h (i+1) x (by simpa using hx)
   rwa [show off+(i+1)*esz=off+esz+i*esz by rw [Nat.add_mul]; omega] at this
theorem bC.drop {b esz:Nat} : ∀ (n:Nat) {rs:List (List DV)} {off:Nat},bC J w esz rs b off→bC J w esz (rs.drop n) b (off+n*esz)
 | 0,_,_,h=>by simpa using h
 | n+1,[],_,_=>by simp [bC]
 | n+1,x::xs,off,h=>by
   have:=bC.drop n h.2.2
   rw [show off+(n+1)*esz=off+esz+n*esz by rw [Nat.add_mul]; omega]
   simpa using this
theorem bC.take {b esz:Nat} : ∀ (n:Nat) {rs:List (List DV)} {off:Nat},bC J w esz rs b off→bC J w esz (rs.take n) b off
 | 0,_,_,h=>by simp [bC]
 | n+1,[],_,_=>by simp [bC]
 | n+1,x::xs,off,h=>by simpa [bC] using ⟨h.1,h.2.1,bC.take n h.2.2⟩
theorem bC.append {b esz:Nat} : ∀ {xs ys:List (List DV)} {off:Nat},bC J w esz xs b off→bC J w esz ys b (off+xs.length*esz)→bC J w esz (xs++ys) b off
 | [],ys,off,_,h=>by simpa using h
 | x::xs,ys,off,h,k=>⟨h.1,h.2.1,bC.append h.2.2 (by rw [show off+esz+xs.length*esz=off+(xs.length+1)*esz by rw [Nat.add_mul]; omega]; exact k)⟩
theorem bC.flat {b esz:Nat} : ∀ {rs:List (List DV)} {off:Nat},bC J w esz rs b off→cU J w rs.flatten b off∧rs.flatten.length=rs.length*esz
 | [],_,_=>⟨trivial,by simp⟩
 | r::rs,off,h=>by
   obtain ⟨k1,k2⟩:=bC.flat h.2.2
   refine ⟨?_,by simp [k2,h.1,Nat.add_mul]; omega⟩
   simp only [List.flatten_cons]
   exact cU.append h.2.1 (by rw [h.1]; exact k1)
theorem bC.zf {b esz:Nat} : ∀ {rs:List (List DV)} {off:Nat},(∀ r∈rs,r.length=esz)→cU J w rs.flatten b off→bC J w esz rs b off
 | [],_,_,_=>trivial
 | r::rs,off,hl,h=>by
   simp only [List.flatten_cons] at h
   have hr:=hl r (by simp)
   have h1:=h.take r.length
   have h2:=h.drop r.length
   simp only [List.take_left,List.drop_left] at h1 h2
   rw [hr] at h2
   exact ⟨hr,h1,bC.zf (fun x hx=>hl x (by simp [hx])) h2⟩
end
end Dv
namespace Dv
open Go
def JS:Value→Option DV
 | .agg cs=>if cs.all (·.oneCell') then some (.agg (cs.toList.map .val)) else none
 | v=>some (.val v)
def aI:Operand→Option bR
 | .tmp t=>some (.t t)
 | .const v=>match JS v with
   | some x=>some (.c x)
   | none=>none
 | .global g=>some (.g g)
 | .func f=>some (.f f)
def eo:List Operand→Option (List bR)
 | []=>some []
 | x::xs=>match aI x,eo xs with
   | some x,some xs=>some (x::xs)
   | _,_=>none
def eR:Option Operand→Option (Option bR)
 | none=>some none
 | some x=>match aI x with
   | some y=>some (some y)
   | none=>none
def Ml:Operand→Bool
 | .const (.pointer none)=>true
 | _=>false
def Mk:Operand→Bool
 | .const (.slice none 0 0)=>true
 | _=>false
def dA (P:Program) (t:TypeId):Option Nat:=match P.info? t with
 | some i=>some i.size
 | none=>none
def lR (P:Program) (t:TypeId):Option Bool:=match P.underlying t with
 | some (.struct _)=>some true
 | some (.array _ _)=>some true
 | some _=>some false
 | none=>none
def nk (P:Program) (t:TypeId):Option (List DV):=match P.info? t with
 | some i=>match i.zero with
   | some z=>if z.cells.all (·.oneCell') then some (z.cells.toList.map .val) else none
   | none=>none
 | none=>none
def uL (P:Program) (fs:Array Field):List (Nat×Operand)→Option (List (Nat×Nat×bR))
 | []=>some []
 | (i,x)::rest=>match fs[i]?,aI x,uL P fs rest with
   | some f,some x,some r=>match dA P f.type with
     | some n=>some ((f.offset,n,x)::r)
     | none=>none
   | _,_,_=>none
def wK (P:Program) (t:TypeId):Option (Nat×Nat):=match P.info? t with
 | some i=>match i.zero with
   | some z=>if z.cells.size=i.size∧0<i.bytes∧0<i.size then some (i.size,i.bytes) else none
   | none=>none
 | none=>none
def IF (P:Program) (t:TypeId):Bool:=match P.underlying t with
 | some (.slice _)=>true
 | some .string=>true
 | _=>false
def v7 (P:Program) (t:TypeId):Option Nat:=match P.underlying t with
 | some (.int _)=>some 0
 | some .bool=>some 1
 | some .string=>some 2
 | _=>none
def vZ (P:Program):Nat→List Field→Option (List Nat)
 | _,[]=>some []
 | i,f::fs=>match v7 P f.type,vZ P (i+1) fs with
   | some k,some ks=>if f.offset=i∧f.name≠ "_" then some (k::ks) else none
   | _,_=>none
/-- the same, with structs of plain fields among the fields. -/
def sX (P:Program):Nat→List Field→Option (List Nat)
 | _,[]=>some []
 | i,f::fs=>if f.offset=i∧f.name≠ "_" then (match v7 P f.type with
   | some k=>(match sX P (i+1) fs with
     | some ks=>some (k::ks)
     | none=>none)
   | none=>(match P.underlying f.type with
     | some (.struct gs)=>(match vZ P 0 gs.toList with
       | some ls=>if P.stoodInHeld f.type=false∧dA P f.type=some ls.length∧lR P f.type=some true then (match sX P (i+ls.length) fs with
         | some ks=>some (ls++ks)
         | none=>none) else none
       | none=>none)
     | _=>none)) else none
def WX (P:Program) (t:TypeId):Option (List Nat):=match P.underlying t with
 | some (.struct fs)=>if P.stoodInHeld t=false∧P.eqGuardType P.depth t=false then sX P 0 fs.toList else none
 | _=>none
def B6 (P:Program) (fs:Array Field):Bool:=fs.toList.all fun f=>(dA P f.type).isSome
def uM (n:Nat):List (Nat×Operand)→Option (List (Nat×Nat×bR))
 | []=>some []
 | (i,x)::rest=>match aI x,uM n rest with
   | some x,some r=>some ((i*n,n,x)::r)
   | _,_=>none
def cu (P:Program):Op→Option I
 | .move x=>match aI x with | some x=>some (.mv x) | none=>none
 | .assign x=>match aI x with | some x=>some (.mv x) | none=>none
 | .pick c a b=>match aI c,aI a,aI b with | some c,some a,some b=>some (.pick c a b) | _,_,_=>none
 | .alloc T=>match nk P T with | some z=>some (.new T z) | none=>none
 | .box T x=>match aI x with | some x=>some (.box T x) | none=>none
 | .load T x=>match aI x,lR P T,dA P T with
   | some x,some true,some n=>some (.bP n x)
   | some x,some false,some _=>some (.ld1 x)
   | _,_,_=>none
 | .store T x y=>match aI x,aI y,dA P T with | some x,some y,some n=>some (.st n x y) | _,_,_=>none
 | .nilCheck x=>match aI x with | some x=>some (.aV x) | none=>none
 | .binOp op T X Y _=>match aI X,aI Y with
   | some x,some y=>match P.underlying T,op with
     | some .bool,.eql=>some (.T8 false x y)
     | some .bool,.neq=>some (.T8 true x y)
     | some (.int _),op=>some (.bin op x y)
     | some .string,op=>some (.bin op x y)
     | some (.struct _),.eql=>match WX P T with | some ks=>some (.eqs false ks x y) | none=>none
     | some (.struct _),.neq=>match WX P T with | some ks=>some (.eqs true ks x y) | none=>none
     | some (.pointer _),.eql=>if Ml Y then some (.ic false x) else none
     | some (.pointer _),.neq=>if Ml Y then some (.ic true x) else none
     | some (.slice _),.eql=>if Mk Y then some (.zX false x) else none
     | some (.slice _),.neq=>if Mk Y then some (.zX true x) else none
     | _,_=>none
   | _,_=>none
 | .unOp .neg _ x=>match aI x with | some x=>some (.neg x) | none=>none
 | .unOp .not _ x=>match aI x with | some x=>some (.not x) | none=>none
 | .convert S T x=>match aI x,P.underlying S,P.underlying T with | some x,some (.int _),some (.int k)=>some (.y2 k x) | _,_,_=>none
 | .fieldAddr T x f=>match aI x,P.underlying T with
   | some x,some (.struct fs)=>match fs[f]? with
     | some f=>match dA P f.type with
       | some (_+1)=>some (.aj f.offset x)
       | _=>none
     | none=>none
   | _,_=>none
 | .field T x f=>match aI x,P.underlying T with
   | some x,some (.struct fs)=>match fs[f]? with
     | some f=>match lR P f.type,dA P f.type with
       | some true,some n=>some (.O3 f.offset n x)
       | some false,some _=>some (.KW f.offset x)
       | _,_=>none
     | none=>none
   | _,_=>none
 | .indexAddr T x i=>match aI x,aI i,P.underlying T with
   | some x,some i,some (.slice e)=>match dA P e with | some n=>some (.eG n x i) | none=>none
   | some x,some i,some (.array len e)=>match dA P e with | some n=>some (.Mv len n x i) | none=>none
   | _,_,_=>none
 | .index T x i=>match aI x,aI i,P.underlying T with
   | some x,some i,some (.array len e)=>match lR P e,dA P e with | some false,some 1=>some (.UB len x i) | some true,some n=>some (.PS len n x i) | _,_=>none
   | some x,some i,some .string=>some (.ixs x i)
   | _,_,_=>none
 | .makeFunc f a b=>match eo a.toList,eo b.toList with | some a,some b=>some (.zS f a b) | _,_=>none
 | .extract x i=>match aI x with | some x=>some (.ext x i) | none=>none
 | .call ⟨.builtin .len,args,ts⟩=>match args.toList,ts[0]? with
   | [x],some T=>match aI x,P.underlying T with
     | some x,some .string=>some (.lens x)
     | some x,some (.slice _)=>some (.len x)
     | _,_=>none
   | _,_=>none
 | .call ⟨.builtin .append,args,ts⟩=>match args.toList,ts.toList with
   | [x,y],[tx,ty]=>match aI x,aI y,P.underlying tx,IF P ty with
     | some x,some y,some (.slice e),true=>match wK P e with | some (n,b)=>some (.app e n b x y) | none=>none
     | _,_,_,_=>none
   | _,_=>none
 | .build T parts=>match nk P T,P.underlying T with
   | some z,some (.struct fs)=>if B6 P fs then (match uL P fs parts.toList with | some ps=>some (.build z ps) | none=>none) else none
   | some z,some (.array _ e)=>match dA P e with
     | some n=>match uM n parts.toList with | some ps=>some (.build z ps) | none=>none
     | none=>none
   | _,_=>none
 | .buildSlice T n parts=>match P.underlying T with
   | some (.slice e)=>match wK P e,eo (parts.toList.map (·.2)) with
     | some (size,_),some xs=>if n*size≤16777216∧parts.toList.map (·.1)=List.range n then some (.nh e size xs) else none
     | _,_=>none
   | _=>none
 | .call ⟨.builtin .min,args,ts⟩=>match args.toList with
   | [x,y]=>match aI x,aI y with | some x,some y=>some (.min x y) | _,_=>none
   | _=>none
 | .call ⟨.builtin .max,args,ts⟩=>match args.toList with
   | [x,y]=>match aI x,aI y with | some x,some y=>some (.max x y) | _,_=>none
   | _=>none
 | .slice T x lo hi mx=>match aI x,eR lo,eR hi,eR mx,P.underlying T with
   | some x,some lo',some hi',some U_,some (.slice e)=>match dA P e with | some n=>if mx.isNone||hi.isSome then some (.zm n x lo' hi' U_) else none | none=>none
   | some x,some lo,some hi,some none,some .string=>some (.Xu x lo hi)
   | _,_,_,_,_=>none
 | .call ⟨.value f,args,ts⟩=>match aI f,eo args.toList with | some f,some args=>some (.call f args) | _,_=>none
 | _=>none
def cC (P:Program) (o:Oper) (a:Act) (w:World) (post:Value→World→Prop):Prop:=
 ∀ next Q,(∀ v w',post v w'→next (a.put o.dst v) w')→o.wp P a w next Q
theorem cC.of_run {P:Program} {o:Oper} {a:Act} {w w':World} {v:Value} {post:Value→World→Prop} (h:(execOp a.eval o).run P w=.ok (.value v) w') (hp:post v w'):cC P o a w post:=
 fun next Q hn=>by unfold Oper.wp; rw [h]; exact hn v w' hp
theorem cC.zI {P:Program} {o:Oper} {a:Act} {w w':World} {post:Value→World→Prop} (h:(execOp a.eval o).run P w=.ok .skip w') (hp:post Go.undef w'):cC P o a w post:=
 fun next Q hn=>by unfold Oper.wp; rw [h]; exact hn _ w' hp
def cF:List (Nat×aD)→(Nat→cv)→Nat→cv
 | [],obj=>obj
 | (k,ob)::r,obj=>fun o=>if o=k then .live ob else cF r obj o
def oU:Nat→List aD→(Nat→cv)→Nat→cv
 | _,[],obj=>obj
 | k,ob::r,obj=>fun o=>if o=k then .live ob else oU (k+1) r obj o
def bJ (obj:Nat→cv) (base:Nat) (e:eN):Nat→cv:=oU base e.nw (cF e.wr obj)
def a_ (G:Nat→Option (List DV)) (obj obj':Nat→cv) (J:Nat→Prop) (ι:Nat→Nat→Option Nat) (w:World) (r:LV) (v:Value) (w':World):Prop:=
 ∃ J' ι',aJ G J' w' ι' obj'∧cQ J' w' ι' r v∧Ext obj obj' J J' ι ι' w w'
section
variable {P:Program} {G:Nat→Option (List DV)} {J:Nat→Prop} {w:World} {ι:Nat→Nat→Option Nat} {obj:Nat→cv} {a:Act} {get:Nat→LV} {base:Nat}
theorem a_.stay (S:aJ G J w ι obj) {r:LV} {v:Value} (h:cQ J w ι r v):a_ G obj obj J ι w r v w:=⟨J,ι,S,h,Ext.refl ..⟩
theorem GN {v:Value} {x:DV} (h:JS v=some x):h_ J w x v:=by
 cases v <;> simp only [JS] at h <;> first
  | (cases h; rfl; done)
  | skip
 split at h
 ·rename_i cs hall
  cases h
  rw [Array.all_eq_true_iff_forall_mem] at hall
  refine ⟨cs,rfl,?_,fun v hv=>hall v (by simpa using hv)⟩
  have:∀ l:List Value,bq J w (l.map .val) l:=fun l=>by
   induction l with
   | nil=>trivial
   | cons y l ih=>exact ⟨rfl,ih⟩
  exact this _
 ·cases h
theorem aT (S:aJ G J w ι obj) (he:∀ t,cQ J w ι (get t) (a.tmps.getD t Go.undef)) {x:Operand} {y:bR} (h:aI x=some y):cQ J w ι (y.ev G get) (a.eval x):=by
 cases x with
 | tmp t=>cases h; exact he t
 | const v=>
   simp only [aI] at h
   split at h
   ·rename_i x hx; cases h; exact GN hx
   ·cases h
 | global g=>
   cases h
   simp only [bR.ev,Act.eval]
   cases hg:G g with
   | none=>trivial
   | some row=>obtain ⟨h1,h2,_⟩:=S.wA g row hg; exact ⟨g,0,h1,rfl,h2⟩
 | func f=>cases h; exact ⟨#[],#[],rfl,trivial,trivial⟩
theorem oA (S:aJ G J w ι obj) (he:∀ t,cQ J w ι (get t) (a.tmps.getD t Go.undef)):∀ {xs:List Operand} {ys:List bR},eo xs=some ys→bW J w ι (ys.map (·.ev G get)) (xs.map a.eval)
 | [],ys,h=>by cases h; trivial
 | x::xs,ys,h=>by
   simp only [eo] at h
   split at h
   ·rename_i y ys' h1 h2; cases h; exact ⟨aT S he h1,oA S he h2⟩
   ·cases h
theorem bq.ux {cs:List DV} {vs:List Value} (h:bq J w cs vs) (k:∀ v∈vs,v.oneCell'=true):bI J w ι (cs.map .d) vs:=bI.X6 h.xC k
theorem lN {x:LV} {v:Value} {cs:List LV} (h:cQ J w ι x v) (hc:x.cells=some cs):bI J w ι cs v.cells.toList:=by
 cases x with
 | top=>cases hc
 | c_=>cases hc; obtain ⟨b,rfl⟩:=h; exact ⟨rfl,⟨b,rfl⟩,trivial⟩
 | d x=>
   cases x with
   | val u=>
     simp only [LV.cells] at hc
     split at hc
     ·rename_i h1
      cases hc
      have hv:v=u:=h
      subst hv
      have:v.cells=#[v]:=by cases v <;> first | rfl | (simp [Value.oneCell'] at h1; done)
      rw [this]
      exact ⟨h1,rfl,trivial⟩
     ·cases hc
   | dY esz rows=>cases hc; obtain ⟨a,n,cap,rfl,h⟩:=h; exact ⟨rfl,⟨a,n,cap,rfl,h⟩,trivial⟩
   | fn f fs cs=>cases hc; obtain ⟨f1,f2,rfl,h⟩:=h; exact ⟨rfl,⟨f1,f2,rfl,h⟩,trivial⟩
   | fe t y=>cases hc; obtain ⟨z,rfl,h⟩:=h; exact ⟨rfl,⟨z,rfl,h⟩,trivial⟩
   | agg ds=>
     simp only [LV.cells] at hc; cases hc
     obtain ⟨xs,rfl,h1,h2⟩:=h
     exact bq.ux h1 h2
 | ptr o c=>cases hc; obtain ⟨b,hb,rfl⟩:=h; exact ⟨rfl,⟨b,hb,rfl⟩,trivial⟩
 | mr o=>cases hc; obtain ⟨b,hb,rfl⟩:=h; exact ⟨rfl,⟨b,hb,rfl⟩,trivial⟩
 | rp o n e r c=>cases hc; obtain ⟨b,hb,rfl⟩:=h; exact ⟨rfl,⟨b,hb,rfl⟩,trivial⟩
 | ip r c=>cases hc; obtain ⟨b,off,hb,rfl,h⟩:=h; exact ⟨rfl,⟨b,off,hb,rfl,h⟩,trivial⟩
 | sl o n e l k=>
   cases hc
   have h':=h
   rcases h with ⟨_,a,rfl⟩ | ⟨b,cap,et,C,_,rfl,_⟩
   ·exact ⟨rfl,h',trivial⟩
   ·exact ⟨rfl,h',trivial⟩
 | fn f fs cs=>cases hc; obtain ⟨f1,f2,rfl,h⟩:=h; exact ⟨rfl,⟨f1,f2,rfl,h⟩,trivial⟩
 | agg cs=>cases hc; obtain ⟨xs,rfl,h⟩:=h; exact h
 | dP vs=>cases hc
 | fe t y=>cases hc; obtain ⟨z,rfl,h⟩:=h; exact ⟨rfl,⟨z,rfl,h⟩,trivial⟩
 | yl o=>cases hc
theorem bV {t:TypeId} {n:Nat} (h:dA P t=some n):∃ i,P.info? t=some i∧i.size=n:=by
 unfold dA at h
 split at h
 ·rename_i i hi; cases h; exact ⟨i,hi,rfl⟩
 ·cases h
theorem sy {t:TypeId} {z:List DV} (h:nk P t=some z):∃ v:Value,(zeroValue t).run P w=.ok v w∧bI J w ι (z.map .d) v.cells.toList:=by
 unfold nk at h
 split at h
 ·rename_i i hi
  split at h
  ·rename_i v hv
   split at h
   ·rename_i hall
    cases h
    refine ⟨v,by simp [zeroValue,typeInfo,hi,hv],bq.ux ?_ ?_⟩
    ·have:∀ l:List Value,bq J w (l.map .val) l:=fun l=>by
      induction l with
      | nil=>trivial
      | cons y l ih=>exact ⟨rfl,ih⟩
     exact this _
    ·rw [Array.all_eq_true_iff_forall_mem] at hall
     exact fun v hv=>hall v (by simpa using hv)
   ·cases h
  ·cases h
 ·cases h
theorem j3 {t:TypeId} {b:Bool} (h:lR P t=some b):(isAgg t).run P w=.ok b w:=by
 unfold lR at h
 unfold isAgg
 cases hu:P.underlying t with
 | none=>simp [hu] at h
 | some d=>
   rw [Sem.run_bind,run_underlying hu w]
   rw [hu] at h
   cases d <;> first | (cases h; rfl)
theorem a_.box (S:aJ G J w ι obj) (hb:obj base=.free) (et:TypeId) (cells:List LV) (C:Array Value) (h:bI J w ι cells C.toList) :
  a_ G obj (fun o=>if o=base then .live (.box et cells) else obj o) J ι w (.ptr base 0) (.pointer (some ⟨w.heap.size,0,none⟩)) (w.alloc (.cells C et)):=by
 have hfree:∀ n,ι base n=none:=by have:=S.rep base; rw [hb] at this; exact this
 let ι':Nat→Nat→Option Nat:=fun o n=>if o=base then (if n=0 then some w.heap.size else none) else ι o n
 have hi:∀ o n b,ι o n=some b→ι' o n=some b:=fun o n b hob=>by
  by_cases ho:o=base
  ·subst ho; rw [hfree] at hob; cases hob
  ·simp only [ι',if_neg ho]; exact hob
 have E:Ev (Own ι obj) J J ι ι' w (w.alloc (.cells C et)):=Ev.alloc _ _ w w.drawn _ hi
 have hT:=aJ.qK S base (.live (.box et cells)) E (fun o ho n=>by simp only [ι',if_neg ho]) (fun b hlt _=>eP w _ b hlt)
  ⟨⟨w.heap.size,C,by simp [ι'],dB w _,h.ev S E⟩,trivial⟩ (fun b hob=>by
    have:ι' base 0=some b:=hob
    simp [ι'] at this; exact .inr (by omega))
 exact ⟨J,ι',hT.1,⟨w.heap.size,by simp [ι'],rfl⟩,hT.2⟩
theorem a_.dat (S:aJ G J w ι obj) (hb:obj base=.free) (et:TypeId) (esz:Nat) (rows:List (List DV)) (C:Array Value) (n:Nat) (cap:Nat) (hcap:rows.length≤cap) (hC:cap*esz≤C.size)
  (h:∀ ι':Nat→Nat→Option Nat,Ev (Own ι obj) J J ι ι' w ({ w with drawn:=n }.alloc (.cells C et))→bC J ({ w with drawn:=n }.alloc (.cells C et)) esz rows w.heap.size 0) :
  a_ G obj (fun o=>if o=base then .live (.dat et esz rows) else obj o) J ι w (.sl base rows.length esz 0 rows.length) (.slice (some ⟨w.heap.size,0,none⟩) rows.length cap) ({ w with drawn:=n }.alloc (.cells C et)):=by
 have hfree:∀ n,ι base n=none:=by have:=S.rep base; rw [hb] at this; exact this
 let ι':Nat→Nat→Option Nat:=fun o n=>if o=base then (if n=rows.length then some w.heap.size else none) else ι o n
 have hi:∀ o n b,ι o n=some b→ι' o n=some b:=fun o n b hob=>by
  by_cases ho:o=base
  ·subst ho; rw [hfree] at hob; cases hob
  ·simp only [ι',if_neg ho]; exact hob
 have E:Ev (Own ι obj) J J ι ι' w ({ w with drawn:=n }.alloc (.cells C et)):=Ev.alloc _ _ w n _ hi
 have hnew:({ w with drawn:=n }.alloc (.cells C et)).heap[w.heap.size]? = some (.cells C et (0,0)):=dB { w with drawn:=n } _
 have hT:=aJ.qK S base (.live (.dat et esz rows)) E (fun o ho n=>by simp only [ι',if_neg ho]) (fun b hlt _=>eP { w with drawn:=n } _ b hlt)
  ⟨⟨.inr (by simp [ι']),fun b hob=>by
    simp [ι'] at hob; subst hob
    exact ⟨⟨C,hnew⟩,h ι' E⟩⟩,fun m hm=>by simp only [ι',if_true]; rw [if_neg (by omega)]⟩
  (fun b hob=>by
   have:ι' base rows.length=some b:=hob
   simp [ι'] at this; exact .inr (by omega))
 refine ⟨J,ι',hT.1,.inr ⟨w.heap.size,cap,et,C.size,by simp [ι'],by simp,hcap,?_,by simpa using hC⟩,hT.2⟩
 simp only [World.shape?,hnew]
theorem a_.C_ (S:aJ G J w ι obj) {o:Nat} {et:TypeId} {cells cs:List LV} {vs:List Value} {col:Nat} (ho:obj o=.live (.box et cells)) (h:bI J w ι cs vs) (hl:col+cs.length≤cells.length) :
  ∃ b,ι o 0=some b∧w.there b col vs.length∧a_ G obj (fun k=>if k=o then .live (.box et (splice cells col cs)) else obj k) J ι w .undef Go.undef (w.setCells b col vs):=by
 have h0:=S.rep o
 rw [ho] at h0
 obtain ⟨⟨b,C,h1,h2,h3⟩,_⟩:=h0
 have hlen:C.size=cells.length:=by rw [h3.length]; simp
 have hown:Own ι obj b:=⟨o,by rw [ho]; exact h1⟩
 have E:Ev (Own ι obj) J J ι ι w (w.setCells b col vs):=Ev.setCells J w b col vs hown (fun _ _ _ h=>h)
 obtain ⟨C',k1,k2⟩:=gr vs col w C h2 (by rw [← h.length]; omega)
 refine ⟨b,h1,fun j hj=>?_,?_⟩
 ·have:col+j<C.size:=by rw [← h.length] at hj; omega
  simp [World.cell?,World.frozen?,h2,this]
 ·have hT:=aJ.qK S o (.live (.box et (splice cells col cs))) E (fun _ _ _=>rfl) (fun k hk hn=>heap_setCells_other (fun e=>hn (by rw [ho,e]; exact h1)) vs col w)
   ⟨⟨b,C',h1,k1,by rw [k2]; exact (h3.splice col h).ev S E⟩,trivial⟩ (fun k hk=>.inl (by rw [ho]; exact hk))
  exact ⟨J,ι,hT.1,rfl,hT.2⟩
theorem a_.SG (S:aJ G J w ι obj) {o:Nat} {et:TypeId} {esz:Nat} {rows:List (List DV)} {row col:Nat} {r ds:List DV} {vs:List Value} (ho:obj o=.live (.dat et esz rows)) (hr:rows[row]? = some r)
  (h:bq J w ds vs) (xz:∀ v∈vs,v.oneCell'=true) (hl:col+ds.length≤r.length) :
  ∃ b,ι o rows.length=some b∧w.there b (row*esz+col) vs.length∧
    a_ G obj (fun k=>if k=o then .live (.dat et esz (rows.set row (splice r col ds))) else obj k) J ι w .undef Go.undef (w.setCells b (row*esz+col) vs):=by
 have h0:=S.rep o
 rw [ho] at h0
 obtain ⟨⟨hsome,BW⟩,hkey⟩:=h0
 have hne:rows≠[]:=by intro e; rw [e] at hr; simp at hr
 obtain ⟨b,h1⟩:=Option.isSome_iff_exists.1 (hsome.resolve_left hne)
 obtain ⟨⟨C,h2⟩,h3⟩:=BW b h1
 have hown:Own ι obj b:=⟨o,by rw [ho]; exact h1⟩
 have E:Ev (Own ι obj) J J ι ι w (w.setCells b (row*esz+col) vs):=Ev.setCells J w b _ vs hown (fun _ _ _ h=>h)
 obtain ⟨hrl,hrow⟩:=h3.get hr
 simp only [Nat.zero_add] at hrow
 have hcell:∀ j,j<r.length→(w.cell? ⟨b,row*esz+j,none⟩).isSome=true:=fun j hj=>by
  obtain ⟨v,hv,_⟩:=hrow.get (List.getElem?_eq_getElem hj)
  rw [hv]; rfl
 have p_:w.there b (row*esz+col) vs.length:=fun j hj=>by
  rw [← h.length] at hj
  have:=hcell (col+j) (by omega)
  rw [← Nat.add_assoc] at this
  refine ⟨this,?_⟩
  simp [World.frozen?,h2]
 have hout:∀ x:Addr,x.block=b→(x.off<row*esz+col∨row*esz+col+vs.length≤x.off)→(w.setCells b (row*esz+col) vs).cell? x=w.cell? x:=fun x hx hj=>
  World.cell?_setCells_out b vs _ w x (fun _ _=>hj)
 have hin:=World.rangeAt_setCells_same w b (row*esz+col) vs p_
 -- the rows behind
 have TV:∀ k,J k→(w.setCells b (row*esz+col) vs).heap[k]? = w.heap[k]?:=S.same E
 have hrows:bC J (w.setCells b (row*esz+col) vs) esz (rows.set row (splice r col ds)) b 0:=by
  refine bC.of (fun i x hx=>?_)
  simp only [Nat.zero_add]
  by_cases hi:i=row
  ·subst hi
   have hilt:i<rows.length:=(List.getElem?_eq_some_iff.1 hr).1
   rw [List.getElem?_set_self hilt] at hx
   cases hx
   refine ⟨by rw [iL _ _ _ (by omega)]; exact hrl,?_⟩
   obtain ⟨us,u1,u2,u3⟩:=hrow.vals
   have R_:us.length=r.length:=u1.length.symm
   refine cU.of (vs:=splice us col vs) ?_ ?_ ?_
   ·have e1:bI J w ι (splice (r.map .d) col (ds.map .d)) (splice us col vs):=bI.splice col (bq.ux u1 u2) (bq.ux h xz)
    have e2:splice (r.map LV.d) col (ds.map LV.d)=(splice r col ds).map .d:=by simp [splice]
    rw [e2] at e1
    have e3:=(e1.ev S E).xC
    have:∀ (xs:List DV) (vs:List Value),bW J (w.setCells b (i*esz+col) (vs:List Value)) ι (xs.map .d) vs→True:=fun _ _ _=>trivial
    clear this
    have back:∀ {w0:World} (xs:List DV) (ys:List Value),bW J w0 ι (xs.map .d) ys→bq J w0 xs ys:=fun {w0} xs=>by
     induction xs with
     | nil=>intro ys h; cases ys with
       | nil=>trivial
       | cons _ _=>exact h.elim
     | cons x xs ih=>intro ys h; cases ys with
       | nil=>exact h.elim
       | cons y ys=>exact ⟨h.1,ih ys h.2⟩
    exact back _ _ e3
   ·intro v hv
    have e1:bI J w ι (splice (r.map .d) col (ds.map .d)) (splice us col vs):=bI.splice col (bq.ux u1 u2) (bq.ux h xz)
    exact e1.one v hv
   ·intro j v hv
    have hvl:vs.length=ds.length:=h.length.symm
    by_cases hj1:j<col
    ·rw [hout _ rfl (.inl (by show i*esz+j<_; omega))]
     refine u3 j v ?_
     rw [← hv]
     simp only [splice,List.append_assoc]
     rw [List.getElem?_append_left (by simp; omega),List.getElem?_take_of_lt hj1]
    ·by_cases hj2:j<col+vs.length
     ·have:=hin (j-col) v (by
       rw [← hv]
       simp only [splice]
       rw [List.getElem?_append_left (by simp; omega),List.getElem?_append_right (by simp; omega)]
       congr 1; simp; omega)
      rwa [show i*esz+col+(j-col)=i*esz+j by omega] at this
     ·rw [hout _ rfl (.inr (by show _≤i*esz+j; omega))]
      refine u3 j v ?_
      rw [← hv]
      simp only [splice]
      rw [List.getElem?_append_right (by simp; omega),List.getElem?_drop]
      congr 1; simp; omega
  ·rw [List.getElem?_set_ne (fun e=>hi e.symm)] at hx
   obtain ⟨k1,k2⟩:=h3.get hx
   refine ⟨k1,?_⟩
   simp only [Nat.zero_add] at k2
   obtain ⟨us,u1,u2,u3⟩:=k2.vals
   have hvl:vs.length=ds.length:=h.length.symm
   refine cU.of (vs:=us) (bq.mono (fun _ h=>h) TV _ _ u1) u2 (fun j v hv=>?_)
   have hj:j<us.length:=(List.getElem?_eq_some_iff.1 hv).1
   rw [← u1.length,k1] at hj
   rw [hout _ rfl ?_]
   ·exact u3 j v hv
   ·show i*esz+j<_∨_≤i*esz+j
    rcases Nat.lt_or_gt_of_ne hi with hlt | hgt
    ·left
     have:(i+1)*esz≤row*esz:=Nat.mul_le_mul_right _ hlt
     rw [Nat.add_mul] at this; omega
    ·right
     have:(row+1)*esz≤i*esz:=Nat.mul_le_mul_right _ hgt
     rw [Nat.add_mul] at this; omega
 obtain ⟨C',k1,k2⟩:∃ C',(w.setCells b (row*esz+col) vs).heap[b]? = some (.cells C' et (0,0))∧True:=by
  have hs:row*esz+col+vs.length≤C.size∨vs.length=0:=by
   rcases Nat.eq_zero_or_pos vs.length with hz | hz
   ·exact .inr hz
   ·left
    have:=(p_ (vs.length-1) (by omega)).1
    simp only [World.cell?,h2] at this
    simp at this
    omega
  rcases hs with hs | hs
  ·obtain ⟨C',k1,_⟩:=gr vs _ w C h2 hs; exact ⟨C',k1,trivial⟩
  ·have:vs=[]:=by simpa using hs
   subst this; exact ⟨C,h2,trivial⟩
 refine ⟨b,h1,p_,?_⟩
 have hT:=aJ.qK S o (.live (.dat et esz (rows.set row (splice r col ds)))) E (fun _ _ _=>rfl) (fun k hk hn=>heap_setCells_other (fun e=>hn (by rw [ho,e]; exact h1)) vs _ w)
  ⟨⟨.inr (by simp [h1]),fun k hk=>by
    rw [List.length_set,h1] at hk; cases hk
    exact ⟨⟨C',k1⟩,hrows⟩⟩,fun n hn=>by rw [List.length_set] at hn; exact hkey n hn⟩
  (fun k hk=>.inl (by
   rw [ho]
   simp only [cv.own,aD.own,List.length_set] at hk ⊢
   exact hk))
 exact ⟨J,ι,hT.1,rfl,hT.2⟩
end
end Dv
namespace Dv
open Go
section
variable {P:Program} {G:Nat→Option (List DV)} {J:Nat→Prop} {w w':World} {ι:Nat→Nat→Option Nat} {obj:Nat→cv} {a:Act} {get:Nat→LV} {base:Nat}
theorem bq.append:∀ {xs ys:List DV} {vs us:List Value},bq J w xs vs→bq J w ys us→bq J w (xs++ys) (vs++us)
 | [],ys,[],us,_,h=>h
 | x::xs,ys,v::vs,us,h,k=>⟨h.1,bq.append h.2 k⟩
 | [],_,_::_,_,h,_=>h.elim
 | _::_,_,[],_,h,_=>h.elim
theorem bC.rowLen {b esz:Nat} : ∀ {rs:List (List DV)} {off:Nat},bC J w esz rs b off→∀ r∈rs,r.length=esz
 | [],_,_,r,h=>by cases h
 | x::xs,off,h,r,hr=>by
   rcases List.mem_cons.1 hr with rfl | hr
   ·exact h.1
   ·exact bC.rowLen h.2.2 r hr
theorem bC.ru {rows:List (List DV)} {esz b:Nat} {vs:List Value} {C:Array Value} {et:TypeId} {fr:Nat×Nat} (h:bq J w rows.flatten vs) (h1:∀ v∈vs,v.oneCell'=true) (hl:∀ r∈rows,r.length=esz)
  (hb:w.heap[b]? = some (.cells C et fr)) (hC:∀ (j:Nat) (v:Value),vs[j]? = some v→C[j]? = some v):bC J w esz rows b 0:=by
 refine bC.zf hl (cU.of h h1 (fun j v hv=>?_))
 rw [Nat.zero_add,cell_of_row w b j C et fr hb]
 exact hC j v hv
theorem kB {rows:List (List DV)} {esz:Nat} (hl:∀ r∈rows,r.length=esz):rows.flatten.length=rows.length*esz:=by
 induction rows with
 | nil=>simp
 | cons r rs ih=>
   simp only [List.flatten_cons,List.length_append,List.length_cons,Nat.add_mul]
   rw [ih (fun x hx=>hl x (by simp [hx])),hl r (by simp)]; omega
theorem jL {b:Nat} {C:Array Value} {et:TypeId} {fr:Nat×Nat} (h:w.heap[b]? = some (.cells C et fr)) (col n:Nat):w.rangeAt b col ((C.toList.drop col).take n):=fun j v hv=>by
 rw [cell_of_row w b (col+j) C et fr h]
 rw [List.getElem?_take] at hv
 split at hv
 ·rw [List.getElem?_drop] at hv; simpa using hv
 ·cases hv
theorem k9:∀ {cs:List LV} {ds:List DV} {vs:List Value},LV.pM cs=some ds→bW J w ι cs vs→bq J w ds vs:=by
 have one:∀ (n:Nat),(∀ (x:LV) (d:DV) (v:Value),sizeOf x<n→LV.Pz x=some d→cQ J w ι x v→h_ J w d v)∧
   (∀ (xs:List LV) (ds:List DV) (vs:List Value),sizeOf xs<n→LV.pM xs=some ds→bW J w ι xs vs→bq J w ds vs):=by
  intro n
  induction n with
  | zero=>exact ⟨fun _ _ _ h=>absurd h (by omega),fun _ _ _ h=>absurd h (by omega)⟩
  | succ n ih=>
    refine ⟨fun x d v hs h hr=>?_,fun xs ds vs hs h hr=>?_⟩
    ·cases x with
     | d x=>simp only [LV.Pz] at h; cases h; exact hr
     | fn f p q=>
       simp only [LV.Pz] at h
       split at h
       ·rename_i p' q' h1 h2
        cases h
        obtain ⟨fs,cs,rfl,k1,k2⟩:=hr
        simp at hs
        exact ⟨fs,cs,rfl,ih.2 _ _ _ (by omega) h1 k1,ih.2 _ _ _ (by omega) h2 k2⟩
       ·cases h
     | fe t y=>
       simp only [LV.Pz] at h
       split at h
       ·rename_i y' h1
        cases h
        obtain ⟨z,rfl,k1⟩:=hr
        simp at hs
        exact ⟨z,rfl,ih.1 _ _ _ (by omega) h1 k1⟩
       ·cases h
     | _=>simp [LV.Pz] at h
    ·cases xs with
     | nil=>
       simp only [LV.pM] at h; cases h
       cases vs with
       | nil=>trivial
       | cons _ _=>exact hr.elim
     | cons x xs=>
       simp only [LV.pM] at h
       split at h
       ·rename_i d ds' h1 h2
        cases h
        cases vs with
        | nil=>exact hr.elim
        | cons v vs=>
          simp at hs
          exact ⟨ih.1 _ _ _ (by omega) h1 hr.1,ih.2 _ _ _ (by omega) h2 hr.2⟩
       ·cases h
 intro cs ds vs h hr
 exact (one (sizeOf cs+1)).2 cs ds vs (by omega) h hr
theorem Lj {cells:List LV} {C:Array Value} {et:TypeId} {fr:Nat×Nat} {b lo len:Nat} {ds:List DV} (h:bI J w ι cells C.toList) (hh:w.heap[b]? = some (.cells C et fr)) (hd:LV.pM ((cells.drop lo).take len)=some ds):bC J w 1 (ds.map fun x=>[x]) b lo:=by
 have h4:=(h.drop lo).take len
 have h5:cU J w ds b lo:=cU.of (k9 hd h4.xC) h4.one (jL hh lo len)
 have hf:∀ l:List DV,(l.map fun x=>[x]).flatten=l:=fun l=>by induction l with | nil=>rfl | cons x l ih=>simp [ih]
 refine bC.zf (fun r hr=>?_) (by rw [hf]; exact h5)
 obtain ⟨x,_,rfl⟩:=List.mem_map.1 hr
 rfl
theorem u7:∀ {cs:List LV} {ds:List DV},LV.pM cs=some ds→ds.length=cs.length
 | [],ds,h=>by simp only [LV.pM] at h; cases h; rfl
 | x::xs,ds,h=>by
   simp only [LV.pM] at h
   split at h
   ·rename_i d ds' h1 h2
    cases h
    simp [u7 h2]
   ·cases h
theorem sF (S:aJ G J w ι obj) {esz:Nat} {y:LV} {v:Value} {new:List (List DV)} {rd:List Nat} {tx:TypeId} (hk:(∃ e',P.underlying tx=some (.slice e'))∨P.underlying tx=some .string)
  (h:aU obj esz y=some (new,rd)) (hy:cQ J w ι y v) :
  ∃ news,Src P esz tx v new.length news w∧bq J w new.flatten news∧(∀ r∈new,r.length=esz):=by
 have zK:∀ (b off n cap:Nat),n=new.length→bC J w esz new b off→∃ news,Src P esz tx (.slice (some ⟨b,off,none⟩) n cap) new.length news w∧bq J w new.flatten news∧(∀ r∈new,r.length=esz):=by
  intro b off n cap hn hr
  subst hn
  obtain ⟨k1,k2⟩:=hr.flat
  obtain ⟨vs,v1,v2,v3⟩:=k1.vals
  have hcell:∀ j u,vs[j]? = some u→w.cell? ((⟨b,off,none⟩:Addr).add j)=some u:=fun j u hu=>by rw [Addr.add_mid]; exact v3 j u hu
  have hlen:vs.length=new.length*esz:=by rw [← v1.length,k2]
  exact ⟨vs,⟨hk,fun _=>rfl,run_firstCells_some w esz _ _ _ cap vs hlen hcell,run_firstCells_some w.drew esz _ _ _ cap vs hlen (by simpa using hcell),hlen,v2⟩,v1,hr.rowLen⟩
 have vJ:∀ (a:Option Addr) (cap:Nat),new=[]→∃ news,Src P esz tx (.slice a 0 cap) new.length news w∧bq J w new.flatten news∧(∀ r∈new,r.length=esz):=by
  intro a cap hn
  subst hn
  refine ⟨[],?_,trivial,fun _ h=>by cases h⟩
  cases a with
  | none=>exact ⟨hk,fun _=>rfl,run_firstCells_none w esz 0 0 cap,run_firstCells_none w.drew esz 0 0 cap,by simp,fun _ h=>by cases h⟩
  | some a=>exact ⟨hk,fun _=>rfl,run_firstCells_some w esz 0 a 0 cap [] (by simp) (fun j u hu=>by simp at hu),run_firstCells_some w.drew esz 0 a 0 cap [] (by simp) (fun j u hu=>by simp at hu),by simp,fun _ h=>by cases h⟩
 cases y with
 | d x=>
   cases x with
   | dY e rows=>
     simp only [aU] at h
     split at h
     ·rename_i he
      cases h; subst he
      obtain ⟨a,n,cap,rfl,hn,hc,hr⟩:=hy
      rcases hr with hr | ⟨b,off,rfl,hb,hr⟩
      ·rw [hr] at hn; simp at hn; subst hn; exact vJ a cap hr
      ·exact zK b off n cap hn hr
     ·cases h
   | val u=>
     have Yh:v=u:=hy
     subst Yh
     cases v with
     | slice sa n c=>
       cases sa with
       | some _=>simp [aU] at h
       | none=>
         cases n with
         | succ _=>simp [aU] at h
         | zero=>
           cases c with
           | succ _=>simp [aU] at h
           | zero=>simp [aU] at h; exact vJ none 0 h.1
     | string s=>
       simp only [aU] at h
       split at h
       ·rename_i he
        cases h; subst he
        have hbc:=byteCells_length s
        have hlen:(s.data.toList.map fun b=>[DV.val (Value.int IntKind.u8 (b.toNat:Int))]).length=s.size:=by simp
        refine ⟨byteCells s,?_,?_,?_⟩
        ·rw [hlen]
         exact ⟨hk,fun _=>rfl,firstCells_string s w,firstCells_string s w.drew,by rw [hbc,Nat.mul_one],fun u hu=>by
          obtain ⟨_,_,rfl⟩:=List.mem_map.1 hu; rfl⟩
        ·have:∀ l:List UInt8,bq J w (l.map fun b=>[DV.val (Value.int IntKind.u8 (b.toNat:Int))]).flatten (l.map fun b=>Value.int .u8 b.toNat):=fun l=>by
          induction l with
          | nil=>trivial
          | cons x l ih=>exact ⟨rfl,ih⟩
         exact this _
        ·intro r hr
         obtain ⟨b,_,rfl⟩:=List.mem_map.1 hr
         rfl
       ·cases h
     | _=>simp [aU] at h
   | fn f a b=>simp [aU] at h
   | fe t y=>simp [aU] at h
   | agg cs=>simp [aU] at h
 | sl o n e lo len=>
   simp only [aU] at h
   have fU:=S.rep o
   split at h
   ·rename_i et e' rows ho
    split at h
    ·rename_i hc
     obtain ⟨rfl,rfl,rfl,hle⟩:=hc
     cases h
     rw [ho] at fU
     obtain ⟨⟨hs,hd⟩,_⟩:=fU
     have uQ:((rows.drop lo).take len).length=len:=by simp; omega
     rcases hy with ⟨rfl,a,rfl⟩ | ⟨b,cap,et',C,hb,rfl,hcap,_,_⟩
     ·exact vJ a 0 (by simp)
     ·exact zK b (lo*_) len cap uQ.symm (by have:=((hd b hb).2.drop lo).take len; simpa using this)
    ·cases h
   ·rename_i et e' rows ho
    split at h
    ·rename_i hc
     obtain ⟨rfl,rfl,rfl,hle⟩:=hc
     cases h
     rw [ho] at fU
     obtain ⟨⟨hs,hd⟩,_⟩:=fU
     have uQ:((rows.drop lo).take len).length=len:=by simp; omega
     rcases hy with ⟨rfl,a,rfl⟩ | ⟨b,cap,et',C,hb,rfl,hcap,_,_⟩
     ·exact vJ a 0 (by simp)
     ·exact zK b (lo*_) len cap uQ.symm (by have:=((hd b hb).2.drop lo).take len; simpa using this)
    ·cases h
   ·rename_i et cells ho
    split at h
    ·rename_i hc
     obtain ⟨rfl,rfl,rfl,hle⟩:=hc
     split at h
     ·rename_i ds hds
      cases h
      rw [ho] at fU
      obtain ⟨⟨b',C,h1,h2,h3⟩,_⟩:=fU
      have uQ:(ds.map fun x=>[x]).length=len:=by rw [List.length_map,u7 hds]; simp; omega
      rcases hy with ⟨rfl,a,rfl⟩ | ⟨b,cap,et',C',hb,rfl,hcap,_,_⟩
      ·exact vJ a 0 (List.eq_nil_of_length_eq_zero uQ)
      ·rw [h1] at hb; cases hb
       exact zK b' (lo*1) len cap uQ.symm (by rw [Nat.mul_one]; exact Lj h3 h2 hds)
     ·cases h
    ·cases h
   ·cases h
 | top=>simp [aU] at h
 | c_=>simp [aU] at h
 | ptr o c=>simp [aU] at h
 | rp o n e r c=>simp [aU] at h
 | ip r c=>simp [aU] at h
 | fn f a b=>simp [aU] at h
 | agg cs=>simp [aU] at h
 | dP cs=>simp [aU] at h
 | fe t y=>simp [aU] at h
 | yl o=>simp [aU] at h
 | mr o=>simp [aU] at h
theorem B4 {need cap bytes:Nat} (h:cap<need) (hb:need*bytes≤70368744177664):Builtin.nextslicecap need cap*bytes≤281474976710656:=by
 have h1:=nextslicecap_le h
 have h2:Builtin.nextslicecap need cap*bytes≤2*need*bytes:=Nat.mul_le_mul_right _ h1
 rw [Nat.mul_assoc] at h2
 omega
theorem a_.Uf (S:aJ G J w ι obj) (hb:obj base=.free) {t tx ty et:TypeId} {i:TypeInfo} {z:Value} {v:Value} {new:List (List DV)} {news:List Value} (ht:P.underlying t=some (.slice et)) (hi:P.info? et=some i) (hz:i.zero=some z)
  (hzs:z.cells.size=i.size) (hbytes:0<i.bytes)
  (hsrc:Src P i.size tx v new.length news w) (fU:bq J w new.flatten news) (hrl:∀ r∈new,r.length=i.size) (hfit:new.length*i.bytes≤70368744177664) :
  ∃ u w',(Builtin.append_ #[t,tx] ty #[.slice none 0 0,v]).run P w=.ok u w'∧
    a_ G obj (fun o=>if o=base then .live (.dat et i.size new) else obj o) J ι w (.sl base new.length i.size 0 new.length) u w':=by
 rcases Nat.eq_zero_or_pos new.length with h0 | h0
 ·have hn:new=[]:=by simpa using h0
  subst hn
  have hnews:news=[]:=by have:=hsrc.newsLen; simpa using this
  subst hnews
  refine ⟨.slice none 0 0,w,run_append_nothing w t tx ty et i ht hi none 0 0 (Nat.le_refl _) v hsrc,?_⟩
  have hfree:∀ n,ι base n=none:=by have:=S.rep base; rw [hb] at this; exact this
  have hT:=aJ.qK S base (.live (.dat et i.size [])) (Ev.refl (Own ι obj) J ι w) (fun _ _ _=>rfl) (fun _ _ _=>rfl)
   ⟨⟨.inl rfl,fun b hb=>by rw [hfree] at hb; cases hb⟩,fun n _=>hfree n⟩ (fun b hb=>by
     have:ι base 0=some b:=hb
     rw [hfree] at this; cases this)
  exact ⟨J,ι,hT.1,.inl ⟨rfl,none,rfl⟩,hT.2⟩
 ·have hlt:0<0+new.length:=by omega
  have h63:((0+new.length:Nat):Int)≤9223372036854775807:=by
   have:new.length*1≤new.length*i.bytes:=Nat.mul_le_mul_left _ hbytes
   omega
  have hrun:=run_append_grow_src w t tx ty et i z ht hi hz none 0 0 [] (run_firstCells_none w.drew i.size 0 0 0) v new.length news hsrc hlt h63 (B4 hlt (by simpa using hfit))
  have hge:=grownCap_ge w (0+new.length) 0 et
  refine ⟨_,_,hrun,?_⟩
  simp only [Nat.zero_add,List.nil_append] at *
  have hl:news.length=new.length*i.size:=hsrc.newsLen
  have hsz:(news.toArray++Builtin.zeroCells z.cells (grownCap w new.length 0 et-new.length)).size=grownCap w new.length 0 et*i.size:=by
   simp only [Array.size_append,List.size_toArray,size_zeroCells,hzs,hl,← Nat.add_mul]
   congr 1; omega
  refine a_.dat S hb et i.size new _ (w.drawn+1) (grownCap w new.length 0 et) hge (by rw [hsz]; exact Nat.le_refl _) (fun ι' E=>?_)
  refine bC.ru (bq.mono (fun _ h=>h) (S.same E) _ _ fU) hsrc.one hrl (dB { w with drawn:=w.drawn+1 } _) (fun j u hu=>?_)
  have hj:j<news.length:=(List.getElem?_eq_some_iff.1 hu).1
  rw [Array.getElem?_append_left (by simpa using hj)]
  simpa using hu
theorem a_.Ue (S:aJ G J w ι obj) {o:Nat} {t tx ty et:TypeId} {i:TypeInfo} {z:Value} {v x:Value} {rows new:List (List DV)} {news:List Value} (ho:obj o=.live (.dat et i.size rows))
  (hx:cQ J w ι (.sl o rows.length i.size 0 rows.length) x) (ht:P.underlying t=some (.slice et)) (hi:P.info? et=some i) (hz:i.zero=some z)
  (hzs:z.cells.size=i.size) (hbytes:0<i.bytes)
  (hsrc:Src P i.size tx v new.length news w) (fU:bq J w new.flatten news) (hrl:∀ r∈new,r.length=i.size) (hfit:(rows++new).length*i.bytes≤70368744177664) :
  ∃ u w',(Builtin.append_ #[t,tx] ty #[x,v]).run P w=.ok u w'∧
    a_ G obj (fun k=>if k=o then .live (.dat et i.size (rows++new)) else obj k) J ι w (.sl o (rows.length+new.length) i.size 0 (rows.length+new.length)) u w':=by
 have h0:=S.rep o
 rw [ho] at h0
 obtain ⟨⟨hsome,BW⟩,hkey⟩:=h0
 rw [List.length_append] at hfit
 have hl:news.length=new.length*i.size:=hsrc.newsLen
 have h63:((rows.length+new.length:Nat):Int)≤9223372036854775807:=by
  have:(rows.length+new.length)*1≤(rows.length+new.length)*i.bytes:=Nat.mul_le_mul_left _ hbytes
  omega
 -- the elder cells
 obtain ⟨sa,cap,rfl,hcap,olds,hold,Sb,Wf,Fv,hblk⟩:∃ (sa:Option Addr) (cap:Nat),x=.slice sa rows.length cap∧rows.length≤cap∧∃ olds:List Value,
   (Builtin.firstCells i.size rows.length (.slice sa rows.length cap)).run P w.drew=.ok olds.toArray w.drew∧bq J w rows.flatten olds∧(∀ v∈olds,v.oneCell'=true)∧(∀ r∈rows,r.length=i.size)∧
   ((cap=0∧rows.length=0)∨∃ b C,sa=some ⟨b,0,none⟩∧ι o rows.length=some b∧w.heap[b]? = some (.cells C et (0,0))∧cap*i.size≤C.size∧bC J w i.size rows b 0):=by
  rcases hx with ⟨h1,sa,rfl⟩ | ⟨b,cap,et',C',hb,rfl,hc,hS,hC'⟩
  ·have hn:rows=[]:=by simpa using h1
   subst hn
   refine ⟨sa,0,rfl,Nat.le_refl _,[],?_,trivial,(fun _ h=>by cases h),(fun _ h=>by cases h),.inl ⟨rfl,rfl⟩⟩
   cases sa with
   | none=>exact run_firstCells_none w.drew i.size 0 0 0
   | some a=>exact run_firstCells_some w.drew i.size 0 a 0 0 [] (by simp) (fun j u hu=>by simp at hu)
  ·obtain ⟨⟨C,h2⟩,h3⟩:=BW b hb
   obtain ⟨k1,k2⟩:=h3.flat
   obtain ⟨vs,v1,v2,v3⟩:=k1.vals
   have hcs:C'= C.size:=by simp only [World.shape?,h2] at hS; cases hS; rfl
   subst hcs
   refine ⟨some ⟨b,0,none⟩,cap,by simp,hc,vs,?_,v1,v2,h3.rowLen,.inr ⟨b,C,rfl,hb,h2,by simpa using hC',h3⟩⟩
   refine run_firstCells_some w.drew i.size _ _ _ cap vs (by rw [← v1.length,k2]) (fun j u hu=>?_)
   rw [Addr.add_mid]
   exact v3 j u hu
 by_cases hroom:rows.length+new.length≤cap
 ·rcases hblk with ⟨rfl,LC⟩ | ⟨b,C,rfl,hb,h2,hC,h3⟩
  · -- nothing to append to nothing
   have hn:new=[]:=by
    have:new.length=0:=by omega
    simpa using this
   subst hn
   have hnews:news=[]:=by simpa using hl
   subst hnews
   have Ko:rows=[]:=by simpa using LC
   subst Ko
   refine ⟨_,w,run_append_nothing w t tx ty et i ht hi sa 0 0 (Nat.le_refl _) v hsrc,?_⟩
   have hT:=aJ.qK S o (.live (.dat et i.size ([]++[]))) (Ev.refl (Own ι obj) J ι w) (fun _ _ _=>rfl) (fun _ _ _=>rfl)
    (by have:=S.rep o; rw [ho] at this; exact this) (fun b hb=>.inl (by rw [ho]; exact hb))
   exact ⟨J,ι,hT.1,.inl ⟨rfl,sa,rfl⟩,hT.2⟩
  ·have hlen:news.length+rows.length*i.size≤C.size:=by
    rw [hl,← Nat.add_mul]
    exact Nat.le_trans (Nat.mul_le_mul_right _ (by omega)) hC
   have hc1:∀ j,j<news.length→(w.cell? ⟨b,0+rows.length*i.size+j,none⟩).isSome=true:=fun j hj=>by
    rw [cell_of_row w b _ C et _ h2]
    simp; omega
   have hf1:∀ j,j<news.length→w.frozen? ⟨b,0+rows.length*i.size+j,none⟩=false:=fun j hj=>by simp [World.frozen?,h2]
   have hrun:=run_append_room_src w t tx ty et i ht hi b 0 rows.length cap v new.length news hsrc hroom hc1 hf1
   simp only [Nat.zero_add] at hrun
   refine ⟨_,_,hrun,?_⟩
   have hown:Own ι obj b:=⟨o,by rw [ho]; exact hb⟩
   let ι':Nat→Nat→Option Nat:=fun k n=>if k=o∧n=rows.length+new.length then some b else ι k n
   have hi':∀ k n c,ι k n=some c→ι' k n=some c:=fun k n c hc=>by
    by_cases hk:k=o∧n=rows.length+new.length
    ·obtain ⟨rfl,rfl⟩:=hk
     rcases Nat.eq_zero_or_pos new.length with hz | hz
     ·rw [hz,Nat.add_zero] at hc ⊢
      rw [hb] at hc; cases hc
      simp [ι',hz]
     ·rw [hkey _ (by omega)] at hc; cases hc
    ·simp only [ι',if_neg hk]; exact hc
   have E:Ev (Own ι obj) J J ι ι' w (w.setCells b (rows.length*i.size) news):=Ev.setCells J w b _ news hown hi'
   obtain ⟨C',k1,k2⟩:=gr news (rows.length*i.size) w C h2 (by omega)
   have hCl:C'.size=C.size:=by
    have:=congrArg List.length k2
    rw [iL _ _ _ (by simp; omega)] at this
    simpa using this
   have Sc:olds.length=rows.length*i.size:=by rw [← Sb.length,kB Fv]
   have Wg:∀ (j:Nat) (u:Value),olds[j]? = some u→C[j]? = some u:=by
    obtain ⟨q1,q2⟩:=h3.flat
    obtain ⟨us,u1,u2,u3⟩:=q1.vals
    have:us=olds:=by
     have:∀ {xs:List DV} {a b:List Value},True:=trivial
     have hh:=run_firstCells_some (P:=P) w.drew i.size rows.length ⟨b,0,none⟩ rows.length cap us (by rw [← u1.length,q2]) (fun j u hu=>by rw [Addr.add_mid]; exact u3 j u hu)
     rw [hh] at hold
     injection hold with e1 _
     exact (List.toArray_inj e1)
    subst this
    intro j u hu
    have:=u3 j u hu
    rw [Nat.zero_add,cell_of_row w b _ C et _ h2] at this
    exact this
   have DQ:bC J (w.setCells b (rows.length*i.size) news) i.size (rows++new) b 0:=by
    refine bC.ru (vs:=olds++news) ?_ ?_ ?_ k1 ?_
    ·rw [List.flatten_append]
     exact bq.mono (fun _ h=>h) (S.same E) _ _ (bq.append Sb fU)
    ·intro u hu
     rcases List.mem_append.1 hu with hu | hu
     ·exact Wf u hu
     ·exact hsrc.one u hu
    ·intro r hr
     rcases List.mem_append.1 hr with hr | hr
     ·exact Fv r hr
     ·exact hrl r hr
    ·intro j u hu
     have hk:C'[j]? = C'.toList[j]?:=by simp
     rw [hk,k2]
     unfold splice
     by_cases hj:j<olds.length
     ·rw [List.getElem?_append_left hj] at hu
      rw [List.append_assoc,List.getElem?_append_left (by simp; omega),List.getElem?_take_of_lt (by omega)]
      simpa using Wg j u hu
     ·rw [List.getElem?_append_right (by omega)] at hu
      have hj2:j-olds.length<news.length:=(List.getElem?_eq_some_iff.1 hu).1
      rw [List.getElem?_append_left (by simp; omega),List.getElem?_append_right (by simp; omega),← hu]
      congr 1
      simp; omega
   have hT:=aJ.qK S o (.live (.dat et i.size (rows++new))) E (fun k hk n=>by simp only [ι']; rw [if_neg (fun h=>hk h.1)])
    (fun k hk hn=>heap_setCells_other (fun e=>hn (by rw [ho,e]; exact hb)) news _ w)
    ⟨⟨.inr (by simp [ι']),fun c hc=>by
      simp [ι'] at hc; subst hc
      exact ⟨⟨C',k1⟩,DQ⟩⟩,fun n hn=>by
      rw [List.length_append] at hn
      simp only [ι']; rw [if_neg (by omega)]; exact hkey n (by omega)⟩
    (fun c hc=>.inl (by
     simp [cv.own,aD.own,ι'] at hc
     rw [ho]; subst hc; exact hb))
   refine ⟨J,ι',hT.1,.inr ⟨b,cap,et,C.size,by simp [ι'],by simp,by omega,?_,by simpa using hC⟩,hT.2⟩
   simp only [World.shape?,k1,hCl]
 ·have hlt:cap<rows.length+new.length:=by omega
  have hrun:=run_append_grow_src w t tx ty et i z ht hi hz sa rows.length cap olds hold v new.length news hsrc hlt h63 (B4 hlt hfit)
  have hge:=grownCap_ge w (rows.length+new.length) cap et
  refine ⟨_,_,hrun,?_⟩
  generalize grownCap w (rows.length+new.length) cap et=gc at *
  let ι':Nat→Nat→Option Nat:=fun k n=>if k=o∧n=rows.length+new.length then some w.heap.size else ι k n
  have hpos:0<new.length:=by omega
  have hi':∀ k n c,ι k n=some c→ι' k n=some c:=fun k n c hc=>by
   by_cases hk:k=o∧n=rows.length+new.length
   ·obtain ⟨rfl,rfl⟩:=hk
    rw [hkey _ (by omega)] at hc; cases hc
   ·simp only [ι',if_neg hk]; exact hc
  have Sc:olds.length=rows.length*i.size:=by rw [← Sb.length,kB Fv]
  have hsz:((olds++news).toArray++Builtin.zeroCells z.cells (gc-(rows.length+new.length))).size=gc*i.size:=by
   simp only [Array.size_append,List.size_toArray,size_zeroCells,hzs,List.length_append,Sc,hl,← Nat.add_mul]
   congr 1; omega
  generalize hCC:(olds++news).toArray++Builtin.zeroCells z.cells (gc-(rows.length+new.length))=C at *
  have E:Ev (Own ι obj) J J ι ι' w ({ w with drawn:=w.drawn+1 }.alloc (.cells C et)):=Ev.alloc _ _ w _ _ hi'
  have hnew:({ w with drawn:=w.drawn+1 }.alloc (.cells C et)).heap[w.heap.size]? = some (.cells C et (0,0)):=dB { w with drawn:=w.drawn+1 } _
  have DQ:bC J ({ w with drawn:=w.drawn+1 }.alloc (.cells C et)) i.size (rows++new) w.heap.size 0:=by
   refine bC.ru (vs:=olds++news) ?_ ?_ ?_ hnew ?_
   ·rw [List.flatten_append]
    exact bq.mono (fun _ h=>h) (S.same E) _ _ (bq.append Sb fU)
   ·intro u hu
    rcases List.mem_append.1 hu with hu | hu
    ·exact Wf u hu
    ·exact hsrc.one u hu
   ·intro r hr
    rcases List.mem_append.1 hr with hr | hr
    ·exact Fv r hr
    ·exact hrl r hr
   ·intro j u hu
    rw [← hCC]
    have hj:j<(olds++news).length:=(List.getElem?_eq_some_iff.1 hu).1
    rw [Array.getElem?_append_left (by simpa using hj)]
    simpa using hu
  have hT:=aJ.qK S o (.live (.dat et i.size (rows++new))) E (fun k hk n=>by simp only [ι']; rw [if_neg (fun h=>hk h.1)])
   (fun k hk hn=>eP { w with drawn:=w.drawn+1 } _ k hk)
   ⟨⟨.inr (by simp [ι']),fun c hc=>by
     simp [ι'] at hc; subst hc
     exact ⟨⟨C,hnew⟩,DQ⟩⟩,fun n hn=>by
     rw [List.length_append] at hn
     simp only [ι']; rw [if_neg (by omega)]; exact hkey n (by omega)⟩
   (fun c hc=>.inr (by simp [cv.own,aD.own,ι'] at hc; omega))
  refine ⟨J,ι',hT.1,.inr ⟨w.heap.size,gc,et,C.size,by simp [ι'],by simp,hge,?_,by simp [hsz]⟩,hT.2⟩
  show ({ w with drawn:=w.drawn+1 }.alloc (.cells C et)).shape? w.heap.size=_
  simp only [World.shape?,hnew]
end
end Dv
