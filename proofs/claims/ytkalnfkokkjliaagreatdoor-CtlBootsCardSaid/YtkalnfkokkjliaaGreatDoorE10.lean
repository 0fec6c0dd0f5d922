/- Opening a list of acts. -/
import Derived.Test.YtkalnfkokkjliaaGreatDoorEA
import Derived.Test.YtkalnfkokkjliaaGreatDoorEA
import Derived.Test.YtkalnfkokkjliaaGreatDoorCD
set_option linter.unusedVariables false
set_option linter.unusedSimpArgs false
namespace Dv
open Go Go.Proofs
open Go.ChangeShapes Go.WideShapes Go.RowKit Go.Deep Go.WideElems
section
variable {H:Type} {enc:TypeId×Value→H} {P:Program} {w:World} {base:Nat} {spare:Nat→Bool} {held:Bool}
def fP (w:World) (r:List DV) (cs:List Value):Prop:=bJ (J0 w) w r cs∧∀ v∈cs,v.oneCell'=true
theorem fP.nil:fP w [] []:=⟨by simp only [bJ],fun v h=>by cases h⟩
theorem fP.cons {x:DV} {v:Value} {r cs} (h:jc (J0 w) w x v) (h1:v.oneCell'=true) (h2:fP w r cs):fP w (x::r) (v::cs):=
 ⟨by simp only [bJ]; exact ⟨h,h2.1⟩,fun u hu=>by
  rcases List.mem_cons.1 hu with rfl | hu
  ·exact h1
  ·exact h2.2 u hu⟩
theorem fP.app:∀ {r cs r' cs'},fP w r cs→fP w r' cs'→fP w (r++r') (cs++cs')
 | [],[],_,_,_,h=>h
 | [],_::_,_,_,h,_=>by have:=h.1; simp only [bJ] at this
 | _::_,[],_,_,h,_=>by have:=h.1; simp only [bJ] at this
 | x::r,v::cs,_,_,h,h'=>by
   have:=h.1; simp only [bJ] at this
   exact fP.cons this.1 (h.2 v (by simp)) (fP.app ⟨this.2,fun u hu=>h.2 u (by simp [hu])⟩ h')
theorem fP.vals:∀ (vs:List Value),(∀ v∈vs,v.oneCell'=true)→fP w (vs.map .val) vs
 | [],_=>fP.nil
 | v::vs,h=>fP.cons (by simp only [jc]) (h v (by simp)) (fP.vals vs fun u hu=>h u (by simp [hu]))
theorem DG {b:Nat} : ∀ (r:List DV) (vs:List Value) (off:Nat),fP w r vs→(∀ i v,vs[i]? = some v→w.cell? ⟨b,off+i,none⟩=some v)→dU (J0 w) w r b off
 | [],_,_,_,_=>by simp only [dU]
 | _::_,[],_,h,_=>by have:=h.1; simp only [bJ] at this
 | x::r,v::vs,off,h,h2=>by
   have hh:=h.1; simp only [bJ] at hh
   simp only [dU]
   exact ⟨⟨v,by simpa using h2 0 v rfl,h.2 v (by simp),hh.1⟩,DG r vs (off+1) ⟨hh.2,fun u hu=>h.2 u (by simp [hu])⟩ (fun i u hu=>by
    have:=h2 (i+1) u (by simpa using hu)
    rw [show off+1+i=off+(i+1) by omega]; exact this)⟩
theorem AB {α:Type} {b size:Nat} (row:α→List DV) (hl:∀ r,(row r).length=size):∀ (l:List α) (off:Nat),(∀ k r,l[k]? = some r→∃ cs,fP w (row r) cs∧∀ i v,cs[i]? = some v→w.cell? ⟨b,off+k*size+i,none⟩=some v)→bO (J0 w) w size (l.map row) b off
 | [],_,_=>by simp only [List.map_nil,bO]
 | r::l,off,h=>by
   obtain ⟨cs,hR,hc⟩:=h 0 r rfl
   simp only [List.map_cons,bO]
   exact ⟨hl r,DG _ cs _ hR (fun i v hv=>by simpa using hc i v hv),AB row hl l (off+size) (fun k q hq=>by
    obtain ⟨cs',hR',wG⟩:=h (k+1) q (by simpa using hq)
    exact ⟨cs',hR',fun i v hv=>by
     have:=wG i v hv
     rw [show off+size+k*size+i=off+(k+1)*size+i by rw [Nat.add_mul]; omega]; exact this⟩)⟩
theorem FW {α:Type} (row:α→List DV) (z:α) {t e:TypeId} {size fuel:Nat} {v:Value} (hl:∀ r,(row r).length=size) (ht:P.underlying t=some (.slice e)) (hC:P.cellsOf e=size) (hs0:0<size)
  (hel:∀ (n:Nat) (cs:List Value) (y:DataW H×List MemPlace),DataW.trod enc P w base spare held n e cs=some y→∃ r,fP w (row r) cs) (h:∃ x,DataW.trod enc P w base spare held fuel t [v]=some x) :
  ∃ rs:List α,v.oneCell'=true∧jc (J0 w) w (.dN size (rs.map row)) v:=by
 obtain ⟨x,h⟩:=h
 rcases open_slice ht h with ⟨hcs,_⟩ | ⟨a,len,cap,m,n,D,Pl,hcs,_,hlc,Sz,LC,_,hx⟩
 ·have hv:v=.slice none 0 0:=by simpa using hcs
  exact ⟨[],by rw [hv]; rfl,by simp only [jc]; exact ⟨none,0,0,hv,rfl,Nat.le_refl _,.inl rfl⟩⟩
 ·have hv:v=.slice (some a) len cap:=by simpa using hcs
  have hlm:len≤m:=by rw [LC]; split <;> omega
  have hE:∀ k,k<len→∃ r,∃ cs,w.cells? base (a.add (k*size)) size=some cs∧fP w (row r) cs:=fun k hk=>by
   obtain ⟨cs',h1,h2⟩:=hx k (by omega)
   obtain ⟨r,hr⟩:=hel _ _ _ h2
   exact ⟨r,cs',by rw [hC] at h1; exact h1,hr⟩
  obtain ⟨f,hf⟩:∃ f:Nat→α,∀ k,k<len→∃ cs,w.cells? base (a.add (k*size)) size=some cs∧fP w (row (f k)) cs:=
   ⟨fun k=>if hk:k<len then (hE k hk).choose else z,fun k hk=>by have:=(hE k hk).choose_spec; simpa only [dif_pos hk] using this⟩
  refine ⟨(List.range len).map f,by rw [hv]; rfl,?_⟩
  simp only [jc]
  refine ⟨some a,len,cap,hv,by simp,hlc,?_⟩
  rcases Nat.eq_zero_or_pos len with h0 | h0
  ·left; rw [h0]; rfl
  ·right
   obtain ⟨b,o,sp⟩:=a
   obtain ⟨cs0,ab1,hR0⟩:=hf 0 h0
   obtain ⟨hl0,hlen',wG⟩:=World.cells?_some ab1
   have Bh:cs0.length=size:=by
    have:∀ {r:List DV} {vs:List Value},bJ (J0 w) w r vs→vs.length=r.length:=by
     intro r
     induction r with
     | nil=>intro vs h; cases vs with
       | nil=>rfl
       | cons _ _=>simp only [bJ] at h
     | cons x r ih=>intro vs h; cases vs with
       | nil=>simp only [bJ] at h
       | cons v vs=>simp only [bJ] at h; simp [ih h.2]
    rw [this hR0.1,hl]
   obtain ⟨u0,hu0⟩:∃ u0,cs0[0]? = some u0:=by
    rw [List.getElem?_eq_getElem (by omega)]; exact ⟨_,rfl⟩
   have hc0:=(wG 0 hs0).trans hu0
   have hsp:sp=none:=by
    have:=World.cell?_spot hc0
    simpa [Addr.add] using this
   subst hsp
   have hlt:=J0.Cf hc0
   refine ⟨b,o,rfl,by simp only [Addr.add] at hlt; (repeat' split at hlt) <;> exact hlt,?_⟩
   refine AB row hl _ o (fun k r hk=>?_)
   have hk':k<len:=by
    have:=(List.getElem?_eq_some_iff.1 hk).1
    simpa using this
   have hr:r=f k:=by simp [hk'] at hk; exact hk.symm
   subst hr
   obtain ⟨cs,hcs,hR⟩:=hf k hk'
   refine ⟨cs,hR,fun i v hv=>?_⟩
   obtain ⟨_,hlen,hc⟩:=World.cells?_some hcs
   obtain ⟨hi,_⟩:=List.getElem?_eq_some_iff.1 hv
   have:=(hc i (by omega)).trans hv
   rw [add_plain,add_plain] at this
   exact this
def IK:List Nat→Nat→List Value→List Value
 | [],_,_=>[]
 | n::ns,o,cs=>(cs.drop o).take n++IK ns (o+n) cs
theorem EZ:∀ (ns:List Nat) (o:Nat) (cs:List Value),cs.length=o+ns.sum→IK ns o cs=cs.drop o
 | [],o,cs,h=>by rw [List.drop_eq_nil_of_le (by simp at h; omega)]; rfl
 | n::ns,o,cs,h=>by
   unfold IK
   rw [EZ ns (o+n) cs (by simp at h; omega),← List.drop_drop,List.take_append_drop]
theorem FG {t:TypeId} {fs:Array Field} {fuel:Nat} {cs:List Value} {x:DataW H×List MemPlace} (ht:P.underlying t=some (.struct fs)) (h:DataW.trod enc P w base spare held fuel t cs=some x) :
  ∃ n,cs.length=P.cellsOf t∧∀ (i:Nat) (ty:TypeId) (o k:Nat),(fs[i]?.map fun f=>(f.type,f.offset))=some (ty,o)→P.cellsOf ty=k→∃ y,DataW.trod enc P w base spare held n ty ((cs.drop o).take k)=some y:=by
 obtain ⟨xs,n,_,_,hl,hlen,hf⟩:=DataW.trod_struct ht h
 refine ⟨n,hl,fun i ty o k hi hk=>?_⟩
 obtain ⟨f,q_,he⟩:=Option.map_eq_some_iff.1 hi
 clear hi
 obtain ⟨rfl,rfl⟩:=Prod.mk.inj he
 subst hk
 have hlt:i<fs.size:=(Array.getElem?_eq_some_iff.1 q_).1
 exact ⟨_,(hf i f q_).trans (List.getElem?_eq_getElem (by omega))⟩
end
theorem Be {H:Type} {enc:TypeId×Value→H} {w:World} {base:Nat} {spare:Nat→Bool} {held:Bool} {fuel:Nat} {cs:List Value} {x:DataW H×List MemPlace} (h:DataW.trod enc Tryz.prog w base spare held fuel 3 cs=some x):∃ z:Int,fP w [i64 z] cs:=by
 obtain ⟨z,hz,_⟩:=DataW.trod_int Tryz.underlying3 h
 rw [hz]
 exact ⟨z,fP.vals [.int .i64 z] (by simp [Value.oneCell'])⟩
end Dv
