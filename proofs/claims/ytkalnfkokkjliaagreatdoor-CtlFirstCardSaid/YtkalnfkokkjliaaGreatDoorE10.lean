/- Opening a list of acts. -/
import Derived.Test.YtkalnfkokkjliaaGreatDoorEA
import Derived.Test.YtkalnfkokkjliaaGreatDoorCD
set_option linter.unusedVariables false
set_option linter.unusedSimpArgs false
namespace Dv
open Go Go.Proofs
open Go.ChangeShapes Go.WideShapes Go.RowKit Go.Deep Go.WideElems
section
variable {H:Type} {enc:TypeId×Value→H} {P:Program} {w:World} {base:Nat} {spare:Nat→Bool} {held:Bool}
def cW (w:World) (r:List DV) (cs:List Value):Prop:=bq (J0 w) w r cs∧∀ v∈cs,v.oneCell'=true
theorem cW.nil:cW w [] []:=⟨by simp only [bq],fun v h=>by cases h⟩
theorem cW.cons {x:DV} {v:Value} {r cs} (h:h_ (J0 w) w x v) (h1:v.oneCell'=true) (h2:cW w r cs):cW w (x::r) (v::cs):=
 ⟨by simp only [bq]; exact ⟨h,h2.1⟩,fun u hu=>by
  rcases List.mem_cons.1 hu with rfl | hu
  ·exact h1
  ·exact h2.2 u hu⟩
theorem cW.app:∀ {r cs r' cs'},cW w r cs→cW w r' cs'→cW w (r++r') (cs++cs')
 | [],[],_,_,_,h=>h
 | [],_::_,_,_,h,_=>by have:=h.1; simp only [bq] at this
 | _::_,[],_,_,h,_=>by have:=h.1; simp only [bq] at this
 | x::r,v::cs,_,_,h,h'=>by
   have:=h.1; simp only [bq] at this
   exact cW.cons this.1 (h.2 v (by simp)) (cW.app ⟨this.2,fun u hu=>h.2 u (by simp [hu])⟩ h')
theorem cW.vals:∀ (vs:List Value),(∀ v∈vs,v.oneCell'=true)→cW w (vs.map .val) vs
 | [],_=>cW.nil
 | v::vs,h=>cW.cons (by simp only [h_]) (h v (by simp)) (cW.vals vs fun u hu=>h u (by simp [hu]))
theorem Bb {b:Nat} : ∀ (r:List DV) (vs:List Value) (off:Nat),cW w r vs→(∀ i v,vs[i]? = some v→w.cell? ⟨b,off+i,none⟩=some v)→cU (J0 w) w r b off
 | [],_,_,_,_=>by simp only [cU]
 | _::_,[],_,h,_=>by have:=h.1; simp only [bq] at this
 | x::r,v::vs,off,h,h2=>by
   have hh:=h.1; simp only [bq] at hh
   simp only [cU]
   exact ⟨⟨v,by simpa using h2 0 v rfl,h.2 v (by simp),hh.1⟩,Bb r vs (off+1) ⟨hh.2,fun u hu=>h.2 u (by simp [hu])⟩ (fun i u hu=>by
    have:=h2 (i+1) u (by simpa using hu)
    rw [show off+1+i=off+(i+1) by omega]; exact this)⟩
theorem yo {α:Type} {b size:Nat} (row:α→List DV) (hl:∀ r,(row r).length=size):∀ (l:List α) (off:Nat),(∀ k r,l[k]? = some r→∃ cs,cW w (row r) cs∧∀ i v,cs[i]? = some v→w.cell? ⟨b,off+k*size+i,none⟩=some v)→bC (J0 w) w size (l.map row) b off
 | [],_,_=>by simp only [List.map_nil,bC]
 | r::l,off,h=>by
   obtain ⟨cs,hR,hc⟩:=h 0 r rfl
   simp only [List.map_cons,bC]
   exact ⟨hl r,Bb _ cs _ hR (fun i v hv=>by simpa using hc i v hv),yo row hl l (off+size) (fun k q hq=>by
    obtain ⟨cs',hR',xN⟩:=h (k+1) q (by simpa using hq)
    exact ⟨cs',hR',fun i v hv=>by
     have:=xN i v hv
     rw [show off+size+k*size+i=off+(k+1)*size+i by rw [Nat.add_mul]; omega]; exact this⟩)⟩
theorem Dd {α:Type} (row:α→List DV) (z:α) {t e:TypeId} {size fuel:Nat} {v:Value} (hl:∀ r,(row r).length=size) (ht:P.underlying t=some (.slice e)) (hC:P.cellsOf e=size) (hs0:0<size)
  (hel:∀ (n:Nat) (cs:List Value) (y:DataW H×List MemPlace),DataW.trod enc P w base spare held n e cs=some y→∃ r,cW w (row r) cs) (h:∃ x,DataW.trod enc P w base spare held fuel t [v]=some x) :
  ∃ rs:List α,v.oneCell'=true∧h_ (J0 w) w (.dY size (rs.map row)) v:=by
 obtain ⟨x,h⟩:=h
 rcases open_slice ht h with ⟨hcs,_⟩ | ⟨a,len,cap,m,n,D,Pl,hcs,_,hlc,hmx,OS,_,hx⟩
 ·have hv:v=.slice none 0 0:=by simpa using hcs
  exact ⟨[],by rw [hv]; rfl,by simp only [h_]; exact ⟨none,0,0,hv,rfl,Nat.le_refl _,.inl rfl⟩⟩
 ·have hv:v=.slice (some a) len cap:=by simpa using hcs
  have hlm:len≤m:=by rw [OS]; split <;> omega
  have hE:∀ k,k<len→∃ r,∃ cs,w.cells? base (a.add (k*size)) size=some cs∧cW w (row r) cs:=fun k hk=>by
   obtain ⟨cs',h1,h2⟩:=hx k (by omega)
   obtain ⟨r,hr⟩:=hel _ _ _ h2
   exact ⟨r,cs',by rw [hC] at h1; exact h1,hr⟩
  obtain ⟨f,hf⟩:∃ f:Nat→α,∀ k,k<len→∃ cs,w.cells? base (a.add (k*size)) size=some cs∧cW w (row (f k)) cs:=
   ⟨fun k=>if hk:k<len then (hE k hk).choose else z,fun k hk=>by have:=(hE k hk).choose_spec; simpa only [dif_pos hk] using this⟩
  refine ⟨(List.range len).map f,by rw [hv]; rfl,?_⟩
  simp only [h_]
  refine ⟨some a,len,cap,hv,by simp,hlc,?_⟩
  rcases Nat.eq_zero_or_pos len with h0 | h0
  ·left; rw [h0]; rfl
  ·right
   obtain ⟨b,o,sp⟩:=a
   obtain ⟨cs0,YV,hR0⟩:=hf 0 h0
   obtain ⟨hl0,hlen',xN⟩:=World.cells?_some YV
   have uQ:cs0.length=size:=by
    have:∀ {r:List DV} {vs:List Value},bq (J0 w) w r vs→vs.length=r.length:=by
     intro r
     induction r with
     | nil=>intro vs h; cases vs with
       | nil=>rfl
       | cons _ _=>simp only [bq] at h
     | cons x r ih=>intro vs h; cases vs with
       | nil=>simp only [bq] at h
       | cons v vs=>simp only [bq] at h; simp [ih h.2]
    rw [this hR0.1,hl]
   obtain ⟨u0,Yj⟩:∃ u0,cs0[0]? = some u0:=by
    rw [List.getElem?_eq_getElem (by omega)]; exact ⟨_,rfl⟩
   have hc0:=(xN 0 hs0).trans Yj
   have hsp:sp=none:=by
    have:=World.cell?_spot hc0
    simpa [Addr.add] using this
   subst hsp
   have hlt:=J0.zJ hc0
   refine ⟨b,o,rfl,by simp only [Addr.add] at hlt; (repeat' split at hlt) <;> exact hlt,?_⟩
   refine yo row hl _ o (fun k r hk=>?_)
   have hk':k<len:=by
    have:=(List.getElem?_eq_some_iff.1 hk).1
    simpa using this
   have hr:r=f k:=by simp [hk'] at hk; exact hk.symm
   subst hr
   obtain ⟨cs,hcs,hR⟩:=hf k hk'
   refine ⟨cs,hR,fun i v hv=>?_⟩
   obtain ⟨_,hlen,hc⟩:=World.cells?_some hcs
   obtain ⟨hi,_⟩:=List.getElem?_eq_some_iff.1 hv
   have:=(hc i (by omega)).trans hv
   rw [add_plain,add_plain] at this
   exact this
def Cf:List Nat→Nat→List Value→List Value
 | [],_,_=>[]
 | n::ns,o,cs=>(cs.drop o).take n++Cf ns (o+n) cs
theorem wX:∀ (ns:List Nat) (o:Nat) (cs:List Value),cs.length=o+ns.sum→Cf ns o cs=cs.drop o
 | [],o,cs,h=>by rw [List.drop_eq_nil_of_le (by simp at h; omega)]; rfl
 | n::ns,o,cs,h=>by
   unfold Cf
   rw [wX ns (o+n) cs (by simp at h; omega),← List.drop_drop,List.take_append_drop]
theorem u5 {t:TypeId} {fs:Array Field} {fuel:Nat} {cs:List Value} {x:DataW H×List MemPlace} (ht:P.underlying t=some (.struct fs)) (h:DataW.trod enc P w base spare held fuel t cs=some x) :
  ∃ n,cs.length=P.cellsOf t∧∀ (i:Nat) (ty:TypeId) (o k:Nat),(fs[i]?.map fun f=>(f.type,f.offset))=some (ty,o)→P.cellsOf ty=k→∃ y,DataW.trod enc P w base spare held n ty ((cs.drop o).take k)=some y:=by
 obtain ⟨xs,n,_,_,hl,hlen,hf⟩:=DataW.trod_struct ht h
 refine ⟨n,hl,fun i ty o k hi hk=>?_⟩
 obtain ⟨f,Ah,he⟩:=Option.map_eq_some_iff.1 hi
 clear hi
 obtain ⟨rfl,rfl⟩:=Prod.mk.inj he
 subst hk
 have hlt:i<fs.size:=(Array.getElem?_eq_some_iff.1 Ah).1
 exact ⟨_,(hf i f Ah).trans (List.getElem?_eq_getElem (by omega))⟩
end
set_option maxRecDepth 100000 in
theorem Cj {H:Type} {enc:TypeId×Value→H} {w:World} {base:Nat} {spare:Nat→Bool} {held:Bool} {fuel:Nat} {cs:List Value} {x:DataW H×List MemPlace} (h:DataW.trod enc Tryz.prog w base spare held fuel 57 cs=some x) (hl:cs.length=1):∃ l:List Int,cW w [.dY 1 (aA l)] cs:=by
 obtain ⟨v,rfl⟩:∃ v,cs=[v]:=by
  match cs,hl with
  | [v],_=>exact ⟨v,rfl⟩
 obtain ⟨l,_,h1,hr⟩:=Gj (size:=1) (fun n:Int=>[Value.int .u8 n]) 0 (fun r v hv=>by simp at hv; rw [hv]; rfl) (fun _=>rfl) Tryz.underlying57 (by kernel_rfl:Tryz.prog.cellsOf 5=1) (by omega) (fun _ _ _ h=>by
  obtain ⟨z,hz,_⟩:=DataW.trod_int Tryz.underlying5 h
  exact ⟨z,hz⟩) ⟨_,h⟩
 exact ⟨l,cW.cons hr h1 cW.nil⟩
theorem iF {H:Type} {enc:TypeId×Value→H} {w:World} {base:Nat} {spare:Nat→Bool} {held:Bool} {fuel:Nat} {cs:List Value} {x:DataW H×List MemPlace} (h:DataW.trod enc Tryz.prog w base spare held fuel 3 cs=some x):∃ z:Int,cW w [i64 z] cs:=by
 obtain ⟨z,hz,_⟩:=DataW.trod_int Tryz.underlying3 h
 rw [hz]
 exact ⟨z,cW.vals [.int .i64 z] (by simp [Value.oneCell'])⟩
set_option maxRecDepth 100000 in
theorem CX {H:Type} {enc:TypeId×Value→H} {w:World} {base:Nat} {spare:Nat→Bool} {held:Bool} {fuel:Nat} {cs:List Value} {x:DataW H×List MemPlace} (h:DataW.trod enc Tryz.prog w base spare held fuel 89 cs=some x):∃ (k t j e:Int) (l:List Int),cW w [i64 k,i64 t,i64 j,i64 e,.dY 1 (aA l)] cs:=by
 obtain ⟨n,hl,hf⟩:=u5 Tryz.underlying89 h
 have hl5:cs.length=5:=hl.trans (by kernel_rfl)
 have ci:Tryz.prog.cellsOf 3=1:=by kernel_rfl
 have cb:Tryz.prog.cellsOf 57=1:=by kernel_rfl
 obtain ⟨_,h0⟩:=hf 0 3 0 1 rfl ci
 obtain ⟨_,h1⟩:=hf 1 3 1 1 rfl ci
 obtain ⟨_,h2⟩:=hf 2 3 2 1 rfl ci
 obtain ⟨_,h3⟩:=hf 3 3 3 1 rfl ci
 obtain ⟨_,h4⟩:=hf 4 57 4 1 rfl cb
 obtain ⟨z0,r0⟩:=iF h0
 obtain ⟨z1,r1⟩:=iF h1
 obtain ⟨z2,r2⟩:=iF h2
 obtain ⟨z3,r3⟩:=iF h3
 obtain ⟨l,r4⟩:=Cj h4 (by simp; omega)
 have he:=wX [1,1,1,1,1] 0 cs (by simp; omega)
 simp only [Cf,List.append_nil,Nat.zero_add,Nat.reduceAdd,List.drop_zero] at he
 refine ⟨z0,z1,z2,z3,l,?_⟩
 rw [← he]
 exact cW.app (by simpa using r0) (cW.app r1 (cW.app r2 (cW.app r3 r4)))
set_option maxRecDepth 100000 in
theorem Ia {H:Type} {enc:TypeId×Value→H} {w:World} {base:Nat} {spare:Nat→Bool} {held:Bool} {fuel:Nat} {cs:List Value} {x:DataW H×List MemPlace} (h:DataW.trod enc Tryz.prog w base spare held fuel 91 cs=some x):∃ a:tE,cW w (EE a) cs:=by
 obtain ⟨n,hl,hf⟩:=u5 Tryz.underlying91 h
 have aad:cs.length=26:=hl.trans (by kernel_rfl)
 have ci:Tryz.prog.cellsOf 3=1:=by kernel_rfl
 have co:Tryz.prog.cellsOf 37=7:=by kernel_rfl
 have cm:Tryz.prog.cellsOf 87=11:=by kernel_rfl
 have ca:Tryz.prog.cellsOf 89=5:=by kernel_rfl
 obtain ⟨_,h0⟩:=hf 0 3 0 1 rfl ci
 obtain ⟨_,h1⟩:=hf 1 3 1 1 rfl ci
 obtain ⟨_,h2⟩:=hf 2 3 2 1 rfl ci
 obtain ⟨_,h3⟩:=hf 3 37 3 7 rfl co
 obtain ⟨_,h4⟩:=hf 4 87 10 11 rfl cm
 obtain ⟨_,h5⟩:=hf 5 89 21 5 rfl ca
 obtain ⟨z0,r0⟩:=iF h0
 obtain ⟨z1,r1⟩:=iF h1
 obtain ⟨z2,r2⟩:=iF h2
 obtain ⟨o,r3⟩:=Jn h3
 obtain ⟨m,r4⟩:=GD h4
 obtain ⟨k,t,j,e,l,r5⟩:=CX h5
 have he:=wX [1,1,1,7,11,5] 0 cs (by simp; omega)
 simp only [Cf,List.append_nil,Nat.zero_add,Nat.reduceAdd,List.drop_zero] at he
 refine ⟨⟨z0,z1,z2,o,m,k,t,j,e,l⟩,?_⟩
 rw [← he]
 have q3:cW w (U6 o) ((cs.drop 3).take 7):=by rw [r3]; exact cW.vals (Dp o) (by simp [Dp,Value.oneCell'])
 have q4:cW w (kV m) ((cs.drop 10).take 11):=by rw [r4]; exact cW.vals (zR m) (by simp [zR,Value.oneCell'])
 exact cW.app (r:=[i64 z0]) (by simpa using r0) (cW.app (r:=[i64 z1]) r1 (cW.app (r:=[i64 z2]) r2 (cW.app q3 (cW.app q4 r5))))
set_option maxRecDepth 100000 in
theorem H_ {H:Type} {enc:TypeId×Value→H} {W:World} {base:Nat} {spare:Nat→Bool} {held:Bool} {r:Reach} {b0:Nat} {v:Value} {d:DataW H} {p:List MemPlace} (hv:Value.okWide Tryz.prog W r b0 84 v) (h:DataW.Trod enc Tryz.prog W base spare held 84 v d p):∃ l:List tE,cQ (J0 W) W cw (kK l) v:=by
 obtain ⟨a,len,cap,rfl⟩:=okWide_slice Tryz.underlying84 hv
 obtain ⟨fuel,hf⟩:=h
 obtain ⟨l,_,hr⟩:=Dd EE Cx (fun _=>rfl) Tryz.underlying84 (by kernel_rfl:Tryz.prog.cellsOf 91=26) (by omega) (fun _ _ _ h=>Ia h) ⟨_,hf⟩
 exact ⟨l,hr⟩
end Dv
