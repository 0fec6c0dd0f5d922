/- part -/
import Derived.Test.YtkalnfkokkjliaaGreatDoorAC
import Derived.Test.YtkalnfkokkjliaaGreatDoorEA
import Derived.LaidMore
import Derived.Lib.LaidTab
import Derived.Lib.LaidU8
import Derived.HandedShaped
import Derived.Lay
import Derived.OpenShut
import Derived.LaidHandle
import Derived.MakeChecks
import Derived.Test.YtkalnfkokkjliaaGreatDoorRows
import Derived.Test.YtkalnfkokkjliaaGreatDoorCD
set_option linter.all false
set_option maxRecDepth 100000
namespace Dv
open Go Go.Proofs
open Go.ChangeShapes Go.WideShapes Go.RowKit Go.Deep Go.WideElems
@[reducible] def tW:List (String×DataW Unit):=[("math/bits.deBruijn32tab",Go.Proofs.YtkalnfkokkjliaaGreatDoor.Rows.laid_math_bits_deBruijn32tab),("math/bits.deBruijn64tab",Go.Proofs.YtkalnfkokkjliaaGreatDoor.Rows.laid_math_bits_deBruijn64tab),("dunnage/ops.names",Go.Proofs.YtkalnfkokkjliaaGreatDoor.Rows.laid_dunnage_ops_names),("dunnage/ops.many",Go.Proofs.YtkalnfkokkjliaaGreatDoor.Rows.laid_dunnage_ops_many)]
theorem NL {W:World} (h:laidMetH Tryz.prog tW W):laidMet Tryz.prog tW W:=by
 rw [MakeChecks.laidMetH_plain _ _ _ (by kernel_rfl)] at h
 exact h
theorem yY {W:World} (h:laidMet Tryz.prog tW W) {name:String} {d:DataW Unit} {g t e n:Nat} {k:IntKind} {zs:List Int} (hm:(name,d)∈tW) (hd:d=Lib.tabData k zs) (hg:Tryz.prog.globalNamed name=some g) (ht:(Tryz.prog.globals[g]?).map (·.type)=some t)
  (hu:Tryz.prog.underlying t=some (.array n e)) (he:Tryz.prog.underlying e=some (.int k)) (h1:Tryz.prog.cellsOf e=1) (h2:Tryz.prog.cellsOf t=n) (i:Nat):W.cell? ⟨g,i,none⟩=(zs.map (Value.int k))[i]?:=by
 obtain ⟨g0,t0,cs0,f0,p0,hg0,ht0,hv0,Ny⟩:=Lib.laidMet.reads h hm
 obtain rfl:=Option.some.inj (hg.symm.trans hg0)
 obtain rfl:=Option.some.inj (ht.symm.trans ht0)
 rw [hd] at Ny
 rw [World.var?_cell hg0 hv0 i]
 have:=Lib.cells_of_tab hu he h1 h2 Ny
 rw [← this]; simp
theorem FD {W:World} (h:laidMet Tryz.prog tW W) (i:Nat):W.cell? ⟨1,i,none⟩=lC[i]?:=by
 obtain ⟨g0,t0,cs0,f0,p0,hg0,ht0,hv0,Ny⟩:=Lib.laidMet.reads h (n:= "dunnage/ops.names") (d:=Go.Proofs.YtkalnfkokkjliaaGreatDoor.Rows.laid_dunnage_ops_names) (by simp)
 obtain rfl:=Option.some.inj ((show Tryz.prog.globalNamed "dunnage/ops.names" = some 1 by kernel_rfl).symm.trans hg0)
 obtain rfl:=Option.some.inj ((show (Tryz.prog.globals[1]?).map (·.type)=some 284 by kernel_rfl).symm.trans ht0)
 rw [World.var?_cell hg0 hv0 i,← FE Ny]; simp
theorem CA {W:World} {g:Nat} {vals:List Value} (h:∀ i:Nat,W.cell? ⟨g,i,none⟩=vals[i]?) (hf:∀ v∈vals,v.oneCell'=true) (h0:0<vals.length):J0 W g∧dI (J0 W) W (vals.map DV.val) g 0∧∃ t,W.shape? g=some (t,(vals.map DV.val).length):=by
 have hc:=h 0
 rw [List.getElem?_eq_getElem h0] at hc
 refine ⟨J0.DD hc,Dt vals 0 hf (fun i v hv=>by rw [Nat.zero_add,h i,hv]),?_⟩
 rw [List.length_map]
 exact Dl h h0
theorem wk {W:World} {g:Nat} {k:IntKind} {zs:List Int} (h:∀ i:Nat,W.cell? ⟨g,i,none⟩=(zs.map (Value.int k))[i]?) (h0:0<zs.length):J0 W g∧dI (J0 W) W (zs.map fun n=>DV.val (.int k n)) g 0∧∃ t,W.shape? g=some (t,(zs.map fun n=>DV.val (.int k n)).length):=by
 have:=CA h (fun v hv=>by
  simp only [List.mem_map] at hv
  obtain ⟨n,_,rfl⟩:=hv
  rfl) (by simpa using h0)
 rw [List.map_map] at this
 exact this
theorem aI.tW {W:World} (hm:laidMetH Tryz.prog tW W):aI eE (J0 W) W ck (aD []):=by
 have h:=NL hm
 have S:=aI.zero W
 refine ⟨S.rep,S.inj,S.sn,S.jcell,fun g row hg=>?_⟩
 unfold eE at hg
 split at hg
 ·rename_i e; subst e; cases hg; exact wk (yY h (name:= "math/bits.deBruijn32tab") (d:=Go.Proofs.YtkalnfkokkjliaaGreatDoor.Rows.laid_math_bits_deBruijn32tab) (k:=.u8) (zs:=YN) (by simp) (by rfl) (by kernel_rfl) (by kernel_rfl) Tryz.underlying348 Tryz.underlying5 (by kernel_rfl) (by kernel_rfl)) (by decide)
 split at hg
 ·rename_i e; subst e; cases hg; exact wk (yY h (name:= "math/bits.deBruijn64tab") (d:=Go.Proofs.YtkalnfkokkjliaaGreatDoor.Rows.laid_math_bits_deBruijn64tab) (k:=.u8) (zs:=YM) (by simp) (by rfl) (by kernel_rfl) (by kernel_rfl) Tryz.underlying349 Tryz.underlying5 (by kernel_rfl) (by kernel_rfl)) (by decide)
 unfold dc at hg
 split at hg
 ·rename_i e; subst e; cases hg; exact wk (yY h (name:= "dunnage/ops.many") (d:=Go.Proofs.YtkalnfkokkjliaaGreatDoor.Rows.laid_dunnage_ops_many) (k:=.i64) (zs:=We) (by simp) (by rfl) (by kernel_rfl) (by kernel_rfl) Tryz.underlying238 Tryz.underlying3 (by kernel_rfl) (by kernel_rfl)) (by decide)
 split at hg
 ·rename_i e; subst e; cases hg
  have:=CA (FD h) (fun v hv=>by
   simp only [lC,List.mem_map] at hv
   obtain ⟨n,_,rfl⟩:=hv
   rfl) (by decide)
  rw [show zO=lC.map DV.val from by unfold zO lC; rw [List.map_map]; rfl]
  exact this
 cases hg
theorem Le (os:Os) (args:Array Value):laidMetH Tryz.prog tW ((World.laidAll Tryz.prog os tW).forCall (fun _ _=>0) ⟨#[],args,[]⟩).memory:=by
 rw [MakeChecks.laidMetH_plain _ _ _ (by kernel_rfl)]
 exact laidMet_laidAll _ (by kernel_rfl) (by kernel_rfl)
end Dv
namespace Dv
open Go Go.Proofs
open Go.ChangeShapes Go.WideShapes Go.RowKit Go.Deep Go.WideElems
section
variable {H:Type} {enc:TypeId×Value→H} {P:Program} {w:World} {base:Nat} {spare:Nat→Bool} {held:Bool}
def dO (w:World) (r:List DV) (cs:List Value):Prop:=bA (J0 w) w r cs∧∀ v∈cs,v.oneCell'=true
theorem dO.nil:dO w [] []:=⟨by simp only [bA],fun v h=>by cases h⟩
theorem dO.cons {x:DV} {v:Value} {r cs} (h:iH (J0 w) w x v) (h1:v.oneCell'=true) (h2:dO w r cs):dO w (x::r) (v::cs):=
 ⟨by simp only [bA]; exact ⟨h,h2.1⟩,fun u hu=>by
  rcases List.mem_cons.1 hu with rfl | hu
  ·exact h1
  ·exact h2.2 u hu⟩
theorem dO.app:∀ {r cs r' cs'},dO w r cs→dO w r' cs'→dO w (r++r') (cs++cs')
 | [],[],_,_,_,h=>h
 | [],_::_,_,_,h,_=>by have:=h.1; simp only [bA] at this
 | _::_,[],_,_,h,_=>by have:=h.1; simp only [bA] at this
 | x::r,v::cs,_,_,h,h'=>by
   have:=h.1; simp only [bA] at this
   exact dO.cons this.1 (h.2 v (by simp)) (dO.app ⟨this.2,fun u hu=>h.2 u (by simp [hu])⟩ h')
theorem dO.vals:∀ (vs:List Value),(∀ v∈vs,v.oneCell'=true)→dO w (vs.map .val) vs
 | [],_=>dO.nil
 | v::vs,h=>dO.cons (by simp only [iH]) (h v (by simp)) (dO.vals vs fun u hu=>h u (by simp [hu]))
theorem Fa {b:Nat} : ∀ (r:List DV) (vs:List Value) (off:Nat),dO w r vs→(∀ i v,vs[i]? = some v→w.cell? ⟨b,off+i,none⟩=some v)→dI (J0 w) w r b off
 | [],_,_,_,_=>by simp only [dI]
 | _::_,[],_,h,_=>by have:=h.1; simp only [bA] at this
 | x::r,v::vs,off,h,h2=>by
   have hh:=h.1; simp only [bA] at hh
   simp only [dI]
   exact ⟨⟨v,by simpa using h2 0 v rfl,h.2 v (by simp),hh.1⟩,Fa r vs (off+1) ⟨hh.2,fun u hu=>h.2 u (by simp [hu])⟩ (fun i u hu=>by
    have:=h2 (i+1) u (by simpa using hu)
    rw [show off+1+i=off+(i+1) by omega]; exact this)⟩
theorem BS {α:Type} {b size:Nat} (row:α→List DV) (hl:∀ r,(row r).length=size):∀ (l:List α) (off:Nat),(∀ k r,l[k]? = some r→∃ cs,dO w (row r) cs∧∀ i v,cs[i]? = some v→w.cell? ⟨b,off+k*size+i,none⟩=some v)→bF (J0 w) w size (l.map row) b off
 | [],_,_=>by simp only [List.map_nil,bF]
 | r::l,off,h=>by
   obtain ⟨cs,hR,hc⟩:=h 0 r rfl
   simp only [List.map_cons,bF]
   exact ⟨hl r,Fa _ cs _ hR (fun i v hv=>by simpa using hc i v hv),BS row hl l (off+size) (fun k q hq=>by
    obtain ⟨cs',hR',wh⟩:=h (k+1) q (by simpa using hq)
    exact ⟨cs',hR',fun i v hv=>by
     have:=wh i v hv
     rw [show off+size+k*size+i=off+(k+1)*size+i by rw [Nat.add_mul]; omega]; exact this⟩)⟩
theorem Hw {α:Type} (row:α→List DV) (z:α) {t e:TypeId} {size fuel:Nat} {v:Value} (hl:∀ r,(row r).length=size) (ht:P.underlying t=some (.slice e)) (hC:P.cellsOf e=size) (hs0:0<size)
  (hel:∀ (n:Nat) (cs:List Value) (y:DataW H×List MemPlace),DataW.trod enc P w base spare held n e cs=some y→∃ r,dO w (row r) cs) (h:∃ x,DataW.trod enc P w base spare held fuel t [v]=some x) :
  ∃ rs:List α,v.oneCell'=true∧iH (J0 w) w (.dH size (rs.map row)) v:=by
 obtain ⟨x,h⟩:=h
 rcases open_slice ht h with ⟨hcs,_⟩ | ⟨a,len,cap,m,n,D,Pl,hcs,_,hlc,hmx,U7,_,hx⟩
 ·have hv:v=.slice none 0 0:=by simpa using hcs
  exact ⟨[],by rw [hv]; rfl,by simp only [iH]; exact ⟨none,0,0,hv,rfl,Nat.le_refl _,.inl rfl⟩⟩
 ·have hv:v=.slice (some a) len cap:=by simpa using hcs
  have hlm:len≤m:=by rw [U7]; split <;> omega
  have hE:∀ k,k<len→∃ r,∃ cs,w.cells? base (a.add (k*size)) size=some cs∧dO w (row r) cs:=fun k hk=>by
   obtain ⟨cs',h1,h2⟩:=hx k (by omega)
   obtain ⟨r,hr⟩:=hel _ _ _ h2
   exact ⟨r,cs',by rw [hC] at h1; exact h1,hr⟩
  obtain ⟨f,hf⟩:∃ f:Nat→α,∀ k,k<len→∃ cs,w.cells? base (a.add (k*size)) size=some cs∧dO w (row (f k)) cs:=
   ⟨fun k=>if hk:k<len then (hE k hk).choose else z,fun k hk=>by have:=(hE k hk).choose_spec; simpa only [dif_pos hk] using this⟩
  refine ⟨(List.range len).map f,by rw [hv]; rfl,?_⟩
  simp only [iH]
  refine ⟨some a,len,cap,hv,by simp,hlc,?_⟩
  rcases Nat.eq_zero_or_pos len with h0 | h0
  ·left; rw [h0]; rfl
  ·right
   obtain ⟨b,o,sp⟩:=a
   obtain ⟨cs0,adt,hR0⟩:=hf 0 h0
   obtain ⟨hl0,hlen',wh⟩:=World.cells?_some adt
   have we:cs0.length=size:=by
    have:∀ {r:List DV} {vs:List Value},bA (J0 w) w r vs→vs.length=r.length:=by
     intro r
     induction r with
     | nil=>intro vs h; cases vs with
       | nil=>rfl
       | cons _ _=>simp only [bA] at h
     | cons x r ih=>intro vs h; cases vs with
       | nil=>simp only [bA] at h
       | cons v vs=>simp only [bA] at h; simp [ih h.2]
    rw [this hR0.1,hl]
   obtain ⟨u0,hu0⟩:∃ u0,cs0[0]? = some u0:=by
    rw [List.getElem?_eq_getElem (by omega)]; exact ⟨_,rfl⟩
   have hc0:=(wh 0 hs0).trans hu0
   have hsp:sp=none:=by
    have:=World.cell?_spot hc0
    simpa [Addr.add] using this
   subst hsp
   have hlt:=J0.DD hc0
   refine ⟨b,o,rfl,by simp only [Addr.add] at hlt; (repeat' split at hlt) <;> exact hlt,?_⟩
   refine BS row hl _ o (fun k r hk=>?_)
   have hk':k<len:=by
    have:=(List.getElem?_eq_some_iff.1 hk).1
    simpa using this
   have hr:r=f k:=by simp [hk'] at hk; exact hk.symm
   subst hr
   obtain ⟨cs,hcs,hR⟩:=hf k hk'
   refine ⟨cs,hR,fun i v hv=>?_⟩
   obtain ⟨_,hlen,hc⟩:=World.cells?_some hcs
   obtain ⟨hi,_⟩:=List.getElem?_eq_some_iff.1 hv
   have:=(hc i (by omega)).trans hv
   rw [add_plain,add_plain] at this
   exact this
def Gv:List Nat→Nat→List Value→List Value
 | [],_,_=>[]
 | n::ns,o,cs=>(cs.drop o).take n++Gv ns (o+n) cs
theorem AM:∀ (ns:List Nat) (o:Nat) (cs:List Value),cs.length=o+ns.sum→Gv ns o cs=cs.drop o
 | [],o,cs,h=>by rw [List.drop_eq_nil_of_le (by simp at h; omega)]; rfl
 | n::ns,o,cs,h=>by
   unfold Gv
   rw [AM ns (o+n) cs (by simp at h; omega),← List.drop_drop,List.take_append_drop]
theorem yP {t:TypeId} {fs:Array Field} {fuel:Nat} {cs:List Value} {x:DataW H×List MemPlace} (ht:P.underlying t=some (.struct fs)) (h:DataW.trod enc P w base spare held fuel t cs=some x) :
  ∃ n,cs.length=P.cellsOf t∧∀ (i:Nat) (ty:TypeId) (o k:Nat),(fs[i]?.map fun f=>(f.type,f.offset))=some (ty,o)→P.cellsOf ty=k→∃ y,DataW.trod enc P w base spare held n ty ((cs.drop o).take k)=some y:=by
 obtain ⟨xs,n,_,_,hl,hlen,hf⟩:=DataW.trod_struct ht h
 refine ⟨n,hl,fun i ty o k hi hk=>?_⟩
 obtain ⟨f,A8,he⟩:=Option.map_eq_some_iff.1 hi
 clear hi
 obtain ⟨rfl,rfl⟩:=Prod.mk.inj he
 subst hk
 have hlt:i<fs.size:=(Array.getElem?_eq_some_iff.1 A8).1
 exact ⟨_,(hf i f A8).trans (List.getElem?_eq_getElem (by omega))⟩
end
theorem Gy {H:Type} {enc:TypeId×Value→H} {w:World} {base:Nat} {spare:Nat→Bool} {held:Bool} {fuel:Nat} {cs:List Value} {x:DataW H×List MemPlace} (h:DataW.trod enc Tryz.prog w base spare held fuel 57 cs=some x) (hl:cs.length=1):∃ l:List Int,dO w [.dH 1 (aB l)] cs:=by
 obtain ⟨v,rfl⟩:∃ v,cs=[v]:=by
  match cs,hl with
  | [v],_=>exact ⟨v,rfl⟩
 obtain ⟨l,_,h1,hr⟩:=Lv (size:=1) (fun n:Int=>[Value.int .u8 n]) 0 (fun r v hv=>by simp at hv; rw [hv]; rfl) (fun _=>rfl) Tryz.underlying57 (by kernel_rfl:Tryz.prog.cellsOf 5=1) (by omega) (fun _ _ _ h=>by
  obtain ⟨z,hz,_⟩:=DataW.trod_int Tryz.underlying5 h
  exact ⟨z,hz⟩) ⟨_,h⟩
 exact ⟨l,dO.cons hr h1 dO.nil⟩
theorem jR {H:Type} {enc:TypeId×Value→H} {w:World} {base:Nat} {spare:Nat→Bool} {held:Bool} {fuel:Nat} {cs:List Value} {x:DataW H×List MemPlace} (h:DataW.trod enc Tryz.prog w base spare held fuel 3 cs=some x):∃ z:Int,dO w [i64 z] cs:=by
 obtain ⟨z,hz,_⟩:=DataW.trod_int Tryz.underlying3 h
 rw [hz]
 exact ⟨z,dO.vals [.int .i64 z] (by simp [Value.oneCell'])⟩
theorem Hi {H:Type} {enc:TypeId×Value→H} {w:World} {base:Nat} {spare:Nat→Bool} {held:Bool} {fuel:Nat} {cs:List Value} {x:DataW H×List MemPlace} (h:DataW.trod enc Tryz.prog w base spare held fuel 89 cs=some x):∃ (k t j e:Int) (l:List Int),dO w [i64 k,i64 t,i64 j,i64 e,.dH 1 (aB l)] cs:=by
 obtain ⟨n,hl,hf⟩:=yP Tryz.underlying89 h
 have P0:cs.length=5:=hl.trans (by kernel_rfl)
 have ci:Tryz.prog.cellsOf 3=1:=by kernel_rfl
 have cb:Tryz.prog.cellsOf 57=1:=by kernel_rfl
 obtain ⟨_,h0⟩:=hf 0 3 0 1 rfl ci
 obtain ⟨_,h1⟩:=hf 1 3 1 1 rfl ci
 obtain ⟨_,h2⟩:=hf 2 3 2 1 rfl ci
 obtain ⟨_,h3⟩:=hf 3 3 3 1 rfl ci
 obtain ⟨_,h4⟩:=hf 4 57 4 1 rfl cb
 obtain ⟨z0,r0⟩:=jR h0
 obtain ⟨z1,r1⟩:=jR h1
 obtain ⟨z2,r2⟩:=jR h2
 obtain ⟨z3,r3⟩:=jR h3
 obtain ⟨l,r4⟩:=Gy h4 (by simp; omega)
 have he:=AM [1,1,1,1,1] 0 cs (by simp; omega)
 simp only [Gv,List.append_nil,Nat.zero_add,Nat.reduceAdd,List.drop_zero] at he
 refine ⟨z0,z1,z2,z3,l,?_⟩
 rw [← he]
 exact dO.app (by simpa using r0) (dO.app r1 (dO.app r2 (dO.app r3 r4)))
theorem No {H:Type} {enc:TypeId×Value→H} {w:World} {base:Nat} {spare:Nat→Bool} {held:Bool} {fuel:Nat} {cs:List Value} {x:DataW H×List MemPlace} (h:DataW.trod enc Tryz.prog w base spare held fuel 91 cs=some x):∃ a:wN,dO w (JB a) cs:=by
 obtain ⟨n,hl,hf⟩:=yP Tryz.underlying91 h
 have adT:cs.length=26:=hl.trans (by kernel_rfl)
 have ci:Tryz.prog.cellsOf 3=1:=by kernel_rfl
 have co:Tryz.prog.cellsOf 37=7:=by kernel_rfl
 have cm:Tryz.prog.cellsOf 87=11:=by kernel_rfl
 have ca:Tryz.prog.cellsOf 89=5:=by kernel_rfl
 obtain ⟨_,h0⟩:=hf 0 3 0 1 rfl ci
 obtain ⟨_,h1⟩:=hf 1 3 1 1 rfl ci
 obtain ⟨_,h2⟩:=hf 2 3 2 1 rfl ci
 obtain ⟨_,h3⟩:=hf 3 37 3 7 rfl co
 obtain ⟨_,h4⟩:=hf 4 87 10 11 rfl cm
 obtain ⟨_,h5⟩:=hf 5 89 21 5 rfl ca
 obtain ⟨z0,r0⟩:=jR h0
 obtain ⟨z1,r1⟩:=jR h1
 obtain ⟨z2,r2⟩:=jR h2
 obtain ⟨o,r3⟩:=OH h3
 obtain ⟨m,r4⟩:=LQ h4
 obtain ⟨k,t,j,e,l,r5⟩:=Hi h5
 have he:=AM [1,1,1,7,11,5] 0 cs (by simp; omega)
 simp only [Gv,List.append_nil,Nat.zero_add,Nat.reduceAdd,List.drop_zero] at he
 refine ⟨⟨z0,z1,z2,o,m,k,t,j,e,l⟩,?_⟩
 rw [← he]
 have q3:dO w (opR o) ((cs.drop 3).take 7):=by rw [r3]; exact dO.vals (HN o) (by simp [HN,Value.oneCell'])
 have q4:dO w (lX m) ((cs.drop 10).take 11):=by rw [r4]; exact dO.vals (DN m) (by simp [DN,Value.oneCell'])
 exact dO.app (r:=[i64 z0]) (by simpa using r0) (dO.app (r:=[i64 z1]) r1 (dO.app (r:=[i64 z2]) r2 (dO.app q3 (dO.app q4 r5))))
theorem Nn {H:Type} {enc:TypeId×Value→H} {W:World} {base:Nat} {spare:Nat→Bool} {held:Bool} {r:Reach} {b0:Nat} {v:Value} {d:DataW H} {p:List MemPlace} (hv:Value.okWide Tryz.prog W r b0 84 v) (h:DataW.Trod enc Tryz.prog W base spare held 84 v d p):∃ l:List wN,dm (J0 W) W ck (kN l) v:=by
 obtain ⟨a,len,cap,rfl⟩:=okWide_slice Tryz.underlying84 hv
 obtain ⟨fuel,hf⟩:=h
 obtain ⟨l,_,hr⟩:=Hw JB GO (fun _=>rfl) Tryz.underlying84 (by kernel_rfl:Tryz.prog.cellsOf 91=26) (by omega) (fun _ _ _ h=>No h) ⟨_,hf⟩
 exact ⟨l,hr⟩
end Dv
