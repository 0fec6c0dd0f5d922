/- part -/
import Derived.Test.YtkalnfkokkjliaaGreatDoorAC
import Derived.Test.YtkalnfkokkjliaaGreatDoorEA
import Derived.LaidMore
import Derived.Lib.LaidTab
import Derived.Lib.LaidU8
import Derived.HandedShaped
import Derived.Lay
import Derived.OpenShut
import Derived.LaidHandle
import Derived.MakeChecks
import Derived.Test.YtkalnfkokkjliaaGreatDoorRows
import Derived.Test.YtkalnfkokkjliaaGreatDoorCD
set_option linter.all false
set_option maxRecDepth 100000
namespace Dv
open Go Go.Proofs
open Go.ChangeShapes Go.WideShapes Go.RowKit Go.Deep Go.WideElems
@[reducible] def uo:List (String×DataW Unit):=[("math/bits.deBruijn32tab",Go.Proofs.YtkalnfkokkjliaaGreatDoor.Rows.laid_math_bits_deBruijn32tab),("math/bits.deBruijn64tab",Go.Proofs.YtkalnfkokkjliaaGreatDoor.Rows.laid_math_bits_deBruijn64tab),("dunnage/ops.names",Go.Proofs.YtkalnfkokkjliaaGreatDoor.Rows.laid_dunnage_ops_names),("dunnage/ops.many",Go.Proofs.YtkalnfkokkjliaaGreatDoor.Rows.laid_dunnage_ops_many)]
theorem Ob {W:World} (h:laidMetH Tryz.prog uo W):laidMet Tryz.prog uo W:=by
 rw [MakeChecks.laidMetH_plain _ _ _ (by kernel_rfl)] at h
 exact h
theorem zq {W:World} (h:laidMet Tryz.prog uo W) {name:String} {d:DataW Unit} {g t e n:Nat} {k:IntKind} {zs:List Int} (hm:(name,d)∈uo) (hd:d=Lib.tabData k zs) (hg:Tryz.prog.globalNamed name=some g) (ht:(Tryz.prog.globals[g]?).map (·.type)=some t)
  (hu:Tryz.prog.underlying t=some (.array n e)) (he:Tryz.prog.underlying e=some (.int k)) (h1:Tryz.prog.cellsOf e=1) (h2:Tryz.prog.cellsOf t=n) (i:Nat):W.cell? ⟨g,i,none⟩=(zs.map (Value.int k))[i]?:=by
 obtain ⟨g0,t0,cs0,f0,p0,hg0,ht0,hv0,NS⟩:=Lib.laidMet.reads h hm
 obtain rfl:=Option.some.inj (hg.symm.trans hg0)
 obtain rfl:=Option.some.inj (ht.symm.trans ht0)
 rw [hd] at NS
 rw [World.var?_cell hg0 hv0 i]
 have:=Lib.cells_of_tab hu he h1 h2 NS
 rw [← this]; simp
theorem FT {W:World} (h:laidMet Tryz.prog uo W) (i:Nat):W.cell? ⟨1,i,none⟩=lF[i]?:=by
 obtain ⟨g0,t0,cs0,f0,p0,hg0,ht0,hv0,NS⟩:=Lib.laidMet.reads h (n:= "dunnage/ops.names") (d:=Go.Proofs.YtkalnfkokkjliaaGreatDoor.Rows.laid_dunnage_ops_names) (by simp)
 obtain rfl:=Option.some.inj ((show Tryz.prog.globalNamed "dunnage/ops.names" = some 1 by kernel_rfl).symm.trans hg0)
 obtain rfl:=Option.some.inj ((show (Tryz.prog.globals[1]?).map (·.type)=some 284 by kernel_rfl).symm.trans ht0)
 rw [World.var?_cell hg0 hv0 i,← FU NS]; simp
theorem CS {W:World} {g:Nat} {vals:List Value} (h:∀ i:Nat,W.cell? ⟨g,i,none⟩=vals[i]?) (hf:∀ v∈vals,v.oneCell'=true) (h0:0<vals.length):J0 W g∧dP (J0 W) W (vals.map DV.val) g 0∧∃ t,W.shape? g=some (t,(vals.map DV.val).length):=by
 have hc:=h 0
 rw [List.getElem?_eq_getElem h0] at hc
 refine ⟨J0.DS hc,DL vals 0 hf (fun i v hv=>by rw [Nat.zero_add,h i,hv]),?_⟩
 rw [List.length_map]
 exact DE h h0
theorem wO {W:World} {g:Nat} {k:IntKind} {zs:List Int} (h:∀ i:Nat,W.cell? ⟨g,i,none⟩=(zs.map (Value.int k))[i]?) (h0:0<zs.length):J0 W g∧dP (J0 W) W (zs.map fun n=>DV.val (.int k n)) g 0∧∃ t,W.shape? g=some (t,(zs.map fun n=>DV.val (.int k n)).length):=by
 have:=CS h (fun v hv=>by
  simp only [List.mem_map] at hv
  obtain ⟨n,_,rfl⟩:=hv
  rfl) (by simpa using h0)
 rw [List.map_map] at this
 exact this
theorem aJ.uo {W:World} (hm:laidMetH Tryz.prog uo W):aJ eB (J0 W) W cu (aC []):=by
 have h:=Ob hm
 have S:=aJ.zero W
 refine ⟨S.rep,S.inj,S.sB,S.jcell,fun g row hg=>?_⟩
 unfold eB at hg
 split at hg
 ·rename_i e; subst e; cases hg; exact wO (zq h (name:= "math/bits.deBruijn32tab") (d:=Go.Proofs.YtkalnfkokkjliaaGreatDoor.Rows.laid_math_bits_deBruijn32tab) (k:=.u8) (zs:=Za) (by simp) (by rfl) (by kernel_rfl) (by kernel_rfl) Tryz.underlying348 Tryz.underlying5 (by kernel_rfl) (by kernel_rfl)) (by decide)
 split at hg
 ·rename_i e; subst e; cases hg; exact wO (zq h (name:= "math/bits.deBruijn64tab") (d:=Go.Proofs.YtkalnfkokkjliaaGreatDoor.Rows.laid_math_bits_deBruijn64tab) (k:=.u8) (zs:=Y_) (by simp) (by rfl) (by kernel_rfl) (by kernel_rfl) Tryz.underlying349 Tryz.underlying5 (by kernel_rfl) (by kernel_rfl)) (by decide)
 unfold cF at hg
 split at hg
 ·rename_i e; subst e; cases hg; exact wO (zq h (name:= "dunnage/ops.many") (d:=Go.Proofs.YtkalnfkokkjliaaGreatDoor.Rows.laid_dunnage_ops_many) (k:=.i64) (zs:=WI) (by simp) (by rfl) (by kernel_rfl) (by kernel_rfl) Tryz.underlying238 Tryz.underlying3 (by kernel_rfl) (by kernel_rfl)) (by decide)
 split at hg
 ·rename_i e; subst e; cases hg
  have:=CS (FT h) (fun v hv=>by
   simp only [lF,List.mem_map] at hv
   obtain ⟨n,_,rfl⟩:=hv
   rfl) (by decide)
  rw [show Al=lF.map DV.val from by unfold Al lF; rw [List.map_map]; rfl]
  exact this
 cases hg
theorem Lv (os:Os) (args:Array Value):laidMetH Tryz.prog uo ((World.laidAll Tryz.prog os uo).forCall (fun _ _=>0) ⟨#[],args,[]⟩).memory:=by
 rw [MakeChecks.laidMetH_plain _ _ _ (by kernel_rfl)]
 exact laidMet_laidAll _ (by kernel_rfl) (by kernel_rfl)
end Dv
namespace Dv
open Go Go.Proofs
open Go.ChangeShapes Go.WideShapes Go.RowKit Go.Deep Go.WideElems
section
variable {H:Type} {enc:TypeId×Value→H} {P:Program} {w:World} {base:Nat} {spare:Nat→Bool} {held:Bool}
def dU (w:World) (r:List DV) (cs:List Value):Prop:=bD (J0 w) w r cs∧∀ v∈cs,v.oneCell'=true
theorem dU.nil:dU w [] []:=⟨by simp only [bD],fun v h=>by cases h⟩
theorem dU.cons {x:DV} {v:Value} {r cs} (h:iO (J0 w) w x v) (h1:v.oneCell'=true) (h2:dU w r cs):dU w (x::r) (v::cs):=
 ⟨by simp only [bD]; exact ⟨h,h2.1⟩,fun u hu=>by
  rcases List.mem_cons.1 hu with rfl | hu
  ·exact h1
  ·exact h2.2 u hu⟩
theorem dU.app:∀ {r cs r' cs'},dU w r cs→dU w r' cs'→dU w (r++r') (cs++cs')
 | [],[],_,_,_,h=>h
 | [],_::_,_,_,h,_=>by have:=h.1; simp only [bD] at this
 | _::_,[],_,_,h,_=>by have:=h.1; simp only [bD] at this
 | x::r,v::cs,_,_,h,h'=>by
   have:=h.1; simp only [bD] at this
   exact dU.cons this.1 (h.2 v (by simp)) (dU.app ⟨this.2,fun u hu=>h.2 u (by simp [hu])⟩ h')
theorem dU.vals:∀ (vs:List Value),(∀ v∈vs,v.oneCell'=true)→dU w (vs.map .val) vs
 | [],_=>dU.nil
 | v::vs,h=>dU.cons (by simp only [iO]) (h v (by simp)) (dU.vals vs fun u hu=>h u (by simp [hu]))
theorem Fu {b:Nat} : ∀ (r:List DV) (vs:List Value) (off:Nat),dU w r vs→(∀ i v,vs[i]? = some v→w.cell? ⟨b,off+i,none⟩=some v)→dP (J0 w) w r b off
 | [],_,_,_,_=>by simp only [dP]
 | _::_,[],_,h,_=>by have:=h.1; simp only [bD] at this
 | x::r,v::vs,off,h,h2=>by
   have hh:=h.1; simp only [bD] at hh
   simp only [dP]
   exact ⟨⟨v,by simpa using h2 0 v rfl,h.2 v (by simp),hh.1⟩,Fu r vs (off+1) ⟨hh.2,fun u hu=>h.2 u (by simp [hu])⟩ (fun i u hu=>by
    have:=h2 (i+1) u (by simpa using hu)
    rw [show off+1+i=off+(i+1) by omega]; exact this)⟩
theorem Ch {α:Type} {b size:Nat} (row:α→List DV) (hl:∀ r,(row r).length=size):∀ (l:List α) (off:Nat),(∀ k r,l[k]? = some r→∃ cs,dU w (row r) cs∧∀ i v,cs[i]? = some v→w.cell? ⟨b,off+k*size+i,none⟩=some v)→bJ (J0 w) w size (l.map row) b off
 | [],_,_=>by simp only [List.map_nil,bJ]
 | r::l,off,h=>by
   obtain ⟨cs,hR,hc⟩:=h 0 r rfl
   simp only [List.map_cons,bJ]
   exact ⟨hl r,Fu _ cs _ hR (fun i v hv=>by simpa using hc i v hv),Ch row hl l (off+size) (fun k q hq=>by
    obtain ⟨cs',hR',wM⟩:=h (k+1) q (by simpa using hq)
    exact ⟨cs',hR',fun i v hv=>by
     have:=wM i v hv
     rw [show off+size+k*size+i=off+(k+1)*size+i by rw [Nat.add_mul]; omega]; exact this⟩)⟩
theorem HP {α:Type} (row:α→List DV) (z:α) {t e:TypeId} {size fuel:Nat} {v:Value} (hl:∀ r,(row r).length=size) (ht:P.underlying t=some (.slice e)) (hC:P.cellsOf e=size) (hs0:0<size)
  (hel:∀ (n:Nat) (cs:List Value) (y:DataW H×List MemPlace),DataW.trod enc P w base spare held n e cs=some y→∃ r,dU w (row r) cs) (h:∃ x,DataW.trod enc P w base spare held fuel t [v]=some x) :
  ∃ rs:List α,v.oneCell'=true∧iO (J0 w) w (.dO size (rs.map row)) v:=by
 obtain ⟨x,h⟩:=h
 rcases open_slice ht h with ⟨hcs,_⟩ | ⟨a,len,cap,m,n,D,Pl,hcs,_,hlc,hmx,Vi,_,hx⟩
 ·have hv:v=.slice none 0 0:=by simpa using hcs
  exact ⟨[],by rw [hv]; rfl,by simp only [iO]; exact ⟨none,0,0,hv,rfl,Nat.le_refl _,.inl rfl⟩⟩
 ·have hv:v=.slice (some a) len cap:=by simpa using hcs
  have hlm:len≤m:=by rw [Vi]; split <;> omega
  have hE:∀ k,k<len→∃ r,∃ cs,w.cells? base (a.add (k*size)) size=some cs∧dU w (row r) cs:=fun k hk=>by
   obtain ⟨cs',h1,h2⟩:=hx k (by omega)
   obtain ⟨r,hr⟩:=hel _ _ _ h2
   exact ⟨r,cs',by rw [hC] at h1; exact h1,hr⟩
  obtain ⟨f,hf⟩:∃ f:Nat→α,∀ k,k<len→∃ cs,w.cells? base (a.add (k*size)) size=some cs∧dU w (row (f k)) cs:=
   ⟨fun k=>if hk:k<len then (hE k hk).choose else z,fun k hk=>by have:=(hE k hk).choose_spec; simpa only [dif_pos hk] using this⟩
  refine ⟨(List.range len).map f,by rw [hv]; rfl,?_⟩
  simp only [iO]
  refine ⟨some a,len,cap,hv,by simp,hlc,?_⟩
  rcases Nat.eq_zero_or_pos len with h0 | h0
  ·left; rw [h0]; rfl
  ·right
   obtain ⟨b,o,sp⟩:=a
   obtain ⟨cs0,adI,hR0⟩:=hf 0 h0
   obtain ⟨hl0,hlen',wM⟩:=World.cells?_some adI
   have wI:cs0.length=size:=by
    have:∀ {r:List DV} {vs:List Value},bD (J0 w) w r vs→vs.length=r.length:=by
     intro r
     induction r with
     | nil=>intro vs h; cases vs with
       | nil=>rfl
       | cons _ _=>simp only [bD] at h
     | cons x r ih=>intro vs h; cases vs with
       | nil=>simp only [bD] at h
       | cons v vs=>simp only [bD] at h; simp [ih h.2]
    rw [this hR0.1,hl]
   obtain ⟨u0,hu0⟩:∃ u0,cs0[0]? = some u0:=by
    rw [List.getElem?_eq_getElem (by omega)]; exact ⟨_,rfl⟩
   have hc0:=(wM 0 hs0).trans hu0
   have hsp:sp=none:=by
    have:=World.cell?_spot hc0
    simpa [Addr.add] using this
   subst hsp
   have hlt:=J0.DS hc0
   refine ⟨b,o,rfl,by simp only [Addr.add] at hlt; (repeat' split at hlt) <;> exact hlt,?_⟩
   refine Ch row hl _ o (fun k r hk=>?_)
   have hk':k<len:=by
    have:=(List.getElem?_eq_some_iff.1 hk).1
    simpa using this
   have hr:r=f k:=by simp [hk'] at hk; exact hk.symm
   subst hr
   obtain ⟨cs,hcs,hR⟩:=hf k hk'
   refine ⟨cs,hR,fun i v hv=>?_⟩
   obtain ⟨_,hlen,hc⟩:=World.cells?_some hcs
   obtain ⟨hi,_⟩:=List.getElem?_eq_some_iff.1 hv
   have:=(hc i (by omega)).trans hv
   rw [add_plain,add_plain] at this
   exact this
def GL:List Nat→Nat→List Value→List Value
 | [],_,_=>[]
 | n::ns,o,cs=>(cs.drop o).take n++GL ns (o+n) cs
theorem Be:∀ (ns:List Nat) (o:Nat) (cs:List Value),cs.length=o+ns.sum→GL ns o cs=cs.drop o
 | [],o,cs,h=>by rw [List.drop_eq_nil_of_le (by simp at h; omega)]; rfl
 | n::ns,o,cs,h=>by
   unfold GL
   rw [Be ns (o+n) cs (by simp at h; omega),← List.drop_drop,List.take_append_drop]
theorem zg {t:TypeId} {fs:Array Field} {fuel:Nat} {cs:List Value} {x:DataW H×List MemPlace} (ht:P.underlying t=some (.struct fs)) (h:DataW.trod enc P w base spare held fuel t cs=some x) :
  ∃ n,cs.length=P.cellsOf t∧∀ (i:Nat) (ty:TypeId) (o k:Nat),(fs[i]?.map fun f=>(f.type,f.offset))=some (ty,o)→P.cellsOf ty=k→∃ y,DataW.trod enc P w base spare held n ty ((cs.drop o).take k)=some y:=by
 obtain ⟨xs,n,_,_,hl,hlen,hf⟩:=DataW.trod_struct ht h
 refine ⟨n,hl,fun i ty o k hi hk=>?_⟩
 obtain ⟨f,CR,he⟩:=Option.map_eq_some_iff.1 hi
 clear hi
 obtain ⟨rfl,rfl⟩:=Prod.mk.inj he
 subst hk
 have hlt:i<fs.size:=(Array.getElem?_eq_some_iff.1 CR).1
 exact ⟨_,(hf i f CR).trans (List.getElem?_eq_getElem (by omega))⟩
end
theorem GO {H:Type} {enc:TypeId×Value→H} {w:World} {base:Nat} {spare:Nat→Bool} {held:Bool} {fuel:Nat} {cs:List Value} {x:DataW H×List MemPlace} (h:DataW.trod enc Tryz.prog w base spare held fuel 57 cs=some x) (hl:cs.length=1):∃ l:List Int,dU w [.dO 1 (aB l)] cs:=by
 obtain ⟨v,rfl⟩:∃ v,cs=[v]:=by
  match cs,hl with
  | [v],_=>exact ⟨v,rfl⟩
 obtain ⟨l,_,h1,hr⟩:=LM (size:=1) (fun n:Int=>[Value.int .u8 n]) 0 (fun r v hv=>by simp at hv; rw [hv]; rfl) (fun _=>rfl) Tryz.underlying57 (by kernel_rfl:Tryz.prog.cellsOf 5=1) (by omega) (fun _ _ _ h=>by
  obtain ⟨z,hz,_⟩:=DataW.trod_int Tryz.underlying5 h
  exact ⟨z,hz⟩) ⟨_,h⟩
 exact ⟨l,dU.cons hr h1 dU.nil⟩
theorem jW {H:Type} {enc:TypeId×Value→H} {w:World} {base:Nat} {spare:Nat→Bool} {held:Bool} {fuel:Nat} {cs:List Value} {x:DataW H×List MemPlace} (h:DataW.trod enc Tryz.prog w base spare held fuel 3 cs=some x):∃ z:Int,dU w [i64 z] cs:=by
 obtain ⟨z,hz,_⟩:=DataW.trod_int Tryz.underlying3 h
 rw [hz]
 exact ⟨z,dU.vals [.int .i64 z] (by simp [Value.oneCell'])⟩
theorem HF {H:Type} {enc:TypeId×Value→H} {w:World} {base:Nat} {spare:Nat→Bool} {held:Bool} {fuel:Nat} {cs:List Value} {x:DataW H×List MemPlace} (h:DataW.trod enc Tryz.prog w base spare held fuel 89 cs=some x):∃ (k t j e:Int) (l:List Int),dU w [i64 k,i64 t,i64 j,i64 e,.dO 1 (aB l)] cs:=by
 obtain ⟨n,hl,hf⟩:=zg Tryz.underlying89 h
 have Qt:cs.length=5:=hl.trans (by kernel_rfl)
 have ci:Tryz.prog.cellsOf 3=1:=by kernel_rfl
 have cb:Tryz.prog.cellsOf 57=1:=by kernel_rfl
 obtain ⟨_,h0⟩:=hf 0 3 0 1 rfl ci
 obtain ⟨_,h1⟩:=hf 1 3 1 1 rfl ci
 obtain ⟨_,h2⟩:=hf 2 3 2 1 rfl ci
 obtain ⟨_,h3⟩:=hf 3 3 3 1 rfl ci
 obtain ⟨_,h4⟩:=hf 4 57 4 1 rfl cb
 obtain ⟨z0,r0⟩:=jW h0
 obtain ⟨z1,r1⟩:=jW h1
 obtain ⟨z2,r2⟩:=jW h2
 obtain ⟨z3,r3⟩:=jW h3
 obtain ⟨l,r4⟩:=GO h4 (by simp; omega)
 have he:=Be [1,1,1,1,1] 0 cs (by simp; omega)
 simp only [GL,List.append_nil,Nat.zero_add,Nat.reduceAdd,List.drop_zero] at he
 refine ⟨z0,z1,z2,z3,l,?_⟩
 rw [← he]
 exact dU.app (by simpa using r0) (dU.app r1 (dU.app r2 (dU.app r3 r4)))
theorem NG {H:Type} {enc:TypeId×Value→H} {w:World} {base:Nat} {spare:Nat→Bool} {held:Bool} {fuel:Nat} {cs:List Value} {x:DataW H×List MemPlace} (h:DataW.trod enc Tryz.prog w base spare held fuel 91 cs=some x):∃ a:vQ,dU w (JR a) cs:=by
 obtain ⟨n,hl,hf⟩:=zg Tryz.underlying91 h
 have ad5:cs.length=26:=hl.trans (by kernel_rfl)
 have ci:Tryz.prog.cellsOf 3=1:=by kernel_rfl
 have co:Tryz.prog.cellsOf 37=7:=by kernel_rfl
 have cm:Tryz.prog.cellsOf 87=11:=by kernel_rfl
 have ca:Tryz.prog.cellsOf 89=5:=by kernel_rfl
 obtain ⟨_,h0⟩:=hf 0 3 0 1 rfl ci
 obtain ⟨_,h1⟩:=hf 1 3 1 1 rfl ci
 obtain ⟨_,h2⟩:=hf 2 3 2 1 rfl ci
 obtain ⟨_,h3⟩:=hf 3 37 3 7 rfl co
 obtain ⟨_,h4⟩:=hf 4 87 10 11 rfl cm
 obtain ⟨_,h5⟩:=hf 5 89 21 5 rfl ca
 obtain ⟨z0,r0⟩:=jW h0
 obtain ⟨z1,r1⟩:=jW h1
 obtain ⟨z2,r2⟩:=jW h2
 obtain ⟨o,r3⟩:=OY h3
 obtain ⟨m,r4⟩:=Mb h4
 obtain ⟨k,t,j,e,l,r5⟩:=HF h5
 have he:=Be [1,1,1,7,11,5] 0 cs (by simp; omega)
 simp only [GL,List.append_nil,Nat.zero_add,Nat.reduceAdd,List.drop_zero] at he
 refine ⟨⟨z0,z1,z2,o,m,k,t,j,e,l⟩,?_⟩
 rw [← he]
 have q3:dU w (opR o) ((cs.drop 3).take 7):=by rw [r3]; exact dU.vals (Ia o) (by simp [Ia,Value.oneCell'])
 have q4:dU w (nL m) ((cs.drop 10).take 11):=by rw [r4]; exact dU.vals (Ea m) (by simp [Ea,Value.oneCell'])
 exact dU.app (r:=[i64 z0]) (by simpa using r0) (dU.app (r:=[i64 z1]) r1 (dU.app (r:=[i64 z2]) r2 (dU.app q3 (dU.app q4 r5))))
theorem NF {H:Type} {enc:TypeId×Value→H} {W:World} {base:Nat} {spare:Nat→Bool} {held:Bool} {r:Reach} {b0:Nat} {v:Value} {d:DataW H} {p:List MemPlace} (hv:Value.okWide Tryz.prog W r b0 84 v) (h:DataW.Trod enc Tryz.prog W base spare held 84 v d p):∃ l:List vQ,dz (J0 W) W cu (jK l) v:=by
 obtain ⟨a,len,cap,rfl⟩:=okWide_slice Tryz.underlying84 hv
 obtain ⟨fuel,hf⟩:=h
 obtain ⟨l,_,hr⟩:=HP JR G5 (fun _=>rfl) Tryz.underlying84 (by kernel_rfl:Tryz.prog.cellsOf 91=26) (by omega) (fun _ _ _ h=>NG h) ⟨_,hf⟩
 exact ⟨l,hr⟩
end Dv
