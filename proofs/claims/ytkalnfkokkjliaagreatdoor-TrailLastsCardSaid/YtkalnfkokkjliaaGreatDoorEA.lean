/- part -/
import Derived.Test.YtkalnfkokkjliaaGreatDoorDB
import Derived.Test.YtkalnfkokkjliaaGreatDoorProg
import Derived.KernelRfl
import Derived.ProofKit
import Derived.Deep.Slices
import Derived.Deep.Fields
import Derived.Carry
import Derived.Test.YtkalnfkokkjliaaGreatDoorDA
import Derived.LaidMore
import Derived.OpenShut
import Derived.LaidHandle
import Derived.MakeChecks
import Derived.Test.YtkalnfkokkjliaaGreatDoorRows
set_option linter.all false
set_option maxRecDepth 100000
namespace Dv
open Go Go.Proofs
open Go.ChangeShapes Go.WideShapes Go.RowKit Go.Deep Go.WideElems
def J0 (w:World) (b:Nat):Prop:=∃ C t f,w.heap[b]? = some (.cells C t f)
theorem J0.Jj {w:World} {a:Addr} {v:Value} (h:w.cell? a=some v):J0 w a.block:=by
 unfold World.cell? at h
 unfold J0
 split at h
 ·rename_i C t f hc; exact ⟨C,t,f,hc⟩
 ·cases h
def bV:Nat→Nat→Option Nat:=fun _ _=>none
def noG:Nat→Option (List DV):=fun _=>none
theorem aF.zero (w:World):aF noG (J0 w) w bV (au []):=by
 refine ⟨fun o=>?_,fun o o' b h=>?_,fun o b h=>?_,fun b h=>h,fun g row h=>by cases h⟩
 ·have:au [] o=.free:=rfl
  rw [this]; intro n; rfl
 ·have:au [] o=.free:=rfl
  rw [this] at h; exact h.elim
 ·have:au [] o=.free:=rfl
  rw [this] at h; exact h.elim
theorem aN.below {G:Nat→Option (List DV)} {r:LV} {v:Value} {w w':World} (h:aN G (au []) (au []) (J0 w) bV w r v w'):Below w.heap.size w w':=by
 obtain ⟨J,ι,S,R,E⟩:=h
 refine ⟨E.ev.os,E.ev.tape,E.ev.output,E.ev.size,fun k hk=>E.ev.same k hk ?_⟩
 rintro ⟨o,ho⟩
 have:au [] o=.free:=rfl
 rw [this] at ho; exact ho.elim
section
variable {H:Type} {enc:TypeId×Value→H} {P:Program} {w:World} {base:Nat} {spare:Nat→Bool} {held:Bool}
theorem Cq (hl:laidOutB P=true) {W W':World} (hb:Below W.heap.size W W'):∀ {ts:List TypeId} {vs:List Value} {ds:List (DataW H)} {ps:List MemPlace},
  (∀ t∈ts,P.readableRec t=true∧t<P.types.size)→DataW.TrodAll enc P W 0 (fun _=>true) true ts vs ds ps→(∀ x∈ps,x.block<W.heap.size)→DataW.TrodAll enc P W' 0 (fun b=>decide (b<W.heap.size)) true ts vs ds ps
 | [],[],[],_,_,h,_=>h
 | _::_,_::_,_::_,_,hT,⟨p,q,h1,h2,e⟩,hs=>
   ⟨p,q,Below.trod hl (hT _ (List.mem_cons.2 (Or.inl rfl))).1 (hT _ (List.mem_cons.2 (Or.inl rfl))).2 h1 hb (fun x hx=>hs x (by rw [e]; exact List.mem_append_left _ hx)),
    Cq hl hb (fun t ht=>hT t (List.mem_cons.2 (Or.inr ht))) h2 (fun x hx=>hs x (by rw [e]; exact List.mem_append_right _ hx)),e⟩
theorem Bf {t:TypeId} {fs:Array Field} {fuel:Nat} {cs:List Value} {x:DataW H×List MemPlace} (ht:P.underlying t=some (.struct fs)) (hone:oneCellFields P fs=true) (h:DataW.trod enc P w base spare held fuel t cs=some x) :
  cs.length=P.cellsOf t∧∃ n,∀ (i:Nat) (f:Field) (v:Value),fs[i]? = some f→cs[i]? = some v→∃ y,DataW.trod enc P w base spare held n f.type [v]=some y:=by
 obtain ⟨xs,n,_,_,hl,hlen,hf⟩:=DataW.trod_struct ht h
 refine ⟨hl,n,fun i f v hi hv=>?_⟩
 obtain ⟨ho,hc⟩:=hone_of hone i f hi
 have h1:=hf i f hi
 rw [ho,hc] at h1
 have hlt:i<fs.size:=(Array.getElem?_eq_some_iff.1 hi).1
 have hx:xs[i]? = some (xs[i]'(by omega)):=List.getElem?_eq_getElem (by omega)
 obtain ⟨hlt2,HF⟩:=List.getElem?_eq_some_iff.1 hv
 rw [List.drop_eq_getElem_cons hlt2,HF] at h1
 rw [hx] at h1
 exact ⟨_,by simpa using h1⟩
theorem fG {t:TypeId} {n:Nat} {v:Value} (ht:P.underlying t=some (.int .i64)) (h:∃ y,DataW.trod enc P w base spare held n t [v]=some y):∃ z,v=.int .i64 z:=by
 obtain ⟨y,h⟩:=h
 obtain ⟨z,hz,_⟩:=DataW.trod_int ht h
 exact ⟨z,by simpa using hz⟩
theorem CQ {J:Nat→Prop} {b:Nat} : ∀ (vs:List Value) (off:Nat),(∀ v∈vs,v.oneCell'=true)→(∀ i v,vs[i]? = some v→w.cell? ⟨b,off+i,none⟩=some v)→dL J w (vs.map .val) b off
 | [],_,_,_=>trivial
 | v::vs,off,h1,h2=>⟨⟨v,by simpa using h2 0 v rfl,h1 v (by simp),rfl⟩,CQ vs (off+1) (fun u hu=>h1 u (by simp [hu])) (fun i u hu=>by
    have:=h2 (i+1) u (by simpa using hu)
    rw [show off+1+i=off+(i+1) by omega]; exact this)⟩
theorem Eu {α:Type} {J:Nat→Prop} {b size:Nat} (row:α→List Value) (h1:∀ r,∀ v∈row r,v.oneCell'=true) (hl:∀ r,(row r).length=size):∀ (l:List α) (off:Nat),(∀ k r,l[k]? = some r→∀ i v,(row r)[i]? = some v→w.cell? ⟨b,off+k*size+i,none⟩=some v)→bq J w size (l.map fun r=>(row r).map .val) b off
 | [],_,_=>trivial
 | r::l,off,h=>⟨by simp [hl],CQ _ _ (h1 r) (fun i v hv=>by simpa using h 0 r rfl i v hv),Eu row h1 hl l (off+size) (fun k q hq i v hv=>by
    have:=h (k+1) q (by simpa using hq) i v hv
    rw [show off+size+k*size+i=off+(k+1)*size+i by rw [Nat.add_mul]; omega]; exact this)⟩
theorem KV {α:Type} (row:α→List Value) (z:α) {t e:TypeId} {size fuel:Nat} {v:Value} (h1:∀ r,∀ v∈row r,v.oneCell'=true) (hl:∀ r,(row r).length=size) (ht:P.underlying t=some (.slice e)) (hC:P.cellsOf e=size) (hs0:0<size)
  (hel:∀ (n:Nat) (cs:List Value) (y:DataW H×List MemPlace),DataW.trod enc P w base spare held n e cs=some y→∃ r,cs=row r) (h:∃ x,DataW.trod enc P w base spare held fuel t [v]=some x) :
  ∃ rs:List α,rs.length≤maxLen∧v.oneCell'=true∧jM (J0 w) w (.dK size (rs.map fun r=>(row r).map .val)) v:=by
 obtain ⟨x,h⟩:=h
 rcases open_slice ht h with ⟨hcs,_⟩ | ⟨a,len,cap,m,n,D,Pl,hcs,_,hlc,hmx,ZA,_,hx⟩
 ·have hv:v=.slice none 0 0:=by simpa using hcs
  exact ⟨[],Nat.zero_le _,by rw [hv]; rfl,none,0,0,hv,rfl,Nat.le_refl _,.inl rfl⟩
 ·have hv:v=.slice (some a) len cap:=by simpa using hcs
  have hlm:len≤m:=by rw [ZA]; split <;> omega
  have hE:∀ k,k<len→∃ r,w.cells? base (a.add (k*size)) size=some (row r):=fun k hk=>by
   obtain ⟨cs',h1,h2⟩:=hx k (by omega)
   obtain ⟨r,rfl⟩:=hel _ _ _ h2
   exact ⟨r,by rw [hC] at h1; exact h1⟩
  obtain ⟨f,hf⟩:∃ f:Nat→α,∀ k,k<len→w.cells? base (a.add (k*size)) size=some (row (f k)):=
   ⟨fun k=>if hk:k<len then (hE k hk).choose else z,fun k hk=>by have:=(hE k hk).choose_spec; simpa only [dif_pos hk] using this⟩
  refine ⟨(List.range len).map f,by simp; omega,by rw [hv]; rfl,some a,len,cap,hv,by simp,hlc,?_⟩
  rcases Nat.eq_zero_or_pos len with h0 | h0
  ·left; rw [h0]; rfl
  ·right
   obtain ⟨b,o,sp⟩:=a
   obtain ⟨_,hlen',zU⟩:=World.cells?_some (hf 0 h0)
   obtain ⟨u0,hu0⟩:∃ u0,(row (f 0))[0]? = some u0:=by
    rw [List.getElem?_eq_getElem (by rw [hl]; exact hs0)]; exact ⟨_,rfl⟩
   have hc0:=(zU 0 hs0).trans hu0
   have hsp:sp=none:=by
    have:=World.cell?_spot hc0
    simpa [Addr.add] using this
   subst hsp
   have hlt:=J0.Jj hc0
   refine ⟨b,o,rfl,by simp only [Addr.add] at hlt; (repeat' split at hlt) <;> exact hlt,?_⟩
   refine Eu row h1 hl _ o (fun k r hk i v hv=>?_)
   have hk':k<len:=by
    have:=(List.getElem?_eq_some_iff.1 hk).1
    simpa using this
   have hr:r=f k:=by simp [hk'] at hk; exact hk.symm
   subst hr
   obtain ⟨_,hlen,hc⟩:=World.cells?_some (hf k hk')
   obtain ⟨hi,_⟩:=List.getElem?_eq_some_iff.1 hv
   have:=(hc i (by rw [hl] at hi; exact hi)).trans hv
   rw [add_plain,add_plain] at this
   exact this
end
def Av (c:aB):List Value:=[.int .i64 c.nodes,.int .i64 c.bI,.int .i64 c.cH,.int .i64 c.iN,.int .i64 c.cr,.int .i64 c.eZ,.int .i64 c.deadline,.int .i64 c.room,.int .i64 c.gX]
theorem aaF {α:Type} {l:List α} (h:l.length=9):∃ c0 c1 c2 c3 c4 c5 c6 c7 c8,l=[c0,c1,c2,c3,c4,c5,c6,c7,c8]:=by
 match l,h with
 | [c0,c1,c2,c3,c4,c5,c6,c7,c8],_=>exact ⟨c0,c1,c2,c3,c4,c5,c6,c7,c8,rfl⟩
theorem Iq {H:Type} {enc:TypeId×Value→H} {w:World} {base:Nat} {spare:Nat→Bool} {held:Bool} {fuel:Nat} {cs:List Value} {x:DataW H×List MemPlace} (h:DataW.trod enc Tryz.prog w base spare held fuel 23 cs=some x):∃ r:aB,cs=Av r:=by
 obtain ⟨hl,n,hf⟩:=Bf Tryz.underlying23 (by kernel_rfl) h
 obtain ⟨c0,c1,c2,c3,c4,c5,c6,c7,c8,rfl⟩:=aaF (hl.trans (by kernel_rfl))
 obtain ⟨z0,rfl⟩:=fG Tryz.underlying3 (hf 0 _ c0 rfl rfl)
 obtain ⟨z1,rfl⟩:=fG Tryz.underlying3 (hf 1 _ c1 rfl rfl)
 obtain ⟨z2,rfl⟩:=fG Tryz.underlying3 (hf 2 _ c2 rfl rfl)
 obtain ⟨z3,rfl⟩:=fG Tryz.underlying3 (hf 3 _ c3 rfl rfl)
 obtain ⟨z4,rfl⟩:=fG Tryz.underlying3 (hf 4 _ c4 rfl rfl)
 obtain ⟨z5,rfl⟩:=fG Tryz.underlying3 (hf 5 _ c5 rfl rfl)
 obtain ⟨z6,rfl⟩:=fG Tryz.underlying3 (hf 6 _ c6 rfl rfl)
 obtain ⟨z7,rfl⟩:=fG Tryz.underlying3 (hf 7 _ c7 rfl rfl)
 obtain ⟨z8,rfl⟩:=fG Tryz.underlying3 (hf 8 _ c8 rfl rfl)
 exact ⟨⟨z0,z1,z2,z3,z4,z5,z6,z7,z8⟩,rfl⟩
theorem Mt {H:Type} {enc:TypeId×Value→H} {W:World} {r:Reach} {b0 base:Nat} {spare:Nat→Bool} {held:Bool} {v:Value} {d:DataW H} {p:List MemPlace} (hv:Value.okWide Tryz.prog W r b0 23 v) (h:DataW.Trod enc Tryz.prog W base spare held 23 v d p):∃ c:aB,cT (J0 W) W bV (fN c) v:=by
 obtain ⟨cs,rfl,_⟩:=okWide_struct Tryz.underlying23 hv
 obtain ⟨fuel,hf⟩:=h
 obtain ⟨c,hc⟩:=Iq hf
 have:cs.toList=Av c:=by simpa [Value.cells] using hc
 refine ⟨c,cs,rfl,?_⟩
 rw [this]
 simp [Av,bA,cT,jM,Value.oneCell',LV.int]
end Dv
namespace Dv
open Go Go.Proofs
open Go.ChangeShapes Go.WideShapes Go.RowKit Go.Deep Go.WideElems
section
variable {H:Type} {enc:TypeId×Value→H} {P:Program} {w:World} {base:Nat} {spare:Nat→Bool} {held:Bool}
theorem IL {n fuel:Nat} {t e:TypeId} {cs:List Value} {p:List MemPlace} (ht:P.underlying t=some (.array n e)) (hc:P.cellsOf e=1) (hct:P.cellsOf t=n) {vals:List Value} {ds:List (DataW H)} (hlen:vals.length=n)
  (hel:∀ (m i:Nat) (cs':List Value) (x:DataW H×List MemPlace),DataW.trod enc P w base spare held m e cs'=some x→ds[i]? = some x.1→∃ v,vals[i]? = some v∧cs'=[v])
  (h:DataW.trod enc P w base spare held fuel t cs=some (.agg ds,p)):cs=vals:=by
 obtain ⟨xs,m,rfl,hx,hl,hn,he⟩:=DataW.trod_array ht h
 simp only [Prod.mk.injEq,DataW.agg.injEq] at hx
 obtain ⟨rfl,_⟩:=hx
 apply List.ext_getElem?
 intro i
 by_cases hi:i<n
 ·have h1:=he i hi
  rw [hc,Nat.mul_one] at h1
  have Ur:xs[i]? = some xs[i]:=List.getElem?_eq_getElem (by omega)
  rw [Ur] at h1
  obtain ⟨v,hv,hcs⟩:=hel m i _ _ h1 (by rw [List.getElem?_map,Ur]; rfl)
  rw [hv]
  have:((cs.drop i).take 1)[0]? = some v:=by rw [hcs]; rfl
  rw [List.getElem?_take_of_lt (by omega),List.getElem?_drop] at this
  simpa using this
 ·rw [List.getElem?_eq_none (by omega),List.getElem?_eq_none (by omega)]
end
def kR:List Value:=Dd.map .string
theorem Hg:(Go.Proofs.YtkalnfkokkjliaaGreatDoor.Rows.laid_dunnage_ops_names:DataW Unit)=.agg (Dd.map fun s=>.lit (.string s.data.toList)):=by rfl
theorem EW {W:World} {fuel:Nat} {cs:List Value} {p:List MemPlace} (h:DataW.trod (fun _=>()) Tryz.prog W 0 (fun _=>true) false fuel 284 cs=some (Go.Proofs.YtkalnfkokkjliaaGreatDoor.Rows.laid_dunnage_ops_names,p)):cs=kR:=by
 rw [Hg] at h
 refine IL Tryz.underlying284 (by kernel_rfl) (by kernel_rfl) rfl (fun m i cs' x hx hi=>?_) h
 obtain ⟨s,e1,e2,_⟩:=DataW.trod_string Tryz.underlying9 hx
 rw [List.getElem?_map,e2] at hi
 obtain ⟨a,ha,hb⟩:=Option.map_eq_some_iff.1 hi
 simp only [DataW.lit.injEq,Lit.string.injEq] at hb
 have:a=s:=by
  obtain ⟨a⟩:=a
  obtain ⟨s⟩:=s
  have:a=s:=Array.toList_inj.1 hb
  rw [this]
 subst this
 exact ⟨_,by rw [kR,List.getElem?_map,ha]; rfl,e1⟩
@[reducible] def tables:List (String×DataW Unit):=[("dunnage/ops.names",Go.Proofs.YtkalnfkokkjliaaGreatDoor.Rows.laid_dunnage_ops_names),("dunnage/ops.many",Go.Proofs.YtkalnfkokkjliaaGreatDoor.Rows.laid_dunnage_ops_many)]
theorem CJ {W:World} {b:Nat} {vs:List Value} (h:∀ i:Nat,W.cell? ⟨b,i,none⟩=vs[i]?) (h0:0<vs.length):∃ t,W.shape? b=some (t,vs.length):=by
 have h1:=h 0
 rw [List.getElem?_eq_getElem h0] at h1
 unfold World.cell? at h1
 split at h1
 ·rename_i C t f hc
  have hs:C.toList=vs:=List.ext_getElem? (fun i=>by
   have:=h i
   simp only [World.cell?,hc] at this
   rw [← this]; simp)
  refine ⟨t,?_⟩
  simp only [World.shape?,hc]
  rw [← hs]; simp
 ·cases h1
def G4 (o:bT):List Value:=[.int .i64 o.kind,.int .i64 o.a,.int .i64 o.b,.int .i64 o.c,.int .i64 o.d,.int .i64 o.e,.int .i64 o.f]
theorem aaG {α:Type} {l:List α} (h:l.length=7):∃ c0 c1 c2 c3 c4 c5 c6,l=[c0,c1,c2,c3,c4,c5,c6]:=by
 match l,h with
 | [c0,c1,c2,c3,c4,c5,c6],_=>exact ⟨c0,c1,c2,c3,c4,c5,c6,rfl⟩
theorem NX {H:Type} {enc:TypeId×Value→H} {w:World} {base:Nat} {spare:Nat→Bool} {held:Bool} {fuel:Nat} {cs:List Value} {x:DataW H×List MemPlace} (h:DataW.trod enc Tryz.prog w base spare held fuel 37 cs=some x):∃ r:bT,cs=G4 r:=by
 obtain ⟨hl,n,hf⟩:=Bf Tryz.underlying37 (by kernel_rfl) h
 obtain ⟨c0,c1,c2,c3,c4,c5,c6,rfl⟩:=aaG (hl.trans (by kernel_rfl))
 obtain ⟨z0,rfl⟩:=fG Tryz.underlying3 (hf 0 _ c0 rfl rfl)
 obtain ⟨z1,rfl⟩:=fG Tryz.underlying3 (hf 1 _ c1 rfl rfl)
 obtain ⟨z2,rfl⟩:=fG Tryz.underlying3 (hf 2 _ c2 rfl rfl)
 obtain ⟨z3,rfl⟩:=fG Tryz.underlying3 (hf 3 _ c3 rfl rfl)
 obtain ⟨z4,rfl⟩:=fG Tryz.underlying3 (hf 4 _ c4 rfl rfl)
 obtain ⟨z5,rfl⟩:=fG Tryz.underlying3 (hf 5 _ c5 rfl rfl)
 obtain ⟨z6,rfl⟩:=fG Tryz.underlying3 (hf 6 _ c6 rfl rfl)
 exact ⟨⟨z0,z1,z2,z3,z4,z5,z6⟩,rfl⟩
def opsV (l:List bT):LV:=.d (.dK 7 (l.map NY))
theorem NR {H:Type} {enc:TypeId×Value→H} {W:World} {base:Nat} {spare:Nat→Bool} {held:Bool} {r:Reach} {b0:Nat} {v:Value} {d:DataW H} {p:List MemPlace} (hv:Value.okWide Tryz.prog W r b0 24 v) (h:DataW.Trod enc Tryz.prog W base spare held 24 v d p):∃ l:List bT,cT (J0 W) W bV (opsV l) v:=by
 obtain ⟨a,len,cap,rfl⟩:=okWide_slice Tryz.underlying24 hv
 obtain ⟨fuel,hf⟩:=h
 obtain ⟨l,_,_,hr⟩:=KV G4 cU (fun r v hv=>by simp [G4] at hv; rcases hv with rfl | rfl | rfl | rfl | rfl | rfl | rfl <;> rfl) (fun _=>rfl) Tryz.underlying24 (by kernel_rfl:Tryz.prog.cellsOf 37=7) (by omega) (fun _ _ _ h=>NX h) ⟨_,hf⟩
 exact ⟨l,hr⟩
end Dv
namespace Dv
open Go Go.Proofs
open Go.ChangeShapes Go.WideShapes Go.RowKit Go.Deep Go.WideElems
end Dv
