/- part -/
import Derived.Test.YtkalnfkokkjliaaGreatDoorVB
import Derived.Laws.BytesString
import Derived.Laws.IdiomStrings
import Derived.OwnWalk
import Derived.MapKept
import Derived.Laws.LoneSync
import Derived.LoopN
import Derived.OwnWalkIn
import Derived.RangeFuncCalls
import Derived.RangeFuncIn
import Derived.RangeFuncNested
import Derived.RangeFuncBound
import Derived.Scope
import Derived.Below
import Derived.LoopNIn
import Derived.RangeFuncLeaves
set_option linter.all false
set_option maxHeartbeats 400000
namespace Dv
open Go
def CM:Operand→Operand→Bool
 | .tmp i,.tmp j=>i==j
 | .const (.int k a),.const (.int k' b)=>k==k'&&a==b
 | _,_=>false
theorem Em {x y:Operand} (h:CM x y=true) (a:Act):a.eval x=a.eval y:=by
 unfold CM at h
 split at h
 ·rename_i i j
  have:i=j:=by simpa using h
  rw [this]
 ·simp only [Bool.and_eq_true,beq_iff_eq] at h
  rw [h.1,h.2]
 ·cases h
def zK (P:Program) (t:TypeId):Bool:=match P.underlying t with
 | some (.int .i64)=>true
 | _=>false
theorem Fe {P:Program} {t:TypeId} (h:zK P t=true):P.underlying t=some (.int .i64):=by
 unfold zK at h
 split at h
 ·assumption
 ·cases h
def iy (P:Program):Op→Option M
 | .slice T x lo hi none=>match aI x,fB lo,fB hi,P.underlying T with
   | some x,some lo,some hi,some (.array n e)=>if dP P e=some 1 then some (.sla n x lo hi) else none
   | _,_,_,_=>none
 | .call ⟨.builtin .copy,args,ts⟩=>match args.toList,ts.toList with
   | [x,y],[tx,ty]=>match aI x,aI y,P.underlying tx with
     | some x,some y,some (.slice e)=>if dP P e=some 1∧Ng P ty=true then some (.cpy x y) else none
     | _,_,_=>none
   | _,_=>none
 | .makeSlice T l c=>match aI l,P.underlying T with
   | some n,some (.slice e)=>match pF P e,w8 P e with
     | some z,some (size,bytes)=>if CM l c=true∧z.length=size then some (.wN e size bytes z n) else none
     | _,_=>none
   | _,_=>none
 | .convert S T x=>match aI x,P.underlying S,P.underlying T with
   | some x,some (.slice e),some .string=>match P.underlying e with
     | some (.int .u8)=>some (.b2s x)
     | _=>none
   | some x,some .string,some (.slice e)=>match P.underlying e with
     | some (.int .u8)=>some (.s2b x)
     | _=>none
   | _,_,_=>none
 | .unOp .xor _ x=>match aI x with
   | some x=>some (.cpl x)
   | none=>none
 | .call ⟨.builtin .clear,args,ts⟩=>match args.toList,ts.toList with
   | [x],[tx]=>match aI x,P.underlying tx with
     | some x,some (.slice e)=>match pF P e,dP P e with
       | some z,some n=>if z.length=n then some (.clr n z x) else none
       | _,_=>none
     | _,_=>none
   | _,_=>none
 | .makeMap _ none=>some .mkm
 | .mapUpdate T m k x=>match aI m,aI k,aI x,P.underlying T with
   | some m,some k,some x,some (.map kt _)=>if zK P kt=true then some (.mup m k x) else none
   | _,_,_,_=>none
 | .insert T m k x=>match aI m,aI k,aI x,P.underlying T with
   | some m,some k,some x,some (.map kt _)=>if zK P kt=true then some (.mup m k x) else none
   | _,_,_,_=>none
 | .lookup T m k ok=>match aI m,aI k,P.underlying T with
   | some m,some k,some (.map kt et)=>match P.info? et with
     | some i=>match i.zero with
       | some z=>if zK P kt=true then some (.mlk z ok m k) else none
       | none=>none
     | none=>none
   | _,_,_=>none
 | _=>none
def Au (P:Program):Op→Option M
 | .call ⟨.value (.func f),args,_⟩=>match P.funcs[f]? with
   | some fn=>if fn.body.isNone=true∧fn.origin = "" then
     (if fn.name = "sync/atomic.LoadInt64" then (match args.toList with
      | [x]=>match aI x with
        | some x=>some (.atl x)
        | none=>none
      | _=>none)
     else if fn.name = "sync/atomic.AddInt64" then (match args.toList with
      | [x,y]=>match aI x,aI y with
        | some x,some y=>some (.ata x y)
        | _,_=>none
      | _=>none)
     else none) else none
   | none=>none
 | _=>none
def mK (P:Program) (op:Op):Option I:=match Au P op with
 | some m=>some (.more m)
 | none=>match cG P op with
   | some i=>some i
   | none=>match iy P op with
     | some m=>some (.more m)
     | none=>some (.more .stk)
theorem xh {P:Program} {op:Op} {i:I} (h:mK P op=some i):cG P op=some i∨∃ m,i=.more m∧(iy P op=some m∨Au P op=some m∨m=.stk):=by
 unfold mK at h
 split at h
 ·rename_i m hm; cases h; exact .inr ⟨m,rfl,.inr (.inl hm)⟩
 ·split at h
  ·rename_i j hj; cases h; exact .inl hj
  ·split at h
   ·rename_i m hm; cases h; exact .inr ⟨m,rfl,.inl hm⟩
   ·cases h; exact .inr ⟨_,rfl,.inr (.inr rfl)⟩
theorem s9 {P:Program} {op:Op} {f:bM} {as:List bM} (h:mK P op=some (.call f as)):cG P op=some (.call f as):=by
 rcases xh h with h | ⟨m,h,_⟩
 ·exact h
 ·cases h
theorem PV {fn:Func} (h:fn.name = "sync/atomic.AddInt64"):Extern.find fn=some (Extern.Atomic.update (Op.intArith .add) .i64 true):=by
 unfold Extern.find
 rw [h]
 kernel_rfl
theorem L8 {fn:Func} (h:fn.name = "sync/atomic.LoadInt64"):Extern.find fn=some (Extern.Atomic.loadT (.int .i64)):=by
 unfold Extern.find
 rw [h]
 kernel_rfl
theorem Ot {fn:Func} (h:fn.name = "sync/atomic.AddInt64") (h2:fn.origin = ""):Extern.findNext fn=none:=by
 unfold Extern.findNext
 rw [h2,h]
 kernel_rfl
theorem Lj {fn:Func} (h:fn.name = "sync/atomic.LoadInt64") (h2:fn.origin = ""):Extern.findNext fn=none:=by
 unfold Extern.findNext
 rw [h2,h]
 kernel_rfl
section
variable {P:Program} {G:Nat→Option (List DV)} {J:Nat→Prop} {w w':World} {ι:Nat→Nat→Option Nat} {obj:Nat→b_} {a:Act} {get:Nat→LV} {base:Nat}
theorem Rg {T e:TypeId} {n:Nat} (hu:P.underlying T=some (.array n e)) (hs:dP P e=some 1) {b col l h:Nat} {lo hi:Option Value} (h1:BV lo 0 l) (h2:BV hi n h) (k1:l≤h) (k2:h≤n) (w:World) :
  (Instr.sliceAt T (.pointer (some ⟨b,col,none⟩)) lo hi none).run P w=.ok (.slice (some ⟨b,if n=l then col else col+l,none⟩) (h-l) (n-l)) w:=by
 obtain ⟨i,hi',hn⟩:=cc hs
 obtain ⟨m',p1,p2,hrun⟩:=kj (P:=P) (b:=false) (mx:=none) (cap:=n) h1 h2 (.inl ⟨rfl,rfl⟩) k1 k2 (Nat.le_refl _) (Nat.le_refl _) (.inl rfl) w
 have hm:m'=n:=by omega
 subst hm
 have hsz:(Go.sizeOf e).run P w=.ok 1 w:=by simp [Go.sizeOf,typeInfo,hi',hn]
 simp only [Instr.sliceAt,Sem.run_bind,run_underlying hu w,Result.andThen_ok,Instr.sureAddr,Sem.run_pure,hrun,hsz]
 split <;> simp [Addr.add_mid]
theorem UX {m:M} {e:eV} (h:fA G get obj base m=some e):∀ p∈e.wr,∃ ob,obj p.1=.live ob:=by
 intro p hp
 cases m <;> simp only [fA] at h <;> (repeat' split at h) <;> (try (cases h; done)) <;> cases h <;> first
  | (cases hp; done)
  | (simp only [List.mem_singleton] at hp; subst hp; exact ⟨_,by assumption⟩)
theorem KN (S:aF G J w ι obj) (he:∀ t,cT J w ι (get t) (a.tmps.getD t Go.undef)) {X:Operand} {x:bM} (hx:aI X=some x) {lo hi:Option Operand} {lo' hi':Option bM} (hl:fB lo=some lo') (hh:fB hi=some hi')
  {T el:TypeId} {n:Nat} (hu:P.underlying T=some (.array n el)) (hs:dP P el=some 1) {e:eV} (hE:fA G get obj base (.sla n x lo' hi')=some e) :
  ∃ v,(Instr.sliceAt T (a.eval X) (lo.map a.eval) (hi.map a.eval) none).run P w=.ok v w∧cT J w ι e.r v∧e.nw=[]∧e.wr=[]:=by
 have bU:=aT S he hx
 simp only [fA] at hE
 split at hE
 ·rename_i o col dO
  rw [dO] at bU
  obtain ⟨b,hb,hv⟩:=bU
  split at hE
  ·rename_i et cells ho
   split at hE
   ·rename_i l h b1 b2
    split at hE
    ·rename_i hc
     obtain ⟨k1,k2,k3⟩:=hc
     cases hE
     have hrun:=Rg (P:=P) hu hs (b:=b) (col:=col) (kB S he hl b1) (kB S he hh b2) k1 k2 w
     refine ⟨_,by rw [hv]; exact hrun,?_,rfl,rfl⟩
     have h0:=S.rep o
     rw [ho] at h0
     obtain ⟨⟨b',C,m1,m2,m3⟩,_⟩:=h0
     rw [hb] at m1; cases m1
     by_cases hz:n=l
     ·left
      rw [show n-l=0 by omega,show h-l=0 by omega]
      exact ⟨rfl,_,rfl⟩
     ·right
      refine ⟨b,n-l,et,C.size,hb,by rw [if_neg hz,Nat.mul_one],by omega,by simp [World.shape?,m2],?_⟩
      have:=m3.length
      simp at this; omega
    ·cases hE
   ·cases hE
  ·cases hE
 ·cases hE
theorem wA {α:Type} {rows news:List (List α)} {aJ lo:Nat} (h1:∀ r∈rows,r.length=aJ) (h2:∀ r∈news,r.length=aJ):(splice rows lo news).flatten=splice rows.flatten (lo*aJ) news.flatten:=by
 have key:∀ (l:List (List α)) (n:Nat),(∀ r∈l,r.length=aJ)→(l.take n).flatten=l.flatten.take (n*aJ)∧(l.drop n).flatten=l.flatten.drop (n*aJ):=by
  intro l
  induction l with
  | nil=>intro n _; simp
  | cons r l ih=>
    intro n hl
    have hr:=hl r (by simp)
    cases n with
    | zero=>simp
    | succ n=>
      obtain ⟨i1,i2⟩:=ih n (fun x hx=>hl x (by simp [hx]))
      rw [List.take_succ_cons,List.drop_succ_cons,List.flatten_cons,List.flatten_cons,i1,i2,Nat.add_mul,Nat.one_mul,List.take_append,List.drop_append]
      rw [show n*aJ+aJ-r.length=n*aJ by omega,List.take_of_length_le (l:=r) (by omega),List.drop_eq_nil_of_le (as:=r) (by omega)]
      simp
 have hlen:news.flatten.length=news.length*aJ:=by
  clear key
  induction news with
  | nil=>simp
  | cons r l ih=>
    have hr:=h2 r (by simp)
    rw [List.flatten_cons,List.length_append,ih (fun x hx=>h2 x (by simp [hx])),hr,List.length_cons,Nat.add_mul]; omega
 unfold splice
 rw [List.flatten_append,List.flatten_append,(key rows lo h1).1,(key rows (lo+news.length) h1).2,hlen,Nat.add_mul]
theorem aN.setRows (S:aF G J w ι obj) {o:Nat} {et:TypeId} {aJ:Nat} {rows news:List (List DV)} {lo:Nat} {vs:List Value} (ho:obj o=.live (.dat et aJ rows))
  (h:bD J w news.flatten vs) (vn:∀ v∈vs,v.oneCell'=true) (hn:∀ r∈news,r.length=aJ) (hl:lo+news.length≤rows.length) (hne:rows≠[]) :
  ∃ b,ι o rows.length=some b∧w.there b (lo*aJ) vs.length∧
    aN G obj (fun k=>if k=o then .live (.dat et aJ (splice rows lo news)) else obj k) J ι w .undef Go.undef (w.setCells b (lo*aJ) vs):=by
 have h0:=S.rep o
 rw [ho] at h0
 obtain ⟨⟨hsome,Fu⟩,hkey⟩:=h0
 obtain ⟨b,h1⟩:=Option.isSome_iff_exists.1 (hsome.resolve_left hne)
 obtain ⟨⟨C,h2⟩,h3⟩:=Fu b h1
 have hown:Own ι obj b:=⟨o,by rw [ho]; exact h1⟩
 have E:Ev (Own ι obj) J J ι ι w (w.setCells b (lo*aJ) vs):=Ev.setCells J w b _ vs hown (fun _ _ _ h=>h)
 obtain ⟨abI,hfl⟩:=h3.flat
 have hrl:∀ r∈rows,r.length=aJ:=fun r hr=>by
  obtain ⟨i,hi⟩:=List.getElem?_of_mem hr
  exact (h3.get hi).1
 obtain ⟨us,u1,u2,u3⟩:=abI.vals
 have O7:us.length=rows.length*aJ:=by rw [← hfl]; exact u1.length.symm
 have hnl:news.flatten.length=news.length*aJ:=by
  have:=wA (rows:=([]:List (List DV))) (news:=news) (lo:=0) (by simp) hn
  clear this
  clear h hl
  induction news with
  | nil=>simp
  | cons r l ih=>
    have hr:=hn r (by simp)
    rw [List.flatten_cons,List.length_append,ih (fun x hx=>hn x (by simp [hx])),hr,List.length_cons,Nat.add_mul]; omega
 have hvl:vs.length=news.length*aJ:=by rw [← hnl]; exact h.length.symm
 have hroom:lo*aJ+vs.length≤us.length:=by
  rw [hvl,O7,← Nat.add_mul]; exact Nat.mul_le_mul_right _ hl
 have lG:w.there b (lo*aJ) vs.length:=fun j hj=>by
  have hj2:lo*aJ+j<us.length:=by omega
  have:=u3 (lo*aJ+j) us[lo*aJ+j] (List.getElem?_eq_getElem hj2)
  rw [Nat.zero_add] at this
  refine ⟨by rw [this]; rfl,?_⟩
  simp [World.frozen?,h2]
 have hout:∀ x:Addr,x.block=b→(x.off<lo*aJ∨lo*aJ+vs.length≤x.off)→(w.setCells b (lo*aJ) vs).cell? x=w.cell? x:=fun x hx hj=>
  World.cell?_setCells_out b vs _ w x (fun _ _=>hj)
 have hin:=World.rangeAt_setCells_same w b (lo*aJ) vs lG
 have hrows:bq J (w.setCells b (lo*aJ) vs) aJ (splice rows lo news) b 0:=by
  refine bq.Cx (fun r hr=>?_) ?_
  ·simp only [splice,List.mem_append] at hr
   rcases hr with (hr | hr) | hr
   ·exact hrl r (List.mem_of_mem_take hr)
   ·exact hn r hr
   ·exact hrl r (List.mem_of_mem_drop hr)
  ·rw [wA hrl hn]
   have e1:bA J w ι (splice (rows.flatten.map .d) (lo*aJ) (news.flatten.map .d)) (splice us (lo*aJ) vs):=bA.splice _ (bD.xE u1 u2) (bD.xE h vn)
   have e2:splice (rows.flatten.map LV.d) (lo*aJ) (news.flatten.map LV.d)=(splice rows.flatten (lo*aJ) news.flatten).map .d:=by simp only [splice,List.map_append,List.map_take,List.map_drop,List.length_map]
   rw [e2] at e1
   have e3:=(e1.ev S E).AP
   have back:∀ {w0:World} (xs:List DV) (ys:List Value),ck J w0 ι (xs.map .d) ys→bD J w0 xs ys:=fun {w0} xs=>by
    induction xs with
    | nil=>intro ys h; cases ys with
      | nil=>trivial
      | cons _ _=>exact h.elim
    | cons x xs ih=>intro ys h; cases ys with
      | nil=>exact h.elim
      | cons y ys=>exact ⟨h.1,ih ys h.2⟩
   refine dL.of (vs:=splice us (lo*aJ) vs) (back _ _ e3) (fun v hv=>e1.one v hv) (fun j v hv=>?_)
   rw [Nat.zero_add]
   by_cases hj1:j<lo*aJ
   ·rw [hout _ rfl (.inl hj1)]
    have:=u3 j v (by
     rw [← hv]
     simp only [splice,List.append_assoc]
     rw [List.getElem?_append_left (by simp; omega),List.getElem?_take_of_lt hj1])
    rwa [Nat.zero_add] at this
   ·by_cases hj2:j<lo*aJ+vs.length
    ·have:=hin (j-lo*aJ) v (by
      rw [← hv]
      simp only [splice]
      rw [List.getElem?_append_left (by simp; omega),List.getElem?_append_right (by simp; omega)]
      congr 1; simp; omega)
     rwa [show lo*aJ+(j-lo*aJ)=j by omega] at this
    ·rw [hout _ rfl (.inr (by show _≤j; omega))]
     have:=u3 j v (by
      rw [← hv]
      simp only [splice]
      rw [List.getElem?_append_right (by simp; omega),List.getElem?_drop]
      congr 1; simp; omega)
     rwa [Nat.zero_add] at this
 obtain ⟨C',k1,k2⟩:∃ C',(w.setCells b (lo*aJ) vs).heap[b]? = some (.cells C' et (0,0))∧True:=by
  have hs:lo*aJ+vs.length≤C.size∨vs.length=0:=by
   rcases Nat.eq_zero_or_pos vs.length with hz | hz
   ·exact .inr hz
   ·left
    have:=(lG (vs.length-1) (by omega)).1
    simp only [World.cell?,h2] at this
    simp at this
    omega
  rcases hs with hs | hs
  ·obtain ⟨C',k1,_⟩:=fD vs _ w C h2 hs; exact ⟨C',k1,trivial⟩
  ·have:vs=[]:=by simpa using hs
   subst this; exact ⟨C,h2,trivial⟩
 have xF:(splice rows lo news).length=rows.length:=fC _ _ _ (by omega)
 refine ⟨b,h1,lG,?_⟩
 have hT:=aF.kf S o (.live (.dat et aJ (splice rows lo news))) E (fun _ _ _=>rfl) (fun k hk hn=>heap_setCells_other (fun e=>hn (by rw [ho,e]; exact h1)) vs _ w)
  ⟨⟨.inr (by rw [xF]; simp [h1]),fun k hk=>by
    rw [xF,h1] at hk; cases hk
    exact ⟨⟨C',k1⟩,hrows⟩⟩,fun n hn=>by rw [xF] at hn; exact hkey n hn⟩
  (fun k hk=>.inl (by
   rw [ho]
   simp only [b_.own,aC.own,xF] at hk ⊢
   exact hk))
 exact ⟨J,ι,hT.1,rfl,hT.2⟩
theorem Mq (S:aF G J w ι obj) (he:∀ t,cT J w ι (get t) (a.tmps.getD t Go.undef)) {X Y:Operand} {x y:bM} (hx:aI X=some x) (hy:aI Y=some y) {tx ty rt el:TypeId} (hu:P.underlying tx=some (.slice el)) (hs:dP P el=some 1)
  (hty:Ng P ty=true) {e:eV} (hE:fA G get obj base (.cpy x y)=some e) :
  ∃ v w',(Builtin.copy_ #[tx,ty] rt #[a.eval X,a.eval Y]).run P w=.ok v w'∧aN G obj (bG obj base e) J ι w e.r v w':=by
 have bU:=aT S he hx
 have kI:=aT S he hy
 have hk:(∃ e',P.underlying ty=some (.slice e'))∨P.underlying ty=some .string:=by
  unfold Ng at hty
  split at hty
  ·rename_i e' h; exact .inl ⟨_,h⟩
  ·rename_i h; exact .inr h
  ·cases hty
 simp only [fA] at hE
 split at hE
 ·rename_i new rd hsrc
  obtain ⟨news,hS,hD,hrl⟩:=vB S hk hsrc kI
  split at hE
  ·rename_i o lo len dO
   rw [dO] at bU
   split at hE
   ·rename_i et cells ho
    split at hE
    ·rename_i hc
     obtain ⟨hc,hnl⟩:=hc
     cases hE
     have hnews:=hS.newsLen
     rw [Nat.mul_one] at hnews
     have hfl:(new.flatten.map LV.d).length=new.length:=by rw [List.length_map,hD.length,hnews]
     obtain ⟨b,hb,MW,hA⟩:=aN.yL S (col:=lo) (cs:=new.flatten.map LV.d) (vs:=news) ho (hD.xE hS.one) (by rw [hfl]; omega)
     refine ⟨.int .i64 new.length,w.setCells b lo news,?_,?_⟩
     ·obtain ⟨i,hi',hn⟩:=cc hs
      have hsz:∀ w:World,(Go.sizeOf el).run P w=.ok 1 w:=fun w=>by simp [Go.sizeOf,typeInfo,hi',hn]
      have hst:=run_storeCells_cells (P:=P) b lo news 0 w (fun j hj=>by simpa using (MW j hj).1) (fun j hj=>by simpa using (MW j hj).2) hS.one
      simp only [Nat.add_zero] at hst
      rcases bU with ⟨hz,sa,hv⟩ | ⟨b',cap,et',C,hb',hv,hcap,_,_⟩
      ·have hn0:news=[]:=List.eq_nil_of_length_eq_zero (by omega)
       have hl0:new.length=0:=by omega
       subst hn0
       have hcl:=hS.cells
       rw [hl0] at hcl
       cases sa with
       | none=>simp [Builtin.copy_,run_underlying hu,hv,hS.len,hl0,hsz,hcl,goInt,World.setCells]
       | some sa=>simp [Builtin.copy_,run_underlying hu,hv,hS.len,hl0,hsz,hcl,goInt,storeCells,World.setCells]
      ·rw [hb] at hb'; cases hb'
       simp [Builtin.copy_,run_underlying hu,hv,hS.len,hsz,hS.cells,goInt,Nat.min_eq_left hnl,hst]
     ·have e1:bG obj base { r:=.int new.length,rd:=o::rd,wr:=[(o,.box et (splice cells lo (new.flatten.map .d)))] } = fun k=>if k=o then .live (.box et (splice cells lo (new.flatten.map .d))) else obj k:=by
       funext k; simp only [bG,pq,cL]
      rw [e1]
      obtain ⟨J',ι',h1,_,h3⟩:=hA
      exact ⟨J',ι',h1,rfl,h3⟩
    ·cases hE
   ·cases hE
  ·rename_i o n lo len _ dO
   rw [dO] at bU
   split at hE
   ·rename_i et rows ho
    split at hE
    ·rename_i hc
     obtain ⟨hn,hc,hnl,hne⟩:=hc
     subst hn
     cases hE
     have hnews:=hS.newsLen
     rw [Nat.mul_one] at hnews
     obtain ⟨b,hb,MW,hA⟩:=aN.setRows S (lo:=lo) (news:=new) (vs:=news) ho hD hS.one hrl (by omega) hne
     rw [Nat.mul_one] at MW hA
     refine ⟨.int .i64 new.length,w.setCells b lo news,?_,?_⟩
     ·obtain ⟨i,hi',hn⟩:=cc hs
      have hsz:∀ w:World,(Go.sizeOf el).run P w=.ok 1 w:=fun w=>by simp [Go.sizeOf,typeInfo,hi',hn]
      have hst:=run_storeCells_cells (P:=P) b lo news 0 w (fun j hj=>by simpa using (MW j hj).1) (fun j hj=>by simpa using (MW j hj).2) hS.one
      simp only [Nat.add_zero] at hst
      rcases bU with ⟨hz,sa,hv⟩ | ⟨b',cap,et',C,hb',hv,hcap,_,_⟩
      ·have hn0:news=[]:=List.eq_nil_of_length_eq_zero (by omega)
       have hl0:new.length=0:=by omega
       subst hn0
       have hcl:=hS.cells
       rw [hl0] at hcl
       cases sa with
       | none=>simp [Builtin.copy_,run_underlying hu,hv,hS.len,hl0,hsz,hcl,goInt,World.setCells]
       | some sa=>simp [Builtin.copy_,run_underlying hu,hv,hS.len,hl0,hsz,hcl,goInt,storeCells,World.setCells]
      ·rw [hb] at hb'; cases hb'
       rw [Nat.mul_one] at hv
       simp [Builtin.copy_,run_underlying hu,hv,hS.len,hsz,hS.cells,goInt,Nat.min_eq_left hnl,hst]
     ·have e1:bG obj base { r:=.int new.length,rd:=o::rd,wr:=[(o,.dat et 1 (splice rows lo new))] } = fun k=>if k=o then .live (.dat et 1 (splice rows lo new)) else obj k:=by
       funext k; simp only [bG,pq,cL]
      rw [e1]
      obtain ⟨J',ι',h1,_,h3⟩:=hA
      exact ⟨J',ι',h1,rfl,h3⟩
    ·cases hE
   ·cases hE
  ·cases hE
 ·cases hE
theorem Rh {T e:TypeId} {size bytes:Nat} (hu:P.underlying T=some (.slice e)) (hel:w8 P e=some (size,bytes)) {k:IntKind} {n:Nat} (hn:n*bytes≤70368744177664) (h63:(n:Int)≤9223372036854775807) (w:World) :
  ∃ z:Value,(zeroValue e).run P w=.ok z w∧z.cells.size=size∧(Instr.makeSlice T (.int k n) (.int k n)).run P w=.ok (.slice (some ⟨w.heap.size,0,none⟩) n n) (w.alloc (.cells ((Array.range (n*size)).map ((if n*size=0 then #[] else z.cells)[· % (if n*size=0 then #[] else z.cells).size]!)) e)):=by
 obtain ⟨i,z,hi,hz,hsz,hby,XX,_,hpos⟩:=lN hel
 have XW:∀ w:World,(zeroValue e).run P w=.ok z w:=fun w=>by simp [zeroValue,typeInfo,hi,hz]
 refine ⟨z,XW w,by rw [XX,hsz],?_⟩
 have JQ:∀ w:World,(Go.sizeOf e).run P w=.ok size w:=fun w=>by simp [Go.sizeOf,typeInfo,hi,hsz]
 have wn:IntKind.i64.wrap (n:Int)=n:=by rw [IntKind.wrap_i64]; omega
 have n1:¬ (n:Int)<0:=by omega
 have hb':(bytes:Int)*(n:Int)≤70368744177664:=by
  have:((n*bytes:Nat):Int)≤70368744177664:=by omega
  rw [Int.mul_comm,← Int.natCast_mul]; exact this
 have n2:¬ (281474976710656<(bytes:Int)*n):=by omega
 have n3:¬ (n:Int)<(n:Int):=by omega
 by_cases h0:n*size=0
 ·simp [Instr.makeSlice,run_underlying hu,typeInfo,hi,hby,asInt,asIntOf,wn,n1,n2,n3,JQ,h0,newRow,askRoom]
 ·simp [Instr.makeSlice,run_underlying hu,typeInfo,hi,hby,asInt,asIntOf,wn,n1,n2,n3,JQ,h0,XW,newRow,askRoom]
theorem Ai {α:Type} (l:List α):∀ (n j:Nat),j<n*l.length→((List.replicate n l).flatten)[j]? = l[j % l.length]?
 | 0,j,h=>by simp at h
 | n+1,j,h=>by
   rw [List.replicate_succ,List.flatten_cons]
   by_cases hj:j<l.length
   ·rw [List.getElem?_append_left hj,Nat.mod_eq_of_lt hj]
   ·have h2:j-l.length<n*l.length:=by rw [Nat.add_mul] at h; omega
    rw [List.getElem?_append_right (by omega),Ai l n (j-l.length) h2]
    congr 1
    rw [Nat.mod_eq_sub_mod (by omega:l.length≤j)]
theorem FJ {α:Type} (l:List α) (n:Nat):(List.replicate n l).flatten.length=n*l.length:=by
 induction n with
 | zero=>simp
 | succ n ih=>rw [List.replicate_succ,List.flatten_cons,List.length_append,ih,Nat.add_mul]; omega
theorem sJ (J:Nat→Prop) (w:World):∀ l:List Value,bD J w (l.map .val) l
 | []=>trivial
 | v::l=>⟨rfl,sJ J w l⟩
theorem vG {J:Nat→Prop} {w:World} {z:List DV} {vs:List Value} (h:bD J w z vs):∀ n,bD J w (List.replicate n z).flatten (List.replicate n vs).flatten
 | 0=>trivial
 | n+1=>by rw [List.replicate_succ,List.replicate_succ,List.flatten_cons,List.flatten_cons]; exact bD.append h (vG h n)
theorem Lp (S:aF G J w ι obj) (he:∀ t,cT J w ι (get t) (a.tmps.getD t Go.undef)) {X Y:Operand} {x:bM} (hx:aI X=some x) (hXY:CM X Y=true) {T el:TypeId} {size bytes:Nat} {z:List DV} (hu:P.underlying T=some (.slice el)) (hel:w8 P el=some (size,bytes))
  (hz:pF P el=some z) (hzl:z.length=size) (hb:obj base=.free) {e:eV} (hE:fA G get obj base (.wN el size bytes z x)=some e) :
  ∃ v w',(Instr.makeSlice T (a.eval X) (a.eval Y)).run P w=.ok v w'∧aN G obj (bG obj base e) J ι w e.r v w':=by
 have bU:=aT S he hx
 simp only [fA] at hE
 split at hE
 ·rename_i k n dO
  rw [dO] at bU
  have hX:a.eval X=.int k n:=bU
  split at hE
  ·rename_i hc
   obtain ⟨k1,k2,k3⟩:=hc
   cases hE
   obtain ⟨n,rfl⟩:=Int.eq_ofNat_of_zero_le k1
   rw [Int.toNat_natCast] at k2
   obtain ⟨zv,h1,h2,h3⟩:=Rh (P:=P) hu hel (k:=k) k2 k3 w
   have hzz:z=zv.cells.toList.map .val∧∀ u∈zv.cells.toList,u.oneCell'=true:=by
    unfold pF at hz
    split at hz
    ·rename_i i hi
     split at hz
     ·rename_i v hv
      split at hz
      ·rename_i hall
       cases hz
       have XW:(zeroValue el).run P w=.ok v w:=by simp [zeroValue,typeInfo,hi,hv]
       rw [XW] at h1
       cases h1
       exact ⟨rfl,fun u hu=>by
        rw [Array.all_eq_true_iff_forall_mem] at hall
        exact hall u (by simpa using hu)⟩
      ·cases hz
     ·cases hz
    ·cases hz
   refine ⟨_,_,by rw [hX,← Em hXY a,hX]; exact h3,?_⟩
   have hcl:zv.cells.toList.length=size:=by rw [Array.length_toList,h2]
   generalize hC:((Array.range (n*size)).map ((if n*size=0 then #[] else zv.cells)[· % (if n*size=0 then #[] else zv.cells).size]!))=C
   have hCs:C.size=n*size:=by rw [← hC]; simp
   have:=aN.dat (G:=G) (J:=J) (w:=w) (ι:=ι) S hb el size (List.replicate n z) C w.drawn n (by simp) (by rw [hCs]; exact Nat.le_refl _) (fun ι' E=>by
    refine bq.uh (vs:=(List.replicate n zv.cells.toList).flatten) (vG (by rw [hzz.1]; exact sJ _ _ _) n) (fun u hu=>?_) (fun r hr=>by rw [List.eq_of_mem_replicate hr]; exact hzl) (bY { w with drawn:=w.drawn } _) (fun j u hu=>?_)
    ·obtain ⟨l,hl,hm⟩:=List.mem_flatten.1 hu
     rw [List.eq_of_mem_replicate hl] at hm
     exact hzz.2 u hm
    ·have hj:j<n*size:=by
      have:=(List.getElem?_eq_some_iff.1 hu).1
      rw [FJ,hcl] at this; exact this
     rw [Ai _ _ _ (by rw [hcl]; exact hj),hcl] at hu
     have hpos:0<size:=Nat.pos_of_ne_zero (fun h0=>by rw [h0] at hj; simp at hj)
     have hm:j % size<zv.cells.size:=by rw [h2]; exact Nat.mod_lt _ hpos
     rw [← hC]
     simp [show ¬ (n*size=0) by omega,h2,hj]
     rw [Array.getElem?_toList] at hu
     rw [getElem!_pos zv.cells (j % size) hm]
     rw [Array.getElem?_eq_getElem hm] at hu
     exact (Option.some.inj hu))
   simp only [List.length_replicate] at this
   exact this
  ·cases hE
 ·cases hE
theorem KJ (S:aF G J w ι obj) {aJ:Nat} {y:LV} {v:Value} {new:List (List DV)} {rd:List Nat} (h:aV obj aJ y=some (new,rd)) (hy:cT J w ι y v) (hs:∀ s,y≠.d (.val (.string s))) :
  ∃ sa cap,v=.slice sa new.length cap∧(sa=none→new=[]):=by
 cases y with
 | d x=>
   cases x with
   | dK e rows=>
     simp only [aV] at h
     split at h
     ·cases h
      obtain ⟨a,n,cap,rfl,hn,hc,hr⟩:=hy
      subst hn
      refine ⟨a,cap,rfl,fun ha=>?_⟩
      rcases hr with hr | ⟨b,off,hb,_⟩
      ·exact hr
      ·rw [ha] at hb; cases hb
     ·cases h
   | val u=>
     have hvu:v=u:=hy
     subst hvu
     cases v with
     | slice sa n c=>
       cases sa with
       | some _=>simp [aV] at h
       | none=>
         cases n with
         | succ _=>simp [aV] at h
         | zero=>
           cases c with
           | succ _=>simp [aV] at h
           | zero=>simp [aV] at h; exact ⟨none,0,by rw [h.1]; rfl,fun _=>h.1⟩
     | string s=>exact absurd rfl (hs s)
     | _=>simp [aV] at h
   | fn f a b=>simp [aV] at h
   | fL t y=>simp [aV] at h
   | agg cs=>simp [aV] at h
 | sl o n e lo len=>
   have hlen:new.length=len:=by
    simp only [aV] at h
    split at h
    ·split at h
     ·rename_i hc; cases h; simp; omega
     ·cases h
    ·split at h
     ·rename_i hc; cases h; simp; omega
     ·cases h
    ·split at h
     ·rename_i hc
      split at h
      ·rename_i ds hds; cases h; rw [List.length_map,tH hds]; simp; omega
      ·cases h
     ·cases h
    ·split at h
     ·split at h
      ·split at h
       ·cases h; simp; omega
       ·cases h
      ·cases h
     ·cases h
    ·cases h
   rcases hy with ⟨hz,a,rfl⟩ | ⟨b,cap,et',C,hb,rfl,hcap,_,_⟩
   ·exact ⟨a,0,by rw [hlen,hz],fun _=>List.eq_nil_of_length_eq_zero (by omega)⟩
   ·exact ⟨_,cap,by rw [hlen],fun h=>by cases h⟩
 | top=>simp [aV] at h
 | dM=>simp [aV] at h
 | ptr o c=>simp [aV] at h
 | rp o n e r c=>simp [aV] at h
 | ip r c=>simp [aV] at h
 | fn f a b=>simp [aV] at h
 | agg cs=>simp [aV] at h
 | dH cs=>simp [aV] at h
 | fL t y=>simp [aV] at h
 | yl o=>simp [aV] at h
 | mr o=>simp [aV] at h
theorem uX:∀ {rows:List (List DV)} {bs:List UInt8} {vs:List Value},bytesOf rows=some bs→bD J w rows.flatten vs→∃ ns:List Int,vs=ns.map (Value.int .u8)∧bs=ns.map fun n=>UInt8.ofNat n.toNat
 | [],bs,vs,h,hv=>by
   simp only [bytesOf] at h; cases h
   cases vs with
   | nil=>exact ⟨[],rfl,rfl⟩
   | cons _ _=>exact hv.elim
 | r::rows,bs,vs,h,hv=>by
   unfold bytesOf at h
   split at h
   ·cases ‹_::_=[]›
   ·rename_i n r' heq
    cases heq
    split at h
    ·rename_i bs' QS
     cases h
     simp only [List.flatten_cons,List.cons_append,List.nil_append] at hv
     cases vs with
     | nil=>exact hv.elim
     | cons v vs=>
       obtain ⟨h1,h2⟩:=hv
       obtain ⟨ns,e1,e2⟩:=uX QS h2
       have h1:v=.int .u8 n:=h1
       exact ⟨n::ns,by rw [h1,e1]; rfl,by rw [e2]; rfl⟩
    ·cases h
   ·cases h
theorem foldl_push:∀ (ns:List Int) (s:ByteArray),ns.foldl (fun r n=>r.push (UInt8.ofNat n.toNat)) s=⟨(s.data.toList++ns.map fun n=>UInt8.ofNat n.toNat).toArray⟩
 | [],s=>by cases s; simp
 | n::ns,s=>by
   rw [List.foldl_cons,foldl_push ns]
   cases s
   simp [ByteArray.push]
theorem MD (S:aF G J w ι obj) (he:∀ t,cT J w ι (get t) (a.tmps.getD t Go.undef)) {X:Operand} {x:bM} (hx:aI X=some x) {T T2 el:TypeId} (hu:P.underlying T=some (.slice el)) (hel:P.underlying el=some (.int .u8)) (hs:P.underlying T2=some .string)
  {e:eV} (hE:fA G get obj base (.b2s x)=some e) :
  ∃ v,(convert T T2 (a.eval X)).run P w=.ok v w∧cT J w ι e.r v∧e.nw=[]∧e.wr=[]:=by
 have bU:=aT S he hx
 simp only [fA] at hE
 split at hE
 ·cases hE
 ·rename_i hns
  split at hE
  ·rename_i rows rd hsrc
   split at hE
   ·rename_i bs QS
    cases hE
    obtain ⟨news,hS,hD,_⟩:=vB S (.inl ⟨_,hu⟩) hsrc bU
    obtain ⟨sa,cap,hv,lH⟩:=KJ S hsrc bU (fun s h=>hns s h)
    obtain ⟨ns,e1,e2⟩:=uX QS hD
    refine ⟨.string ⟨bs.toArray⟩,?_,rfl,rfl,rfl⟩
    rw [hv,run_convert_bytes_string w T T2 el sa _ cap hu hel hs]
    cases sa with
    | none=>
      have h0:=lH rfl
      subst h0
      simp only [bytesOf] at QS
      cases QS
      simp [Conv.bytesToString]
      rfl
    | some sa=>
      have hc:=hS.cells
      rw [hv,e1] at hc
      have QL:(loadCells sa rows.length).run P w=.ok (ns.map (Value.int .u8)).toArray w:=by
       simpa [Builtin.firstCells] using hc
      rw [run_bytesToString w sa _ cap ns QL,foldl_push,e2]
      rfl
   ·cases hE
  ·cases hE
theorem Kr (z:Array Value) (n:Nat):(Builtin.zeroCells z n).toList=(List.replicate n z.toList).flatten:=by
 apply List.ext_getElem?
 intro j
 by_cases hj:j<n*z.size
 ·rw [Ai _ _ _ (by simpa using hj),Array.length_toList]
  have hpos:0<z.size:=Nat.pos_of_ne_zero (fun h0=>by rw [h0] at hj; simp at hj)
  have hm:j % z.size<z.size:=Nat.mod_lt _ hpos
  unfold Builtin.zeroCells
  simp only [Array.toList_map,Array.toList_range,List.getElem?_map,List.getElem?_range hj,Option.map_some]
  rw [getElem!_pos z (j % z.size) hm,Array.getElem?_toList,Array.getElem?_eq_getElem hm]
 ·rw [List.getElem?_eq_none (by rw [Array.length_toList,size_zeroCells]; omega),List.getElem?_eq_none (by rw [FJ,Array.length_toList]; omega)]
theorem Gp {el:TypeId} {z:List DV} (hz:pF P el=some z):∃ zv:Value,z=zv.cells.toList.map .val∧(∀ u∈zv.cells.toList,u.oneCell'=true)∧∀ w:World,(zeroValue el).run P w=.ok zv w:=by
 unfold pF at hz
 split at hz
 ·rename_i i hi
  split at hz
  ·rename_i v hv
   split at hz
   ·rename_i hall
    cases hz
    exact ⟨v,rfl,fun u hu=>by
     rw [Array.all_eq_true_iff_forall_mem] at hall
     exact hall u (by simpa using hu),fun w=>by simp [zeroValue,typeInfo,hi,hv]⟩
   ·cases hz
  ·cases hz
 ·cases hz
theorem Mv (S:aF G J w ι obj) (he:∀ t,cT J w ι (get t) (a.tmps.getD t Go.undef)) {X:Operand} {x:bM} (hx:aI X=some x) {tx rt el:TypeId} {n:Nat} {z:List DV} (hu:P.underlying tx=some (.slice el)) (hz:pF P el=some z) (hzl:z.length=n)
  {e:eV} (hE:fA G get obj base (.clr n z x)=some e) :
  ∃ v w',(Builtin.clear_ #[tx] rt #[a.eval X]).run P w=.ok v w'∧aN G obj (bG obj base e) J ι w e.r v w':=by
 have bU:=aT S he hx
 simp only [fA] at hE
 split at hE
 ·rename_i o m e0 lo len dO
  rw [dO] at bU
  split at hE
  ·rename_i et e' rows ho
   split at hE
   ·rename_i hc
    obtain ⟨rfl,rfl,rfl,hl,hpos⟩:=hc
    cases hE
    obtain ⟨zv,hzz,hone,hzr⟩:=Gp hz
    have hcl:zv.cells.toList.length=e':=by rw [← hzl,hzz,List.length_map]
    have hne:rows≠[]:=by intro h0; rw [h0] at hl; simp at hl; omega
    obtain ⟨b,hb,MW,hA⟩:=aN.setRows S (lo:=lo) (news:=List.replicate len z) (vs:=(List.replicate len zv.cells.toList).flatten) ho (vG (by rw [hzz]; exact sJ _ _ _) len)
     (fun u hu=>by
      obtain ⟨l,hl,hm⟩:=List.mem_flatten.1 hu
      rw [List.eq_of_mem_replicate hl] at hm
      exact hone u hm) (fun r hr=>by rw [List.eq_of_mem_replicate hr]; exact hzl) (by rw [List.length_replicate]; exact hl) hne
    refine ⟨.tuple #[],w.setCells b (lo*e') (List.replicate len zv.cells.toList).flatten,?_,?_⟩
    ·have hst:=run_storeCells_cells (P:=P) b (lo*e') (List.replicate len zv.cells.toList).flatten 0 w (fun j hj=>by simpa using (MW j hj).1) (fun j hj=>by simpa using (MW j hj).2) (fun u hu=>by
      obtain ⟨l,hl,hm⟩:=List.mem_flatten.1 hu
      rw [List.eq_of_mem_replicate hl] at hm
      exact hone u hm)
     simp only [Nat.add_zero] at hst
     rcases bU with ⟨hz0,_⟩ | ⟨b',cap,et',C,hb',hv,hcap,_,_⟩
     ·omega
     ·rw [hb] at hb'; cases hb'
      obtain ⟨k,rfl⟩:∃ k,len=k+1:=⟨len-1,by omega⟩
      simp [Builtin.clear_,run_underlying hu,hv,hzr,Kr,hst]
    ·have e1:bG obj base { r:=.undef,rd:=[o],wr:=[(o,.dat et e' (splice rows lo (List.replicate len z)))] } = fun k=>if k=o then .live (.dat et e' (splice rows lo (List.replicate len z))) else obj k:=by
      funext k; simp only [bG,pq,cL]
     rw [e1]
     exact hA
   ·cases hE
  ·cases hE
 ·rename_i e0 dO
  cases hE
  rw [dO] at bU
  obtain ⟨ad,n,cap,hv,hn,_⟩:=bU
  have hn0:n=0:=hn
  subst hn0
  have e1:bG obj base { r:=.undef } = obj:=by funext k; simp [bG,pq,cL]
  rw [e1]
  refine ⟨.tuple #[],w,?_,aN.stay S rfl⟩
  rw [hv]
  cases ad <;> simp [Builtin.clear_,run_underlying hu]
 ·cases hE
theorem ME (S:aF G J w ι obj) (he:∀ t,cT J w ι (get t) (a.tmps.getD t Go.undef)) {X:Operand} {x:bM} (hx:aI X=some x) {e:eV} (hE:fA G get obj base (.atl x)=some e) :
  ∃ ad n,a.eval X=.pointer (some ad)∧w.cell? ad=some (.int .i64 n)∧e.r=.int n∧e.nw=[]∧e.wr=[]:=by
 have bU:=aT S he hx
 simp only [fA] at hE
 split at hE
 ·rename_i o c dO
  rw [dO] at bU
  obtain ⟨b,hb,hv⟩:=bU
  split at hE
  ·rename_i et cells ho
   split at hE
   ·rename_i n hc
    cases hE
    have h0:=S.rep o
    rw [ho] at h0
    obtain ⟨⟨b',C,m1,m2,m3⟩,_⟩:=h0
    rw [hb] at m1; cases m1
    obtain ⟨v,HF,_,hr⟩:=m3.get hc
    have hr:v=.int .i64 n:=hr
    subst hr
    refine ⟨_,n,hv,?_,rfl,rfl,rfl⟩
    simp only [World.cell?,m2]
    simpa using HF
   ·cases hE
  ·cases hE
 ·cases hE
theorem MF (S:aF G J w ι obj) (he:∀ t,cT J w ι (get t) (a.tmps.getD t Go.undef)) {X Y:Operand} {x y:bM} (hx:aI X=some x) (hy:aI Y=some y) {e:eV} (hE:fA G get obj base (.ata x y)=some e) :
  ∃ ad n d,a.eval X=.pointer (some ad)∧a.eval Y=.int .i64 d∧w.cell? ad=some (.int .i64 n)∧w.frozen? ad=false∧aN G obj (bG obj base e) J ι w e.r (.int .i64 (IntKind.i64.wrap (n+d))) (w.setCell ad (.int .i64 (IntKind.i64.wrap (n+d)))):=by
 have bU:=aT S he hx
 have kI:=aT S he hy
 simp only [fA] at hE
 split at hE
 ·rename_i o c d dO Pw
  rw [dO] at bU
  rw [Pw] at kI
  obtain ⟨b,hb,hv⟩:=bU
  have hY:a.eval Y=.int .i64 d:=kI
  split at hE
  ·rename_i et cells ho
   split at hE
   ·rename_i n hc
    cases hE
    have adt:c<cells.length:=(List.getElem?_eq_some_iff.1 hc).1
    have h0:=S.rep o
    rw [ho] at h0
    obtain ⟨⟨b',C,m1,m2,m3⟩,_⟩:=h0
    rw [hb] at m1; cases m1
    obtain ⟨v,HF,_,hr⟩:=m3.get hc
    have hr:v=.int .i64 n:=hr
    subst hr
    obtain ⟨b2,hb2,MW,hA⟩:=aN.yL S (col:=c) (cs:=[.int (IntKind.i64.wrap (n+d))]) (vs:=[.int .i64 (IntKind.i64.wrap (n+d))]) ho ⟨rfl,rfl,trivial⟩ (by simp; omega)
    rw [hb] at hb2; cases hb2
    refine ⟨⟨b,c,none⟩,n,d,hv,hY,?_,by simp [World.frozen?,m2],?_⟩
    ·simp only [World.cell?,m2]
     simpa using HF
    ·have e1:bG obj base { r:=.int (IntKind.i64.wrap (n+d)),rd:=[o],wr:=[(o,.box et (splice cells c [.int (IntKind.i64.wrap (n+d))]))] } = fun k=>if k=o then .live (.box et (splice cells c [.int (IntKind.i64.wrap (n+d))])) else obj k:=by
      funext k; simp only [bG,pq,cL]
     rw [e1]
     have e2:w.setCell ⟨b,c,none⟩ (.int .i64 (IntKind.i64.wrap (n+d)))=w.setCells b c [.int .i64 (IntKind.i64.wrap (n+d))]:=by simp only [World.setCells]
     rw [e2]
     obtain ⟨J',ι',h1,_,h3⟩:=hA
     exact ⟨J',ι',h1,rfl,h3⟩
   ·cases hE
  ·cases hE
 ·cases hE
theorem Ij (S:aF G J w ι obj) (he:∀ t,cT J w ι (get t) (a.tmps.getD t Go.undef)) {m:M} {e:eV} (hE:fA G get obj base m=some e) {o:Oper} (hc:Au P o.op=some m) :
  cw P o a w (aN G obj (bG obj base e) J ι w e.r):=by
 obtain ⟨dst,op,type,pos,after,guard⟩:=o
 dsimp only at hc
 unfold Au at hc
 split at hc
 ·rename_i f args ts
  split at hc
  ·rename_i fn hf
   split at hc
   ·rename_i hfn
    obtain ⟨hb,abu⟩:=hfn
    have ex:∀ vs:Array Value,args.map a.eval=vs→execOp a.eval { dst:=dst,op:=Op.call { callee:=Callee.value (.func f),args:=args,argTypes:=ts },type:=type,pos:=pos,after:=after,guard:=guard } = callFunc f vs:=by
     intro vs hvs
     have ef:a.eval (.func f)=.func (.func f) #[] #[]:=rfl
     unfold execOp
     simp [resolve,Deferred.ofValue,invoke,ef,hvs]
    split at hc
    ·rename_i hn
     split at hc
     ·rename_i x hargs
      have ha:args=#[x]:=by apply Array.ext'; simpa using hargs
      subst ha
      split at hc
      ·rename_i x' h1
       cases hc
       obtain ⟨ad,n,hX,hcell,hr,h6,h7⟩:=ME S he h1 hE
       refine cw.of_run (v:=.int .i64 n) (w':=w) ?_ ?_
       ·rw [ex #[a.eval x] (by simp),hX]
        exact run_call_load hf (by rw [hn]; rfl) hb (Lj hn abu) .i64 (L8 hn) hcell
       ·simp only [bG,h6,h7,pq,cL]
        exact aN.stay S (by rw [hr]; rfl)
      ·cases hc
     ·cases hc
    ·split at hc
     ·rename_i hn
      split at hc
      ·rename_i x y hargs
       have ha:args=#[x,y]:=by apply Array.ext'; simpa using hargs
       subst ha
       split at hc
       ·rename_i x' y' h1 h2
        cases hc
        obtain ⟨ad,n,d,hX,hY,hcell,hz,hA⟩:=MF S he h1 h2 hE
        refine cw.of_run ?_ hA
        rw [ex #[a.eval x,a.eval y] (by simp),hX,hY]
        exact run_call_add hf (by rw [hn]; rfl) hb (Ot hn abu) .i64 (PV hn) hcell hz rfl
       ·cases hc
      ·cases hc
     ·cases hc
   ·cases hc
  ·cases hc
 ·cases hc
theorem vF:∀ (es:List (Int×LV)) (E:List MapEntry) (n:Int) (i:Nat),iO J w ι es E→
  (getM es n=none∧Instr.findNow (.int .i64) (.int .i64 n) E i=some none∧∀ y v c,cT J w ι y v→iO J w ι (AW es n y) (E++[⟨.int .i64 n,v,c⟩]))∨
  ∃ y j e,getM es n=some y∧Instr.findNow (.int .i64) (.int .i64 n) E i=some (some (i+j,e.val))∧E[j]? = some e∧e.key=.int .i64 n∧cT J w ι y e.val∧∀ y v,cT J w ι y v→iO J w ι (AW es n y) (E.set j ⟨.int .i64 n,v,e.born⟩)
 | [],[],n,i,_=>.inl ⟨rfl,rfl,fun y v c h=>⟨rfl,h,trivial⟩⟩
 | (k,x)::r,e::E,n,i,h=>by
   obtain ⟨h1,h2,h3⟩:=h
   by_cases hk:n=k
   ·subst hk
    refine .inr ⟨x,0,e,by simp [getM],by simp [Instr.findNow,Instr.sameNow,h1],rfl,h1,h2,fun y v hy=>?_⟩
    simp only [AW,if_true,List.set_cons_zero]
    exact ⟨rfl,hy,h3⟩
   ·have hf:Instr.findNow (.int .i64) (.int .i64 n) (e::E) i=Instr.findNow (.int .i64) (.int .i64 n) E (i+1):=by
     simp [Instr.findNow,Instr.sameNow,h1,show (n==k)=false from beq_eq_false_iff_ne.2 hk]
    rcases vF r E n (i+1) h3 with ⟨q1,q2,q3⟩ | ⟨y,j,e',q1,q2,q3,q4,q5,q6⟩
    ·refine .inl ⟨by simp [getM,hk,q1],by rw [hf,q2],fun y v c hy=>?_⟩
     simp only [AW,if_neg hk]
     exact ⟨h1,h2,q3 y v c hy⟩
    ·refine .inr ⟨y,j+1,e',by simp [getM,hk,q1],by rw [hf,q2]; simp; omega,by simpa using q3,q4,q5,fun y v hy=>?_⟩
     simp only [AW,if_neg hk,List.set_cons_succ]
     exact ⟨h1,h2,q6 y v hy⟩
 | [],_::_,_,_,h=>h.elim
 | _::_,[],_,_,h=>h.elim
theorem aN.mkm (S:aF G J w ι obj) (hb:obj base=.free):aN G obj (fun o=>if o=base then .live (.mp []) else obj o) J ι w (.mr base) (.map (some w.heap.size)) (w.alloc (.map #[] 0)):=by
 have hfree:∀ n,ι base n=none:=by have:=S.rep base; rw [hb] at this; exact this
 let ι':Nat→Nat→Option Nat:=fun o n=>if o=base then (if n=0 then some w.heap.size else none) else ι o n
 have hi:∀ o n b,ι o n=some b→ι' o n=some b:=fun o n b en=>by
  by_cases ho:o=base
  ·subst ho; rw [hfree] at en; cases en
  ·simp only [ι',if_neg ho]; exact en
 have E:Ev (Own ι obj) J J ι ι' w (w.alloc (.map #[] 0)):=Ev.alloc _ _ w w.drawn _ hi
 have hT:=aF.kf S base (.live (.mp [])) E (fun o ho n=>by simp only [ι',if_neg ho]) (fun b hlt _=>dc w _ b hlt)
  ⟨⟨w.heap.size,#[],0,by simp [ι'],bY w _,trivial⟩,trivial⟩ (fun b en=>by
    have:ι' base 0=some b:=en
    simp [ι'] at this; exact .inr (by omega))
 exact ⟨J,ι',hT.1,⟨w.heap.size,by simp [ι'],rfl⟩,hT.2⟩
theorem aN.No (S:aF G J w ι obj) {o b:Nat} {es es':List (Int×LV)} {E E':Array MapEntry} {c c':Nat} (ho:obj o=.live (.mp es)) (h1:ι o 0=some b) (h2:w.heap[b]? = some (.map E c)) (h3:iO J w ι es' E'.toList) :
  aN G obj (fun k=>if k=o then .live (.mp es') else obj k) J ι w .undef Go.undef { w with heap:=w.heap.setIfInBounds b (.map E' c') }:=by
 have hown:Own ι obj b:=⟨o,by rw [ho]; exact h1⟩
 obtain ⟨k1,k2⟩:=MapKept.heap_set (o':=.map E' c') h2
 have E1:Ev (Own ι obj) J J ι ι w { w with heap:=w.heap.setIfInBounds b (.map E' c') }:=⟨rfl,rfl,rfl,by simp,fun k _ hn=>k2 k (fun e=>hn (by rw [e]; exact hown)),fun k _=>by
  by_cases e:k=b
  ·subst e; simp only [World.shape?,k1,h2]
  ·exact bH (k2 k e),fun _ h=>h,fun _ h=>.inl h,fun _ _ _ h=>h⟩
 have hT:=aF.kf S o (.live (.mp es')) E1 (fun _ _ _=>rfl) (fun k _ hn=>k2 k (fun e=>hn (by rw [ho,e]; exact h1)))
  ⟨⟨b,E',c',h1,k1,h3.ev S E1⟩,trivial⟩ (fun k hk=>.inl (by rw [ho]; exact hk))
 exact ⟨J,ι,hT.1,rfl,hT.2⟩
theorem BR (S:aF G J w ι obj) (he:∀ t,cT J w ι (get t) (a.tmps.getD t Go.undef)) {X K Y:Operand} {x k y:bM} (hx:aI X=some x) (hk:aI K=some k) (hy:aI Y=some y) {T kt et:TypeId} (hu:P.underlying T=some (.map kt et)) (hi:zK P kt=true) {e:eV} (hE:fA G get obj base (.mup x k y)=some e) :
  ∃ w',(Instr.mapUpdate T (a.eval X) (a.eval K) (a.eval Y)).run P w=.ok () w'∧aN G obj (bG obj base e) J ι w e.r Go.undef w':=by
 have bU:=aT S he hx
 have hrk:=aT S he hk
 have kI:=aT S he hy
 have hd:=Fe hi
 simp only [fA] at hE
 split at hE
 ·rename_i o n dO Pw
  rw [dO] at bU
  rw [Pw] at hrk
  obtain ⟨b,hb,hX⟩:=bU
  have hK:a.eval K=.int .i64 n:=hrk
  split at hE
  ·rename_i es ho
   cases hE
   have h0:=S.rep o
   rw [ho] at h0
   obtain ⟨⟨b',C,c,m1,m2,m3⟩,_⟩:=h0
   rw [hb] at m1; cases m1
   have e1:bG obj base { r:=.undef,rd:=[o],wr:=[(o,.mp (AW es n (y.ev G get)))] } = fun k=>if k=o then .live (.mp (AW es n (y.ev G get))) else obj k:=by
    funext k; simp only [bG,pq,cL]
   rw [e1,hX,hK]
   have hck:=MapKept.run_checkKey (w:=w) (k:=.int .i64 n) hd (by simp [MapKept.IsKey]) false 9999
   rcases vF es C.toList n 0 m3 with ⟨_,q2,q3⟩ | ⟨_,j,e',_,q2,q3,q4,_,q6⟩
   ·refine ⟨_,?_,aN.No S ho hb m2 (E':=C.push ⟨.int .i64 n,a.eval Y,c⟩) (c':=c+1) (by simpa using q3 _ (a.eval Y) c kI)⟩
    simp [Instr.mapUpdate,run_underlying hu,Result.andThen,MapKept.run_getObj_map m2,hck,MapKept.run_findKey hd q2,MapKept.run_setObj_map _ m2]
   ·have hj:C[j]? = some e':=by simpa using q3
    obtain ⟨key,val,born⟩:=e'
    dsimp only at q4
    subst q4
    have hmod:(C.modify j fun e=>{ e with key:=.int .i64 n,val:=a.eval Y }).toList=C.toList.set j ⟨.int .i64 n,a.eval Y,born⟩:=by
     apply List.ext_getElem?
     intro i
     simp only [Array.getElem?_toList,Array.getElem?_modify,List.getElem?_set]
     by_cases hij:j=i
     ·subst hij
      have hlt:j<C.size:=(Array.getElem?_eq_some_iff.1 hj).1
      have:=(Array.getElem?_eq_some_iff.1 hj).2
      simp [hlt,this]
     ·simp [hij]
    refine ⟨_,?_,aN.No S ho hb m2 (E':=C.modify j fun e=>{ e with key:=.int .i64 n,val:=a.eval Y }) (c':=c) (by rw [hmod]; exact q6 _ _ kI)⟩
    simp [Instr.mapUpdate,run_underlying hu,Result.andThen,MapKept.run_getObj_map m2,hck,MapKept.run_findKey hd q2,hj,MapKept.run_keyThatStays (k:=.int .i64 n) (d:=.int .i64) (by simp [MapKept.IsKey]),MapKept.run_setObj_map _ m2]
  ·cases hE
 ·cases hE
theorem Lo (S:aF G J w ι obj) (he:∀ t,cT J w ι (get t) (a.tmps.getD t Go.undef)) {X K:Operand} {x k:bM} (hx:aI X=some x) (hk:aI K=some k) {T kt et:TypeId} {ok:Bool} {i:TypeInfo} {z:Value} (hu:P.underlying T=some (.map kt et)) (hi:zK P kt=true) (hin:P.info? et=some i) (hz:i.zero=some z) {e:eV} (hE:fA G get obj base (.mlk z ok x k)=some e) :
  ∃ v,(Instr.lookup T (a.eval X) (a.eval K) ok).run P w=.ok v w∧cT J w ι e.r v∧e.nw=[]∧e.wr=[]:=by
 have bU:=aT S he hx
 have hrk:=aT S he hk
 have hd:=Fe hi
 have hzr:(zeroValue et).run P w=.ok z w:=by simp [zeroValue,typeInfo,hin,hz]
 simp only [fA] at hE
 split at hE
 ·rename_i o n dO Pw
  rw [dO] at bU
  rw [Pw] at hrk
  obtain ⟨b,hb,hX⟩:=bU
  have hK:a.eval K=.int .i64 n:=hrk
  split at hE
  ·rename_i es ho
   have h0:=S.rep o
   rw [ho] at h0
   obtain ⟨⟨b',C,c,m1,m2,m3⟩,_⟩:=h0
   rw [hb] at m1; cases m1
   have hck:=fun e=>MapKept.run_checkKey (w:=w) (k:=.int .i64 n) hd (by simp [MapKept.IsKey]) e 9999
   rw [hX,hK]
   rcases vF es C.toList n 0 m3 with ⟨q1,q2,q3⟩ | ⟨y,j,e',q1,q2,q3,q4,q5,_⟩
   ·rw [q1] at hE; cases hE
    refine ⟨if ok=true then .tuple #[z,.bool false] else z,?_,?_,rfl,rfl⟩
    ·simp [Instr.lookup,run_underlying hu,Result.andThen,MapKept.run_getObj_map m2,hck,MapKept.run_findKey hd q2,hzr]
    ·cases ok
     ·exact rfl
     ·exact ⟨_,rfl,rfl,rfl,trivial⟩
   ·rw [q1] at hE; cases hE
    refine ⟨if ok=true then .tuple #[e'.val,.bool true] else e'.val,?_,?_,rfl,rfl⟩
    ·simp [Instr.lookup,run_underlying hu,Result.andThen,MapKept.run_getObj_map m2,hck,MapKept.run_findKey hd q2]
    ·cases ok
     ·exact q5
     ·exact ⟨_,rfl,q5,rfl,trivial⟩
  ·cases hE
 ·cases hE
theorem aN.stand (S:aF G J w ι obj) (n:Nat) (et:TypeId) (f:Nat×Nat) (C:Array Value) {aJ:Nat} {rows:List (List DV)} {cap:Nat} (hcap:rows.length≤cap) (hr:bq (fun b=>J b∨b=w.heap.size) ({ w with drawn:=n }.alloc (.cells C et f)) aJ rows w.heap.size 0) :
  aN G obj obj J ι w (.d (.dK aJ rows)) (.slice (some ⟨w.heap.size,0,none⟩) rows.length cap) ({ w with drawn:=n }.alloc (.cells C et f)):=by
 have E0:Ev (Own ι obj) J J ι ι w ({ w with drawn:=n }.alloc (.cells C et f)):=Ev.alloc _ _ w n _ (fun _ _ _ h=>h)
 have E:Ev (Own ι obj) J (fun b=>J b∨b=w.heap.size) ι ι w ({ w with drawn:=n }.alloc (.cells C et f)):=⟨E0.os,E0.tape,E0.output,E0.size,E0.same,E0.shape,fun _ h=>.inl h,fun b h=>h.elim .inl (fun h=>.inr (.inl (by omega))),E0.gQ⟩
 have hold:∀ b,b<w.heap.size→({ w with drawn:=n }.alloc (.cells C et f)).heap[b]? = w.heap[b]?:=fun b h=>dc { w with drawn:=n } _ b h
 have hown:∀ o b,(obj o).own ι o b→b<w.heap.size:=fun o b h=>by
  obtain ⟨x,hx,_⟩:=jg.sO (S.rep o) h
  exact (Array.getElem?_eq_some_iff.1 hx).1
 refine ⟨_,ι,⟨fun o=>jg.keep S E (fun _=>rfl) (fun b h=>hold b (hown o b h)),S.inj,fun o b h hj=>?_,fun b hj=>?_,fun g row hg=>?_⟩,⟨_,_,_,rfl,rfl,hcap,.inr ⟨_,_,rfl,.inr rfl,hr⟩⟩,⟨E,fun b h=>.inl h⟩⟩
 ·rcases hj with hj | rfl
  ·exact S.oH _ _ h hj
  ·exact Nat.lt_irrefl _ (hown o _ h)
 ·rcases hj with hj | rfl
  ·obtain ⟨C',t,f',h⟩:=S.jcell b hj
   exact ⟨C',t,f',by rw [hold b (S.BY b hj)]; exact h⟩
  ·exact ⟨C,et,f,bY { w with drawn:=n } _⟩
 ·obtain ⟨h1,h2,t,h3⟩:=S.uI g row hg
  exact ⟨.inl h1,dL.ev S E h1 h2,t,by rw [E.shape g (S.BY g h1)]; exact h3⟩
theorem Nx {J:Nat→Prop} {w:World} {b:Nat} {l:List UInt8} : ∀ {off:Nat},(∀ j (h:j<l.length),w.cell? ⟨b,off+j,none⟩=some (.int .u8 (l[j].toNat:Int)))→bq J w 1 (l.map fun c=>[DV.val (.int .u8 c.toNat)]) b off:=by
 induction l with
 | nil=>intros; trivial
 | cons c l ih=>
   intro off h
   refine ⟨rfl,⟨⟨_,h 0 (by simp),rfl,rfl⟩,trivial⟩,ih (fun j hj=>?_)⟩
   have:=h (j+1) (by simpa using hj)
   rw [show off+(j+1)=off+1+j by omega] at this
   simpa using this
theorem KU (S:aF G J w ι obj) (he:∀ t,cT J w ι (get t) (a.tmps.getD t Go.undef)) {X:Operand} {x:bM} (hx:aI X=some x) {T T2 el:TypeId} (hs:P.underlying T=some .string) (hu:P.underlying T2=some (.slice el)) (hel:P.underlying el=some (.int .u8))
  {e:eV} (hE:fA G get obj base (.s2b x)=some e) :
  ∃ v w',(convert T T2 (a.eval X)).run P w=.ok v w'∧aN G obj (bG obj base e) J ι w e.r v w':=by
 have bU:=aT S he hx
 simp only [fA] at hE
 split at hE
 ·rename_i s dO
  rw [dO] at bU
  have hX:a.eval X=.string s:=bU
  cases hE
  refine ⟨_,_,by rw [hX]; exact run_bytes_of_string w T T2 el s hs hu hel,?_⟩
  have hcp:s.size≤grownCap w s.size 0 el:=grownCap_ge w _ _ _
  have hA:=aN.stand (G:=G) (ι:=ι) (obj:=obj) S (w.drawn+1) el ((bytesRow s (grownCap w s.size 0 el)).size,(bytesRow s (grownCap w s.size 0 el)).size+1) (bytesRow s (grownCap w s.size 0 el)) (aJ:=1) (rows:=s8R s) (cap:=grownCap w s.size 0 el) (by simpa [s8R] using hcp) (Nx fun j hj=>?_)
  ·rw [show (s8R s).length=s.size by simp [s8R]] at hA
   simp only [bG,pq,cL]
   exact hA
  ·have hh:(w.drew.alloc (.cells (bytesRow s (grownCap w s.size 0 el)) el ((bytesRow s (grownCap w s.size 0 el)).size,(bytesRow s (grownCap w s.size 0 el)).size+1))).heap[w.heap.size]? = some _:=bY { w with drawn:=w.drawn+1 } _
   have hj':j<s.data.size:=by simpa using hj
   show World.cell? (w.drew.alloc _) _=_
   unfold World.cell?
   rw [hh]
   simp only [Nat.zero_add,Option.isSome_none,Bool.false_eq_true,if_false]
   unfold bytesRow
   rw [Array.getElem?_append_left (by simpa using hj')]
   simp [hj']
   exact ⟨_,Array.getElem?_eq_getElem hj',rfl⟩
 ·cases hE
theorem Ih (S:aF G J w ι obj) (he:∀ t,cT J w ι (get t) (a.tmps.getD t Go.undef)) {m:M} {e:eV} (hE:fA G get obj base m=some e) (hfree:∀ j,j<e.nw.length→obj (base+j)=.free) {o:Oper} (hc:iy P o.op=some m) :
  cw P o a w (aN G obj (bG obj base e) J ι w e.r):=by
 obtain ⟨dst,op,type,pos,after,guard⟩:=o
 dsimp only at hc
 have stay:∀ {e:eV} {v:Value},e.nw=[]→e.wr=[]→cT J w ι e.r v→aN G obj (bG obj base e) J ι w e.r v w:=by
  intro e v h1 h2 h3
  simp only [bG,h1,h2,pq,cL]
  exact aN.stay S h3
 cases op with
 | slice T x lo hi mx=>
   cases mx with
   | some _=>simp [iy] at hc
   | none=>
     simp only [iy] at hc
     split at hc
     ·rename_i x' lo' hi' n el h1 h2 h3 hu
      split at hc
      ·rename_i hs
       cases hc
       obtain ⟨v,hv,hr,h6,h7⟩:=KN S he h1 h2 h3 hu hs hE
       exact cw.value (s:=Instr.sliceAt T (a.eval x) (lo.map a.eval) (hi.map a.eval) none) rfl hv (stay h6 h7 hr)
      ·cases hc
     ·cases hc
 | makeSlice T l c=>
   simp only [iy] at hc
   split at hc
   ·rename_i n el h1 hu
    split at hc
    ·rename_i z size bytes h2 h3
     split at hc
     ·rename_i lJ
      cases hc
      have hb:obj base=.free:=by
       have hlen:0<e.nw.length:=by
        have QT:=hE
        simp only [fA] at QT
        split at QT
        ·split at QT
         ·cases QT; simp
         ·cases QT
        ·cases QT
       simpa using hfree 0 hlen
      obtain ⟨v,w',hv,hA⟩:=Lp S he h1 lJ.1 hu h3 h2 lJ.2 hb hE
      exact cw.value (s:=Instr.makeSlice T (a.eval l) (a.eval c)) rfl hv hA
     ·cases hc
    ·cases hc
   ·cases hc
 | convert S' T x=>
   simp only [iy] at hc
   split at hc
   ·rename_i y el h1 h2 h3
    split at hc
    ·rename_i h4
     cases hc
     obtain ⟨v,hv,hr,h6,h7⟩:=MD S he h1 h2 h4 h3 hE
     exact cw.value (s:=Go.convert S' T (a.eval x)) rfl hv (stay h6 h7 hr)
    ·cases hc
   ·rename_i y el h1 h2 h3
    split at hc
    ·rename_i h4
     cases hc
     obtain ⟨v,w',hv,hA⟩:=KU S he h1 h2 h3 h4 hE
     exact cw.value (s:=Go.convert S' T (a.eval x)) rfl hv hA
    ·cases hc
   ·cases hc
 | call c=>
   obtain ⟨callee,args,ts⟩:=c
   cases callee with
   | value f=>simp [iy] at hc
   | invoke r m=>simp [iy] at hc
   | builtin b=>
     cases b with
     | copy=>
       simp only [iy] at hc
       split at hc
       ·rename_i x y tx ty hargs hT
        have ha:args=#[x,y]:=by apply Array.ext'; simpa using hargs
        have ht:ts=#[tx,ty]:=by apply Array.ext'; simpa using hT
        subst ha ht
        split at hc
        ·rename_i x' y' el h1 h2 h3
         split at hc
         ·rename_i lJ
          cases hc
          obtain ⟨v,w',hv,hA⟩:=Mq (rt:=type) S he h1 h2 h3 lJ.1 lJ.2 hE
          exact cw.value (s:=Builtin.copy_ #[tx,ty] type #[a.eval x,a.eval y]) (by simp [execOp,resolve,invoke,builtin]) hv hA
         ·cases hc
        ·cases hc
       ·cases hc
     | clear=>
       simp only [iy] at hc
       split at hc
       ·rename_i x tx hargs hT
        have ha:args=#[x]:=by apply Array.ext'; simpa using hargs
        have ht:ts=#[tx]:=by apply Array.ext'; simpa using hT
        subst ha ht
        split at hc
        ·rename_i x' el h1 h2
         split at hc
         ·rename_i z n h3 h4
          split at hc
          ·rename_i lJ
           cases hc
           obtain ⟨v,w',hv,hA⟩:=Mv (rt:=type) S he h1 h2 h3 lJ hE
           exact cw.value (s:=Builtin.clear_ #[tx] type #[a.eval x]) (by simp [execOp,resolve,invoke,builtin]) hv hA
          ·cases hc
         ·cases hc
        ·cases hc
       ·cases hc
     | _=>simp [iy] at hc
 | unOp u T x=>
   cases u with
   | xor=>
     simp only [iy] at hc
     split at hc
     ·rename_i y h1
      cases hc
      have bU:=aT S he h1
      simp only [fA] at hE
      split at hE
      ·rename_i k n dO
       rw [dO] at bU
       have hX:a.eval x=.int k n:=bU
       cases hE
       exact cw.value (s:=Op.unary .xor (a.eval x)) rfl (by rw [hX]; rfl) (stay rfl rfl rfl)
      ·cases hE
     ·cases hc
   | _=>simp [iy] at hc
 | makeMap T r=>
   cases r with
   | some _=>simp [iy] at hc
   | none=>
     simp only [iy,Option.some.injEq] at hc
     subst hc
     simp only [fA,Option.some.injEq] at hE
     subst hE
     have hb:obj base=.free:=by simpa using hfree 0 (by simp)
     refine cw.value (s:=Instr.makeMap T none) rfl rfl ?_
     have e1:bG obj base { r:=.mr base,nw:=[.mp []] } = fun o=>if o=base then .live (.mp []) else obj o:=by funext k; simp [bG,pq,cL]
     rw [e1]
     exact aN.mkm S hb
 | mapUpdate T m k x=>
   simp only [iy] at hc
   split at hc
   ·rename_i h1 h2 h3 h4
    split at hc
    ·rename_i h5
     cases hc
     obtain ⟨w',hv,hA⟩:=BR S he h1 h2 h3 h4 h5 hE
     refine cw.xX (w':=w') ?_ hA
     simp [execOp,hv,Result.andThen]
    ·cases hc
   ·cases hc
 | insert T m k x=>
   simp only [iy] at hc
   split at hc
   ·rename_i h1 h2 h3 h4
    split at hc
    ·rename_i h5
     cases hc
     obtain ⟨w',hv,hA⟩:=BR S he h1 h2 h3 h4 h5 hE
     refine cw.xX (w':=w') ?_ hA
     simp [execOp,hv,Result.andThen]
    ·cases hc
   ·cases hc
 | lookup T m k ok=>
   simp only [iy] at hc
   split at hc
   ·rename_i h1 h2 h3
    split at hc
    ·rename_i i h4
     split at hc
     ·rename_i z h5
      split at hc
      ·rename_i h6
       cases hc
       obtain ⟨v,hv,hr,h7,h8⟩:=Lo S he h1 h2 h3 h6 h4 h5 hE
       exact cw.value (s:=Instr.lookup T (a.eval m) (a.eval k) ok) rfl hv (stay h7 h8 hr)
      ·cases hc
     ·cases hc
    ·cases hc
   ·cases hc
 | _=>simp [iy] at hc
theorem Ii (S:aF G J w ι obj) (he:∀ t,cT J w ι (get t) (a.tmps.getD t Go.undef)) {i:I} {e:eV} (hE:cE G get obj base i=some e) (hfree:∀ j,j<e.nw.length→obj (base+j)=.free) {o:Oper} (hc:mK P o.op=some i) :
  cw P o a w (aN G obj (bG obj base e) J ι w e.r):=by
 rcases xh hc with h | ⟨m,rfl,h⟩
 ·exact Mi S he hE hfree h
 ·have QT:fA G get obj base m=some e:=by simpa only [cE] using hE
  rcases h with h | h | rfl
  ·exact Ih S he QT hfree h
  ·exact Ij S he QT h
  ·cases QT
end
end Dv
namespace Dv
open Go
def fz (ro:Option Nat):Fence:={ fn:=fun _=>True,depth:=none,alive:=false,round:=ro }
theorem nI {ro:Option Nat} {n:Nat} {P:Program} {f:FuncId} {args:Array Value} {w:World} {R:Ending→World→Prop} : CallsIn (fz ro) n P f args w R↔Calls P f args w R:=by
 have:CallsIn (fz ro) n P f args w R=CallsIn Fence.wide n P f args w R:=rfl
 rw [this]; exact callsIn_wide
theorem UN {ro:Option Nat} {n:Nat} {P:Program} {row:String} {args:Array Value} {w:World} {R:Value→World→Prop} (h:Rows P row args w R):RowsIn (fz ro) n P row args w R:=by
 intro b cs _
 obtain ⟨v,w',h1,h2⟩:=h b cs
 exact ⟨v,w',h1,stepsIn_wide.2 h2⟩
theorem Yd {ro:Option Nat} {n:Nat} {P:Program} {o:Oper} {a:Act} {w:World} {next:Act→World→Prop} {Q:Exit→Act→World→Prop} (hd:∀ c,o.op≠.defer c) (h:o.wp P a w next Q):o.wpIn (fz ro) n P a w next Q:=by
 refine ⟨fun _ _=>trivial,?_⟩
 rw [Oper.semAt_eq _ _ _ hd]
 unfold Oper.wp at h
 generalize (execOp a.eval o).run P w=r at h
 unfold Oper.upon at h
 unfold Oper.uponIn
 split at h
 ·exact h
 ·exact h
 ·exact h
 ·exact ⟨(fun hh=>by cases hh),nI.2 (Calls.mono h (fun e w' q=>by cases e <;> exact q))⟩
 ·exact ⟨(fun hh=>by cases hh),UN h⟩
 ·exact h
 ·exact h.elim
structure St where
 env:List (Nat×LV)
 af:List (Option aC)
def aW:List (Nat×LV)→Nat→LV
 | [],_=>.top
 | (k,v)::r,t=>if k=t then v else aW r t
def dU (dst:Option Nat) (r:LV) (env:List (Nat×LV)):List (Nat×LV):=match dst with
 | some d=>(d,r)::env
 | none=>env
def St.get (s:St) (t:Nat):LV:=aW s.env t
def St.obj (s:St) (o:Nat):b_:=au s.af o
def fH:List (Nat×aC)→List (Option aC)→List (Option aC)
 | [],l=>l
 | (k,ob)::r,l=>(fH r l).set k (some ob)
def St.app (s:St) (dst:Option Nat) (e:eV):St:={ env:=dU dst e.r s.env,af:=fH e.wr s.af++e.nw.map some }
def St.put (s:St) (dst:Option Nat) (r:LV):St:={ s with env:=dU dst r s.env }
def callee:LV→Option (Nat×List LV×List LV)
 | .d (.fn (.func k) fs cs)=>some (k,fs.map .d,cs.map .d)
 | .fn (.func k) fs cs=>some (k,fs,cs)
 | _=>none
def kN (P:Program) (G:Nat→Option (List DV)) (get:Nat→LV) (obj:Nat→b_) (base:Nat) (i:I) (e:eV):Prop:=
 match i with
 | .call f args=>match callee (f.ev G get) with
   | some (k,fs,cs)=>cm P G k (fs++args.map (·.ev G get)++cs) obj base e
   | none=>False
 | i=>cE G get obj base i=some e
section
variable {P:Program} {G:Nat→Option (List DV)} {J:Nat→Prop} {w w':World} {ι:Nat→Nat→Option Nat} {obj:Nat→b_} {a:Act} {get:Nat→LV} {base:Nat}
theorem ck.append:∀ {xs ys:List LV} {vs us:List Value},ck J w ι xs vs→ck J w ι ys us→ck J w ι (xs++ys) (vs++us)
 | [],ys,[],us,_,h=>h
 | x::xs,ys,v::vs,us,h,k=>⟨h.1,ck.append h.2 k⟩
 | [],_,_::_,_,h,_=>h.elim
 | _::_,_,[],_,h,_=>h.elim
theorem wv (keep:Nat→Bool):∀ (l:List (Nat×aC)) (obj:Nat→b_),(l.map (·.1)).Nodup→(∀ p∈l,keep p.1=false→obj p.1=.live p.2)→cL (l.filter fun p=>keep p.1) obj=cL l obj
 | [],_,_,_=>rfl
 | (k,ob)::r,obj,hn,h=>by
   simp only [List.map_cons,List.nodup_cons] at hn
   have ih:=wv keep r obj hn.2 (fun p hp=>h p (by simp [hp]))
   cases hk:keep k with
   | true=>rw [List.filter_cons_of_pos (by simpa using hk)]; simp only [cL,ih]
   | false=>
     rw [List.filter_cons_of_neg (by simp [hk]),ih]
     funext o
     simp only [cL]
     split
     ·rename_i ho
      subst ho
      have hout:∀ (l:List (Nat×aC)) (o:Nat),o∉l.map (·.1)→cL l obj o=obj o:=by
       intro l
       induction l with
       | nil=>intro o _; rfl
       | cons p l ihl=>
         intro o ho
         obtain ⟨a,b⟩:=p
         simp only [List.map_cons,List.mem_cons,not_or] at ho
         simp only [cL]; rw [if_neg ho.1]; exact ihl o ho.2
      rw [hout r _ hn.1]
      exact h (o,ob) (by simp) hk
     ·rfl
theorem Dy (obj:Nat→b_):∀ (Z:List Nat),∀ p∈gh obj Z,p.1∈Z
 | [],p,h=>by cases h
 | z::Z,p,h=>by
   rw [ru] at h
   split at h
   ·rcases List.mem_cons.1 h with rfl | h
    ·simp
    ·exact List.mem_cons_of_mem _ (Dy obj Z p h)
   ·exact List.mem_cons_of_mem _ (Dy obj Z p h)
theorem F6 {ρ Z:List Nat} {tmp:Bool} {aH aq:List aC} {base:Nat} {r:LV} (hn:ρ.Nodup) (hz:∀ z∈Z,z∉ρ) {obj:Nat→b_}
  (ho:∀ (i o:Nat),ρ[i]? = some o→∃ ob,aH[i]? = some ob∧obj o=.live (ff (bu ρ base) ob)) {keep:Nat→Bool} (hk:∀ (i o:Nat),ρ[i]? = some o→keep o=false→aq[i]? = aH[i]?) (nw:List aC) :
  bG obj base { r:=rn (bu ρ base) r,rd:=ρ++Z,wr:=((ρ.zip (aq.map (ff (bu ρ base)))).filter fun p=>keep p.1)++(if tmp then [] else gh obj Z),nw:=nw } =
   bG obj base { r:=rn (bu ρ base) r,rd:=ρ++Z,wr:=(ρ.zip (aq.map (ff (bu ρ base))))++(if tmp then [] else gh obj Z),nw:=nw }:=by
 unfold bG
 dsimp only
 have hap:∀ (l m:List (Nat×aC)) (obj:Nat→b_),cL (l++m) obj=cL l (cL m obj):=by
  intro l m obj
  induction l with
  | nil=>rfl
  | cons p l ih=>obtain ⟨a,b⟩:=p; simp only [List.cons_append,cL,ih]
 rw [hap,hap,wv]
 ·have sub:∀ (ρ:List Nat) (l:List aC),((ρ.zip l).map (·.1)).Sublist ρ:=by
   intro ρ
   induction ρ with
   | nil=>intro l; simp
   | cons a r ih=>
     intro l
     cases l with
     | nil=>simp
     | cons b l=>simpa using ih l
  exact hn.sublist (sub _ _)
 ·intro p hp hkp
  obtain ⟨i,hi⟩:=List.mem_iff_getElem?.1 hp
  rw [List.getElem?_zip_eq_some] at hi
  obtain ⟨h1,h2⟩:=hi
  have h3:=hk i p.1 h1 hkp
  obtain ⟨ob,h4,h5⟩:=ho i p.1 h1
  rw [List.getElem?_map,h3,h4] at h2
  simp only [Option.map_some,Option.some.injEq] at h2
  have hout:∀ (l:List (Nat×aC)) (o:Nat),o∉l.map (·.1)→cL l obj o=obj o:=by
   intro l
   induction l with
   | nil=>intro o _; rfl
   | cons p l ihl=>
     intro o ho
     obtain ⟨a,b⟩:=p
     simp only [List.map_cons,List.mem_cons,not_or] at ho
     simp only [cL]; rw [if_neg ho.1]; exact ihl o ho.2
  rw [hout _ _ ?_,h5,← h2]
  intro hm
  obtain ⟨q,hq,HK⟩:=List.mem_map.1 hm
  split at hq
  ·cases hq
  ·exact hz _ (Dy obj Z q hq) (HK ▸ List.mem_of_getElem? h1)
theorem ID (S:aF G J w ι obj) (he:∀ t,cT J w ι (get t) (a.tmps.getD t Go.undef)) {f:bM} {args:List bM} {e:eV} (hE:kN P G get obj base (.call f args) e) (hfree:∀ j,j<e.nw.length→obj (base+j)=.free) {o:Oper} (hc:mK P o.op=some (.call f args)) :
  cw P o a w (aN G obj (bG obj base e) J ι w e.r):=by
 replace hc:=s9 hc
 obtain ⟨dst,op,type,pos,after,guard⟩:=o
 dsimp only at hc
 obtain ⟨F,as,ts,rfl,hF,hargs⟩:∃ F as ts,op=.call ⟨.value F,as,ts⟩∧aI F=some f∧dh as.toList=some args:=by
  cases op with
  | call c=>
    obtain ⟨callee,as,ts⟩:=c
    cases callee with
    | value F=>
      simp only [cG] at hc
      split at hc
      ·rename_i f' args' h1 h2; cases hc; exact ⟨F,as,ts,rfl,h1,h2⟩
      ·cases hc
    | invoke r m=>simp [cG] at hc
    | builtin b=>
      exfalso
      cases b <;> simp only [cG] at hc <;> (repeat' split at hc) <;> cases hc
  | unOp u T x=>exfalso; cases u <;> simp only [cG] at hc <;> (try (cases hc; done)) <;> (repeat' split at hc) <;> cases hc
  | _=>
    exfalso
    simp only [cG] at hc <;> (repeat' split at hc) <;> cases hc
 simp only [kN] at hE
 split at hE
 ·rename_i k fs cs iY
  have HJ:=aT S he hF
  have hrA:=qU S he hargs
  obtain ⟨fs',cs',hval,UA,hcs⟩:∃ fs' cs',a.eval F=.func (.func k) fs' cs'∧ck J w ι fs fs'.toList∧ck J w ι cs cs'.toList:=by
   generalize f.ev G get=x at iY HJ
   unfold callee at iY
   split at iY
   ·cases iY
    obtain ⟨fs',cs',h1,h2,h3⟩:=HJ
    exact ⟨fs',cs',h1,h2.AP,h3.AP⟩
   ·cases iY
    obtain ⟨fs',cs',h1,h2,h3⟩:=HJ
    exact ⟨fs',cs',h1,h2,h3⟩
   ·cases iY
  obtain ⟨ρ,Z,tmp,aS,aH,r,aq,keep,hkeep,hn,hz,Ds,hl,en,hid,uF,Fk,hle,Dt,rfl⟩:=hE.ex
  obtain ⟨hent,HU⟩:=Dt
  obtain ⟨SF,_⟩:=S.sub (base:=base) hn hz hl en hid (fun z hz=>(Ds z hz).up)
  have HI:ck J w ι (fs++args.map (·.ev G get)++cs) (fs'++as.map a.eval++cs').toList:=by
   simp only [Array.toList_append,Array.toList_map]
   exact (UA.append hrA).append hcs
  have Fv:=HU _ _ w (fs'++as.map a.eval++cs') SF (gC S _ _ _ uF HI)
  have hrun:(execOp a.eval ⟨dst,.call ⟨.value F,as,ts⟩,type,pos,after,guard⟩).run P w=.ok (.enter k (fs'++as.map a.eval++cs')) w:=by
   simp only [execOp,resolve,Sem.run_bind,hval,Deferred.ofValue,Sem.run_pure,Result.andThen_ok,invoke]
   exact nK hent _ w
  intro next Q hnext
  unfold Oper.wp
  rw [hrun,Oper.upon_enter]
  refine Calls.mono Fv (fun e w'' ⟨v,dO,hA⟩=>?_)
  subst dO
  refine hnext v w'' ?_
  simp only [List.length_map,List.length_drop] at hfree
  rw [F6 hn hz en hkeep]
  exact aN.call S hn hz hl en hid Ds Fk hle hfree hA
 ·exact hE.elim
theorem Ql (S:aF G J w ι obj) (he:∀ t,cT J w ι (get t) (a.tmps.getD t Go.undef)) {f:bM} {args:List bM} {e:eV} {p:Value} {k:Nat} {fs cs:List LV} (iY:callee (f.ev G get)=some (k,fs,cs)) (hE:fe P G k (fs++args.map (·.ev G get)++cs) obj base p e) (hfree:∀ j,j<e.nw.length→obj (base+j)=.free) {o:Oper} (hc:mK P o.op=some (.call f args))
  (next:Act→World→Prop) (Q:Exit→Act→World→Prop) (hQ:∀ w',aN G obj (bG obj base e) J ι w .top Go.undef w'→Q (.panic [{ v:=p,recovered:=false }]) a w'):o.wp P a w next Q:=by
 replace hc:=s9 hc
 obtain ⟨dst,op,type,pos,after,guard⟩:=o
 dsimp only at hc
 obtain ⟨F,as,ts,rfl,hF,hargs⟩:∃ F as ts,op=.call ⟨.value F,as,ts⟩∧aI F=some f∧dh as.toList=some args:=by
  cases op with
  | call c=>
    obtain ⟨callee,as,ts⟩:=c
    cases callee with
    | value F=>
      simp only [cG] at hc
      split at hc
      ·rename_i f' args' h1 h2; cases hc; exact ⟨F,as,ts,rfl,h1,h2⟩
      ·cases hc
    | invoke r m=>simp [cG] at hc
    | builtin b=>
      exfalso
      cases b <;> simp only [cG] at hc <;> (repeat' split at hc) <;> cases hc
  | unOp u T x=>exfalso; cases u <;> simp only [cG] at hc <;> (try (cases hc; done)) <;> (repeat' split at hc) <;> cases hc
  | _=>
    exfalso
    simp only [cG] at hc <;> (repeat' split at hc) <;> cases hc
 have HJ:=aT S he hF
 have hrA:=qU S he hargs
 obtain ⟨fs',cs',hval,UA,hcs⟩:∃ fs' cs',a.eval F=.func (.func k) fs' cs'∧ck J w ι fs fs'.toList∧ck J w ι cs cs'.toList:=by
  generalize f.ev G get=x at iY HJ
  unfold callee at iY
  split at iY
  ·cases iY
   obtain ⟨fs',cs',h1,h2,h3⟩:=HJ
   exact ⟨fs',cs',h1,h2.AP,h3.AP⟩
  ·cases iY
   obtain ⟨fs',cs',h1,h2,h3⟩:=HJ
   exact ⟨fs',cs',h1,h2,h3⟩
  ·cases iY
 obtain ⟨ρ,Z,aS,aH,aq,hn,hz,Ds,hl,en,hid,uF,hle,Dt,rfl⟩:=hE.ex
 obtain ⟨hent,HU⟩:=Dt
 obtain ⟨SF,_⟩:=S.sub (base:=base) hn hz hl en hid (fun z hz=>.inl (Ds z hz))
 have HI:ck J w ι (fs++args.map (·.ev G get)++cs) (fs'++as.map a.eval++cs').toList:=by
  simp only [Array.toList_append,Array.toList_map]
  exact (UA.append hrA).append hcs
 have Fv:=HU _ _ w (fs'++as.map a.eval++cs') SF (gC S _ _ _ uF HI)
 have hrun:(execOp a.eval ⟨dst,.call ⟨.value F,as,ts⟩,type,pos,after,guard⟩).run P w=.ok (.enter k (fs'++as.map a.eval++cs')) w:=by
  simp only [execOp,resolve,Sem.run_bind,hval,Deferred.ofValue,Sem.run_pure,Result.andThen_ok,invoke]
  exact nK hent _ w
 unfold Oper.wp
 rw [hrun,Oper.upon_enter]
 refine Calls.mono Fv (fun e w'' ⟨dO,hA⟩=>?_)
 subst dO
 refine hQ w'' ?_
 simp only [List.length_map,List.length_drop] at hfree
 have:=aN.call (tmp:=false) S hn hz hl en hid (fun z hz=>.inl (Ds z hz)) (fun h=>by cases h) hle hfree hA
 simpa [rn] using this
theorem IV (S:aF G J w ι obj) (he:∀ t,cT J w ι (get t) (a.tmps.getD t Go.undef)) {i:I} {e:eV} (hE:kN P G get obj base i e) (hfree:∀ j,j<e.nw.length→obj (base+j)=.free) {o:Oper} (hc:mK P o.op=some i) :
  cw P o a w (aN G obj (bG obj base e) J ι w e.r):=by
 by_cases h:∃ f args,i=.call f args
 ·obtain ⟨f,args,rfl⟩:=h
  exact ID S he hE hfree hc
 ·have:kN P G get obj base i e=(cE G get obj base i=some e):=by
   cases i <;> first | rfl | (exfalso; exact h ⟨_,_,rfl⟩)
  rw [this] at hE
  exact Ii S he hE hfree hc
end
theorem mz {l:List (Option aC)} {o:Nat} {ob:aC} (h:au l o=.live ob):o<l.length:=by
 unfold au at h
 split at h
 ·cases h
 ·cases h
 ·rename_i hh; exact (List.getElem?_eq_some_iff.1 hh).1
theorem cv {l:List (Option aC)} {o:Nat} (h:l.length≤o):au l o=.free:=by
 unfold au; rw [List.getElem?_eq_none h]
theorem pK:∀ (wr:List (Nat×aC)) (l:List (Option aC)),(fH wr l).length=l.length
 | [],_=>rfl
 | (k,ob)::r,l=>by simp only [fH,List.length_set,pK r l]
theorem yu:∀ (wr:List (Nat×aC)) (l:List (Option aC)),(∀ p∈wr,p.1<l.length)→∀ o,au (fH wr l) o=cL wr (au l) o
 | [],_,_,_=>rfl
 | (k,ob)::r,l,h,o=>by
   have hk:k<(fH r l).length:=by rw [pK]; exact h (k,ob) (by simp)
   simp only [fH,cL]
   unfold au
   by_cases ho:o=k
   ·subst ho
    rw [List.getElem?_set_self hk]; simp
   ·rw [List.getElem?_set_ne (fun e=>ho e.symm),if_neg ho]
    exact yu r l (fun p hp=>h p (by simp [hp])) o
theorem Ki (l:List (Option aC)) (e:eV) (h:∀ p∈e.wr,p.1<l.length):au (fH e.wr l++e.nw.map some)=bG (au l) l.length e:=by
 funext o
 simp only [bG,uq]
 have hl:=pK e.wr l
 by_cases ho:l.length≤o
 ·rw [if_pos ho]
  have:au (fH e.wr l++e.nw.map some) o=(match e.nw[o-l.length]? with | some ob=>.live ob | none=>.free):=by
   unfold au
   rw [List.getElem?_append_right (by omega),hl,List.getElem?_map]
   cases e.nw[o-l.length]? <;> rfl
  rw [this]
  cases e.nw[o-l.length]? with
  | some ob=>rfl
  | none=>
    show b_.free=cL e.wr (au l) o
    rw [← yu e.wr l h o,cv (by omega)]
 ·rw [if_neg ho,← yu e.wr l h o]
  unfold au
  rw [List.getElem?_append_left (by omega)]
theorem FG {obj:Nat→b_} {x:LV} {o:Nat} {ob:aC} {d:DV} (h:qC obj x=some (o,ob,d)):∃ ob',obj o=.live ob':=by
 unfold qC at h
 split at h
 ·split at h
  ·rename_i ho
   split at h
   ·cases h; exact ⟨_,ho⟩
   ·cases h
  ·cases h
 ·cases h
theorem tD {G:Nat→Option (List DV)} {get:Nat→LV} {obj:Nat→b_} {base:Nat} {i:I} {e:eV} (h:cE G get obj base i=some e):∀ p∈e.wr,∃ ob,obj p.1=.live ob:=by
 intro p hp
 by_cases hm:∃ m,i=.more m
 ·obtain ⟨m,rfl⟩:=hm
  exact UX (by simpa only [cE] using h) p hp
 cases i <;> (try (exfalso; exact hm ⟨_,rfl⟩; done)) <;> simp only [cE,Qu] at h <;> (repeat' split at h) <;> (try (cases h; done)) <;> cases h <;> first
  | (cases hp; done)
  | (simp only [List.mem_singleton] at hp; subst hp; exact ⟨_,by assumption⟩)
  | (simp only [List.mem_singleton] at hp; subst hp; rename_i hf; exact FG hf)
theorem rq (obj:Nat→b_):∀ (Z:List Nat),∀ p∈gh obj Z,∃ ob,obj p.1=.live ob
 | [],p,h=>by cases h
 | z::Z,p,h=>by
   rw [ru] at h
   split at h
   ·rename_i x hz
    rcases List.mem_cons.1 h with rfl | h
    ·unfold FH at hz
     split at hz
     ·exact ⟨_,by assumption⟩
     ·exact ⟨_,by assumption⟩
     ·cases hz
    ·exact rq obj Z p h
   ·exact rq obj Z p h
theorem kN.tD {P:Program} {G:Nat→Option (List DV)} {get:Nat→LV} {obj:Nat→b_} {base:Nat} {i:I} {e:eV} (h:kN P G get obj base i e):∀ p∈e.wr,∃ ob,obj p.1=.live ob:=by
 by_cases hi:∃ f args,i=.call f args
 ·obtain ⟨f,args,rfl⟩:=hi
  simp only [kN] at h
  split at h
  ·obtain ⟨ρ,Z,tmp,aS,aH,r,aq,keep,hkeep,hn,hz,Ds,hl,en,hid,uF,Fk,hle,Dt,rfl⟩:=h.ex
   intro p hp
   simp only [List.mem_append] at hp
   rcases hp with hp | hp
   ·have:p.1∈ρ:=(List.of_mem_zip (List.mem_filter.1 hp).1).1
    obtain ⟨i,hi⟩:=List.mem_iff_getElem?.1 this
    obtain ⟨ob,_,k⟩:=en i _ hi
    exact ⟨_,k⟩
   ·split at hp
    ·cases hp
    ·exact rq obj Z p hp
  ·exact h.elim
 ·have:kN P G get obj base i e=(cE G get obj base i=some e):=by
   cases i <;> first | rfl | (exfalso; exact hi ⟨_,_,rfl⟩)
  rw [this] at h
  exact Dv.tD h
theorem fe.tD {P:Program} {G:Nat→Option (List DV)} {f:Nat} {args:List LV} {obj:Nat→b_} {base:Nat} {p:Value} {e:eV} (h:fe P G f args obj base p e):∀ q∈e.wr,∃ ob,obj q.1=.live ob:=by
 obtain ⟨ρ,Z,aS,aH,aq,hn,hz,Ds,hl,en,hid,uF,hle,Dt,rfl⟩:=h.ex
 intro q hq
 simp only [List.mem_append] at hq
 rcases hq with hq | hq
 ·have:q.1∈ρ:=(List.of_mem_zip hq).1
  obtain ⟨i,hi⟩:=List.mem_iff_getElem?.1 this
  obtain ⟨ob,_,k⟩:=en i _ hi
  exact ⟨_,k⟩
 ·exact rq obj Z q hq
def jV (w w':World):Prop:=∀ (b:Nat) (ob:Obj),w.heap[b]? = some ob→ob.nE=false→w'.heap[b]? = some ob
theorem jV.refl (w:World):jV w w:=fun _ _ h _=>h
theorem jV.trans {w w' w'':World} (h:jV w w') (k:jV w' w''):jV w w'':=fun b ob hb hc=>k b ob (h b ob hb hc) hc
theorem Ext.nc {G:Nat→Option (List DV)} {J J':Nat→Prop} {w w':World} {ι ι':Nat→Nat→Option Nat} {obj obj':Nat→b_} (S:aF G J w ι obj) (E:Ext obj obj' J J' ι ι' w w'):jV w w':=by
 intro b ob hb hc
 rw [E.ev.same b (Array.getElem?_eq_some_iff.1 hb).1 (fun ho=>?_)]
 ·exact hb
 ·obtain ⟨x,h,hx⟩:=S.sO ho
  rw [hb] at h; cases h; rw [hc] at hx; cases hx
def YS:Nat:=4294967294
def isNil:LV→Bool
 | .d (.val (.slice none 0 0))=>true
 | _=>false
structure Dk where
 ds:List Deferred
 wN:Bool
 lo:Nat
 ys:LV→World→Prop
 keep:∀ v w w',jV w w'→ys v w→ys v w'
 top:∀ w,ys .top w
 tot:∀ v w,isNil v=true→ys v w→∀ u,ys u w
def Dk.plain (ds:List Deferred) (mk:Bool) (lo:Nat:=0):Dk:=⟨ds,mk,lo,fun _ _=>True,fun _ _ _ _ _=>trivial,fun _=>trivial,fun _ _ _ _ _=>trivial⟩
def Marks (D:Dk) (ds:List Deferred) (w:World):Prop:=∃ Bs:List Nat,(D.wN=false→Bs=[])∧Bs.Nodup∧ds=Bs.map (fun b=>{ target:=.collected b,args:=#[] })++D.ds∧∀ b∈Bs,D.lo≤b∧w.heap[b]? = some (.deferred (some []))
theorem Marks.keep {D:Dk} {ds:List Deferred} {w w':World} (h:Marks D ds w) (k:jV w w'):Marks D ds w':=by
 obtain ⟨Bs,h1,h2,h3,h4⟩:=h
 exact ⟨Bs,h1,h2,h3,fun b hb=>⟨(h4 b hb).1,k b _ (h4 b hb).2 rfl⟩⟩
theorem Marks.plain (D:Dk) (w:World):Marks D D.ds w:=⟨[],fun _=>rfl,List.nodup_nil,rfl,fun _ h=>by cases h⟩
theorem Marks.none {D:Dk} {ds:List Deferred} {w:World} (h:Marks D ds w) (k:D.wN=false):ds=D.ds:=by
 obtain ⟨Bs,h1,h2,h3,h4⟩:=h
 rw [h1 k] at h3; simpa using h3
structure Sim (G:Nat→Option (List DV)) (D:Dk) (N:Nat) (J:Nat→Prop) (w:World) (ι:Nat→Nat→Option Nat) (a:Act) (get:Nat→LV) (obj:Nat→b_):Prop where
 store:aF G J w ι obj
 env:∀ t,cT J w ι (get t) (a.tmps.getD t Go.undef)
 size:a.tmps.size=N
 defers:Marks D a.defers w
 ys:D.ys (get YS) w
 lim:N≤YS
def gx (dst:Option Nat) (r:LV) (get:Nat→LV) (t:Nat):LV:=if dst=some t then r else get t
theorem zZ (dst:Option Nat) (r:LV) (env:List (Nat×LV)):aW (dU dst r env)=gx dst r (aW env):=by
 funext t
 cases dst with
 | none=>simp [dU,gx]
 | some d=>simp [dU,aW,gx]
theorem Sim.step {G:Nat→Option (List DV)} {D:Dk} {N:Nat} {J:Nat→Prop} {w w':World} {ι:Nat→Nat→Option Nat} {a:Act} {get:Nat→LV} {obj obj':Nat→b_} (S:Sim G D N J w ι a get obj) {dst:Option Nat} (hd:∀ d,dst=some d→d<N) {r:LV} {v:Value}
  (h:aN G obj obj' J ι w r v w'):∃ J' ι',Sim G D N J' w' ι' (a.put dst v) (gx dst r get) obj'∧Ext obj obj' J J' ι ι' w w':=by
 obtain ⟨J',ι',S',hr,E⟩:=h
 have hnc:=E.nc S.store
 refine ⟨J',ι',⟨S',fun t=>?_,?_,?_,?_,S.lim⟩,E⟩
 ·cases dst with
  | none=>simpa [gx,Act.put] using (S.env t).ev S.store E.ev
  | some d=>
    have UB:=hd d rfl
    simp only [gx,Act.put,Option.some.injEq]
    by_cases ht:d=t
    ·subst ht
     rw [if_pos rfl]
     have:(a.tmps.setIfInBounds d v).getD d Go.undef=v:=by simp [Array.getD_eq_getD_getElem?,S.size,UB]
     rw [this]; exact hr
    ·rw [if_neg ht]
     have:(a.tmps.setIfInBounds d v).getD t Go.undef=a.tmps.getD t Go.undef:=by
      simp [Array.getD_eq_getD_getElem?,Array.getElem?_setIfInBounds_ne ht]
     rw [this]; exact (S.env t).ev S.store E.ev
 ·cases dst <;> simp [Act.put,S.size]
 ·have h1:=S.defers.keep hnc
  cases dst <;> exact h1
 ·have h1:=D.keep _ _ _ hnc S.ys
  have h2:gx dst r get YS=get YS:=by
   unfold gx
   rw [if_neg]
   intro h
   have h3:=hd YS h
   have:=S.lim
   omega
  rw [h2]; exact h1
end Dv
namespace Dv
open Go
structure qN where
 tr:List Nat
 td:Option Nat
 r:LV
 rd:List Nat
 ow:List (Nat×aC)
def qN.wr (e:qN):List Nat:=e.ow.map (·.1)
theorem tE:∀ (l:List (Nat×aC)) (obj:Nat→b_) (o:Nat),o∉l.map (·.1)→cL l obj o=obj o
 | [],_,_,_=>rfl
 | (k,ob)::r,obj,o,h=>by
   simp only [List.map_cons,List.mem_cons,not_or] at h
   simp only [cL]; rw [if_neg h.1]; exact tE r obj o h.2
theorem Cw:∀ (l:List (Nat×aC)) (obj obj':Nat→b_) (o:Nat),o∈l.map (·.1)→cL l obj o=cL l obj' o
 | [],_,_,_,h=>by cases h
 | (k,ob)::r,obj,obj',o,h=>by
   simp only [cL]
   by_cases ho:o=k
   ·rw [if_pos ho,if_pos ho]
   ·rw [if_neg ho,if_neg ho]
    exact Cw r obj obj' o (by simpa [ho] using h)
section
variable (E:Nat→qN) (g0:Nat→LV) (o0:Nat→b_)
def jS (D:Nat→Bool):Nat→(Nat→LV)×(Nat→b_)
 | 0=>(g0,o0)
 | k+1=>if D k then (gx (E k).td (E k).r (jS D k).1,cL (E k).ow (jS D k).2) else jS D k
variable {E g0 o0}
theorem CF {D D':Nat→Bool} {t:Nat} : ∀ k,(∀ j,j<k→(E j).td=some t→D j=D' j)→(jS E g0 o0 D k).1 t=(jS E g0 o0 D' k).1 t
 | 0,_=>rfl
 | k+1,h=>by
   have ih:=CF k (fun j hj=>h j (by omega))
   simp only [jS]
   by_cases ht:(E k).td=some t
   ·have:=h k (by omega) ht
    rw [this]
    split
    ·simp [gx,ht]
    ·exact ih
   ·have key:∀ D:Nat→Bool,(if D k=true then (gx (E k).td (E k).r (jS E g0 o0 D k).1,cL (E k).ow (jS E g0 o0 D k).2) else jS E g0 o0 D k).1 t=(jS E g0 o0 D k).1 t:=fun D=>by
     split
     ·simp [gx,ht]
     ·rfl
    rw [key,key]; exact ih
theorem xM {D D':Nat→Bool} {o:Nat} : ∀ k,(∀ j,j<k→o∈(E j).wr→D j=D' j)→(jS E g0 o0 D k).2 o=(jS E g0 o0 D' k).2 o
 | 0,_=>rfl
 | k+1,h=>by
   have ih:=xM k (fun j hj=>h j (by omega))
   simp only [jS]
   by_cases ht:o∈(E k).wr
   ·have:=h k (by omega) ht
    rw [this]
    split
    ·exact Cw _ _ _ _ ht
    ·exact ih
   ·have key:∀ D:Nat→Bool,(if D k=true then (gx (E k).td (E k).r (jS E g0 o0 D k).1,cL (E k).ow (jS E g0 o0 D k).2) else jS E g0 o0 D k).2 o=(jS E g0 o0 D k).2 o:=fun D=>by
     split
     ·exact tE _ _ _ ht
     ·rfl
    rw [key,key]; exact ih
theorem Bq {D:Nat→Bool} {t i:Nat} (hD:D i=true) (ht:(E i).td=some t):∀ k,i<k→(∀ j,i<j→j<k→(E j).td=some t→D j=false)→(jS E g0 o0 D k).1 t=(E i).r
 | 0,h,_=>by omega
 | k+1,h,hl=>by
   simp only [jS]
   by_cases hk:k=i
   ·subst hk; rw [if_pos hD]; simp [gx,ht]
   ·have ih:=Bq hD ht k (by omega) (fun j h1 h2=>hl j h1 (by omega))
    by_cases hkt:(E k).td=some t
    ·have:=hl k (by omega) (by omega) hkt
     rw [if_neg (by simp [this])]; exact ih
    ·split
     ·simpa [gx,hkt] using ih
     ·exact ih
theorem Bp {D:Nat→Bool} {o i:Nat} (hD:D i=true) (ht:o∈(E i).wr):∀ k,i<k→(∀ j,i<j→j<k→o∈(E j).wr→D j=false)→∀ obj,(jS E g0 o0 D k).2 o=cL (E i).ow obj o
 | 0,h,_,_=>by omega
 | k+1,h,hl,obj=>by
   simp only [jS]
   by_cases hk:k=i
   ·subst hk; rw [if_pos hD]; exact Cw _ _ _ _ ht
   ·have ih:=Bp hD ht k (by omega) (fun j h1 h2=>hl j h1 (by omega)) obj
    by_cases hkt:o∈(E k).wr
    ·have:=hl k (by omega) (by omega) hkt
     rw [if_neg (by simp [this])]; exact ih
    ·split
     ·exact (tE _ _ _ hkt).trans ih
     ·exact ih
def vg (x y:qN):Prop:=
 (∃ t,x.td=some t∧(t∈y.tr∨y.td=some t))∨(∃ t,y.td=some t∧t∈x.tr)∨(∃ o,o∈x.wr∧(o∈y.rd∨o∈y.wr))∨(∃ o,o∈y.wr∧o∈x.rd)
variable {n:Nat} {R:Nat→Nat→Prop} (hR:∀ i j,i<j→j<n→vg (E i) (E j)→R i j)
include hR
theorem vA {D:Nat→Bool} (kA:∀ j,j<n→D j=true→∀ i,R i j→D i=true) {i:Nat} (hi:i<n) (zV:D i=false) (jI:∀ k,R k i→D k=true) {t:Nat} (ht:t∈(E i).tr∨(E i).td=some t) :
  (jS E g0 o0 D n).1 t=(jS E g0 o0 (fun j=>decide (j<i)) n).1 t:=by
 refine CF n (fun j hj hjt=>?_)
 rcases Nat.lt_trichotomy j i with h | h | h
 ·rw [jI j (hR j i h hi (.inl ⟨t,hjt,ht⟩))]; simp [h]
 ·subst h; simp [zV]
 ·have:D j=false:=by
   cases UF:D j with
   | false=>rfl
   | true=>
     have hc:vg (E i) (E j):=by
      rcases ht with ht | ht
      ·exact .inr (.inl ⟨t,hjt,ht⟩)
      ·exact .inl ⟨t,ht,.inr hjt⟩
     have:=kA j hj UF i (hR i j h hj hc)
     rw [zV] at this; cases this
  rw [this]; simp; omega
theorem Bo {D:Nat→Bool} (kA:∀ j,j<n→D j=true→∀ i,R i j→D i=true) {i:Nat} (hi:i<n) (zV:D i=false) (jI:∀ k,R k i→D k=true) {o:Nat} (ho:o∈(E i).rd∨o∈(E i).wr) :
  (jS E g0 o0 D n).2 o=(jS E g0 o0 (fun j=>decide (j<i)) n).2 o:=by
 refine xM n (fun j hj hjo=>?_)
 rcases Nat.lt_trichotomy j i with h | h | h
 ·rw [jI j (hR j i h hi (.inr (.inr (.inl ⟨o,hjo,ho⟩))))]; simp [h]
 ·subst h; simp [zV]
 ·have:D j=false:=by
   cases UF:D j with
   | false=>rfl
   | true=>
     have hc:vg (E i) (E j):=by
      rcases ho with ho | ho
      ·exact .inr (.inr (.inr ⟨o,hjo,ho⟩))
      ·exact .inr (.inr (.inl ⟨o,ho,.inr hjo⟩))
     have:=kA j hj UF i (hR i j h hj hc)
     rw [zV] at this; cases this
  rw [this]; simp; omega
theorem I_ {D:Nat→Bool} (kA:∀ j,j<n→D j=true→∀ i,R i j→D i=true) {i:Nat} (hi:i<n) (zV:D i=false) :
  jS E g0 o0 (fun j=>D j||j==i) n=(gx (E i).td (E i).r (jS E g0 o0 D n).1,cL (E i).ow (jS E g0 o0 D n).2):=by
 have Pk:∀ j,i<j→j<n→vg (E i) (E j)→D j=false:=fun j h hj hc=>by
  cases UF:D j with
  | false=>rfl
  | true=>
    have:=kA j hj UF i (hR i j h hj hc)
    rw [zV] at this; cases this
 refine Prod.ext (funext fun t=>?_) (funext fun o=>?_)
 ·simp only [gx]
  by_cases ht:(E i).td=some t
  ·rw [if_pos ht]
   refine Bq (D:=fun j=>D j||j==i) (by simp) ht n hi (fun j h1 h2 hj=>?_)
   have:=Pk j h1 h2 (.inl ⟨t,ht,.inr hj⟩)
   simp [this]; omega
  ·rw [if_neg ht]
   refine CF n (fun j hj hjt=>?_)
   have:j≠i:=fun e=>ht (e ▸ hjt)
   simp [this]
 ·show (jS E g0 o0 (fun j=>D j||j==i) n).2 o=cL (E i).ow (jS E g0 o0 D n).2 o
  by_cases ho:o∈(E i).wr
  ·refine Bp (D:=fun j=>D j||j==i) (by simp) ho n hi (fun j h1 h2 hj=>?_) _
   have:=Pk j h1 h2 (.inr (.inr (.inl ⟨o,ho,.inr hj⟩)))
   simp [this]; omega
  ·rw [tE _ _ _ ho]
   refine xM n (fun j hj hjo=>?_)
   have:j≠i:=fun e=>ho (e ▸ hjo)
   simp [this]
end
theorem count_set:∀ {l:List Bool} {i:Nat},l[i]? = some false→(l.set i true).count false+1=l.count false:=by
 intro l
 induction l with
 | nil=>intro i h; simp at h
 | cons x l ihl=>
   intro i h
   cases i with
   | zero=>simp at h; subst h; simp
   | succ i=>
     have:=ihl (i:=i) (by simpa using h)
     simp only [List.set_cons_succ,List.count_cons]
     omega
theorem Gs {ro:Option Nat} {nn:Nat} {P:Program} {ops:Array Oper} {Q:Exit→Act→World→Prop} {E:Nat→qN} {g0:Nat→LV} {o0:Nat→b_} {R:Nat→Nat→Prop} (Inv:(Nat→LV)→(Nat→b_)→Act→World→Prop) (lo hi:Nat) (hhi:hi≤ops.size)
  (LU:∀ i j,i<hi→hi≤j→j<ops.size→R i j)
  (hR:∀ i j,i<j→j<ops.size→vg (E i) (E j)→R i j)
  (hpre:∀ j o,ops[j]? = some o→∀ i,R i j→∃ e∈o.after,Region.binds .any e=true∧(e.on=i∨R i e.on))
  (hback:∀ j o,ops[j]? = some o→∀ e∈o.after,Region.binds .any e=true→e.on<j)
  (ac4:∀ i j,R i j→i<ops.size)
  (hstep:∀ i g obj,lo≤i→i<hi→(∀ t,t∈(E i).tr∨(E i).td=some t→g t=(jS E g0 o0 (fun j=>decide (j<i)) ops.size).1 t)→(∀ o,o∈(E i).rd∨o∈(E i).wr→obj o=(jS E g0 o0 (fun j=>decide (j<i)) ops.size).2 o)→
   ∀ a w K,Inv g obj a w→(∀ a' w',Inv (gx (E i).td (E i).r g) (cL (E i).ow obj) a' w'→K a' w')→wpOpIn (fz ro) nn P ops Q i K a w)
  (hQ:∀ listed a w,listed.size=ops.size→(∀ j,listed.getD j false=decide (j<hi))→Inv (jS E g0 o0 (fun j=>decide (j<hi)) ops.size).1 (jS E g0 o0 (fun j=>decide (j<hi)) ops.size).2 a w→wpAnyIn (fz ro) nn P .any ops Q (listed.toList.count false) listed a w) :
  ∀ (fuel:Nat) (listed:Array Bool) (a:Act) (w:World),listed.size=ops.size→listed.toList.count false=fuel→(∀ j,listed.getD j false=true→j<hi)→(∀ j,j<lo→listed.getD j false=true)→
    (∀ j o,ops[j]? = some o→listed.getD j false=true→∀ e∈o.after,Region.binds .any e=true→listed.getD e.on false=true)→
    Inv (jS E g0 o0 (fun j=>listed.getD j false) ops.size).1 (jS E g0 o0 (fun j=>listed.getD j false) ops.size).2 a w→
    wpAnyIn (fz ro) nn P .any ops Q fuel listed a w:=by
 intro fuel
 induction fuel with
 | zero=>
   intro listed a w hls hc hlh hlo hcl hI
   have hall:∀ j,j<ops.size→listed.getD j false=true:=by
    intro j hj
    have hjj:j<listed.size:=by omega
    have h1:=List.count_eq_zero.1 hc
    cases hx:listed[j] with
    | true=>simp [hjj,hx]
    | false=>exact absurd (by rw [← hx]; simp) h1
   have hD:(fun j=>listed.getD j false)=fun j=>decide (j<hi):=by
    funext j
    cases hx:listed.getD j false with
    | true=>simp [hlh j hx]
    | false=>
      by_cases hj:j<ops.size
      ·rw [hall j hj] at hx; cases hx
      ·simp; omega
   rw [hD] at hI
   have:=hQ listed a w hls (fun j=>congrFun hD j) hI
   rw [hc] at this; exact this
 | succ fuel ih=>
   intro listed a w hls hc hlh hlo hcl hI
   by_cases hfull:∀ j,j<hi→listed.getD j false=true
   ·have hD:(fun j=>listed.getD j false)=fun j=>decide (j<hi):=by
     funext j
     by_cases hj:j<hi
     ·simp [hfull j hj,hj]
     ·cases hx:listed.getD j false with
      | true=>exact absurd (hlh j hx) hj
      | false=>simp [hj]
    rw [hD] at hI
    have:=hQ listed a w hls (fun j=>congrFun hD j) hI
    rw [hc] at this; exact this
   ·obtain ⟨j0,hj0⟩:=Classical.not_forall.1 hfull
    obtain ⟨hj0,Uy⟩:j0<hi∧listed.getD j0 false=false:=by
     by_cases h:j0<hi
     ·exact ⟨h,by cases hx:listed.getD j0 false with
       | true=>exact absurd (fun _=>hx) hj0
       | false=>rfl⟩
     ·exact absurd (fun h'=>absurd h' h) hj0
    -- closed below
    have kA:∀ j,j<ops.size→listed.getD j false=true→∀ k,R k j→listed.getD k false=true:=by
     intro j
     induction j using Nat.strongRecOn with
     | _ j ihj=>
       intro hj UF k hk
       obtain ⟨e,he,hb,zS⟩:=hpre j _ (Array.getElem?_eq_getElem hj) k hk
       have hlt:=hback j _ (Array.getElem?_eq_getElem hj) e he hb
       have hDe:=hcl j _ (Array.getElem?_eq_getElem hj) UF e he hb
       rcases zS with rfl | zS
       ·exact hDe
       ·exact ihj e.on hlt (by omega) hDe k zS
    have hrd:∀ i o,ops[i]? = some o→(∀ e∈o.after,Region.binds .any e=true→listed.getD e.on false=true)→∀ k,R k i→listed.getD k false=true:=by
     intro i o ho hall k hk
     have hilt:=(Array.getElem?_eq_some_iff.1 ho).1
     obtain ⟨e,he,hb,zS⟩:=hpre i o ho k hk
     have hlt:=hback i o ho e he hb
     rcases zS with rfl | zS
     ·exact hall e he hb
     ·exact kA e.on (by omega) (hall e he hb) k zS
    refine ⟨fun hr=>?_,fun i hi'=>?_⟩
    ·exfalso
     have HP:∀ j,j<ops.size→listed.getD j false=true:=by
      intro j
      induction j using Nat.strongRecOn with
      | _ j ih=>
        intro hj
        cases hl:listed.getD j false with
        | true=>rfl
        | false=>
          have hjj:j<listed.size:=by omega
          have hmem:j∈Region.ready .any ops listed:=by
           rw [mem_ready]
           refine ⟨?_,ops[j],Array.getElem?_eq_getElem hj,fun e he hb=>?_⟩
           ·simp [hjj] at hl ⊢; exact hl
           ·have hlt:=hback j _ (Array.getElem?_eq_getElem hj) e he hb
            exact ih e.on hlt (by omega)
          rw [hr] at hmem; cases hmem
     rw [HP j0 (by omega)] at Uy; cases Uy
    ·rw [mem_ready] at hi'
     obtain ⟨hun,o,ho,hall⟩:=hi'
     have hilt:=(Array.getElem?_eq_some_iff.1 ho).1
     have hil:i<listed.size:=by omega
     have zV:listed.getD i false=false:=by simp [hil] at hun ⊢; exact hun
     have jI:=hrd i o ho hall
     have abF:i<hi:=by
      rcases Nat.lt_or_ge i hi with h | h
      ·exact h
      ·rw [jI j0 (LU j0 i hj0 h hilt)] at Uy; cases Uy
     have acM:lo≤i:=Nat.le_of_not_lt fun h=>by rw [hlo i h] at zV; cases zV
     refine hstep i _ _ acM abF (fun t ht=>vA (D:=fun j=>listed.getD j false) hR kA hilt zV jI ht) (fun q hq=>Bo (D:=fun j=>listed.getD j false) hR kA hilt zV jI hq) a w _ hI (fun a' w' hI'=>?_)
     have hset:∀ j,(listed.setIfInBounds i true).getD j false=(listed.getD j false||j==i):=by
      intro j
      by_cases hj:j=i
      ·subst hj; simp [hil]
      ·rw [getD_set_ne false (fun e=>hj e.symm)]
       simp [hj]
     refine ih (listed.setIfInBounds i true) a' w' (by simpa using hls) ?_ ?_ (fun j hj=>by rw [hset,hlo j hj]; rfl) ?_ ?_
     ·have lI:listed.toList[i]? = some false:=by
       simp [hil] at hun
       simp [hil,hun]
      have:=count_set lI
      rw [Array.toList_setIfInBounds]
      omega
     ·intro j hj
      rw [hset] at hj
      simp only [Bool.or_eq_true,beq_iff_eq] at hj
      rcases hj with hj | rfl
      ·exact hlh j hj
      ·exact abF
     ·intro j oj DQ hj e he hb
      rw [hset] at hj ⊢
      simp only [Bool.or_eq_true,beq_iff_eq] at hj ⊢
      rcases hj with hj | rfl
      ·exact .inl (hcl j oj DQ hj e he hb)
      ·rw [ho] at DQ; cases DQ
       exact .inl (hall e he hb)
     ·have e1:(fun j=>(listed.setIfInBounds i true).getD j false)=(fun j=>listed.getD j false||j==i):=funext hset
      rw [e1,I_ hR kA hilt zV]
      exact hI'
theorem wpAny_done {ro:Option Nat} {nn:Nat} {P:Program} {ops:Array Oper} {Q:Exit→Act→World→Prop} {listed:Array Bool} {a:Act} {w:World} (hls:listed.size=ops.size) (hD:∀ j,listed.getD j false=decide (j<ops.size)) (hQ:Q .normal a w):wpAnyIn (fz ro) nn P .any ops Q (listed.toList.count false) listed a w:=by
 have hc:listed.toList.count false=0:=by
  refine List.count_eq_zero.2 (fun hm=>?_)
  obtain ⟨i,hi,he⟩:=List.mem_iff_getElem.1 hm
  have hi:i<listed.size:=by simpa using hi
  have:=hD i
  rw [show listed.getD i false=listed[i] by simp [hi]] at this
  have he:listed[i]=false:=by simpa using he
  rw [he] at this
  simp at this; omega
 rw [hc]
 refine ⟨?_,hQ⟩
 apply List.eq_nil_iff_forall_not_mem.2
 intro j hj
 rw [mem_ready] at hj
 obtain ⟨h1,o,ho,_⟩:=hj
 have abD:=(Array.getElem?_eq_some_iff.1 ho).1
 have h2:=hD j
 have hjj:j<listed.size:=by omega
 simp [hjj] at h1 h2
 rw [h1] at h2; simp at h2; omega
theorem Kw {ro:Option Nat} {nn:Nat} {P:Program} {ops:Array Oper} {Q:Exit→Act→World→Prop} {R:Nat→Nat→Prop} {p:Nat} (hp:p<ops.size) (LU:∀ j,p<j→j<ops.size→R p j)
  (hpre:∀ j o,ops[j]? = some o→∀ i,R i j→∃ e∈o.after,Region.binds .any e=true∧(e.on=i∨R i e.on))
  (hback:∀ j o,ops[j]? = some o→∀ e∈o.after,Region.binds .any e=true→e.on<j)
  {listed:Array Bool} {a:Act} {w:World} (hls:listed.size=ops.size) (hD:∀ j,listed.getD j false=decide (j<p))
  (h:∀ K:Act→World→Prop,(∀ a' w',(∀ uw:Array Bool,uw.size=ops.size→(∀ j,uw.getD j false=decide (j<p+1))→wpAnyIn (fz ro) nn P .any ops Q (uw.toList.count false) uw a' w')→K a' w')→wpOpIn (fz ro) nn P ops Q p K a w):wpAnyIn (fz ro) nn P .any ops Q (listed.toList.count false) listed a w:=by
 have hlt:∀ j,j<ops.size→∀ i,R i j→i<j:=by
  intro j
  induction j using Nat.strongRecOn with
  | _ j ih=>
    intro hj i hi
    obtain ⟨e,he,hb,zS⟩:=hpre j _ (Array.getElem?_eq_getElem hj) i hi
    have h1:=hback j _ (Array.getElem?_eq_getElem hj) e he hb
    rcases zS with rfl | zS
    ·exact h1
    ·have:=ih e.on h1 (by omega) i zS; omega
 have lZ:p<listed.size:=by omega
 have hpf:listed[p]=false:=by have:=hD p; simpa [lZ] using this
 have lI:listed.toList[p]? = some false:=by simp [lZ,hpf]
 have LR:=count_set lI
 have hset:∀ j,(listed.setIfInBounds p true).getD j false=decide (j<p+1):=by
  intro j
  by_cases hj:j=p
  ·subst hj; simp [lZ]
  ·rw [getD_set_ne false (fun e=>hj e.symm),hD]
   simp; omega
 rw [← Array.toList_setIfInBounds] at LR
 rw [← LR]
 have abn:∀ (i:Nat) (o:Oper),ops[i]? = some o→((∀ e∈o.after,Region.binds .any e=true→listed.getD e.on false=true)↔∀ e∈o.after,Region.binds .any e=true→e.on<p):=fun i o _=>by simp only [hD,decide_eq_true_eq]
 refine ⟨fun hr=>?_,fun i hi=>?_⟩
 ·exfalso
  have:p∈Region.ready .any ops listed:=by
   rw [mem_ready]
   exact ⟨by simp [lZ,hpf],ops[p],Array.getElem?_eq_getElem hp,(abn p _ (Array.getElem?_eq_getElem hp)).2 fun e he hb=>hback p _ (Array.getElem?_eq_getElem hp) e he hb⟩
  rw [hr] at this; cases this
 ·rw [mem_ready] at hi
  obtain ⟨hun,o,ho,hall⟩:=hi
  have hilt:=(Array.getElem?_eq_some_iff.1 ho).1
  have hil:i<listed.size:=by omega
  have zV:listed.getD i false=false:=by simp [hil] at hun ⊢; exact hun
  rw [hD] at zV
  have hip:i=p:=by
   rcases Nat.lt_trichotomy i p with h1 | h1 | h1
   ·simp [h1] at zV
   ·exact h1
   ·obtain ⟨e,he,hb,zS⟩:=hpre i o ho p (LU i h1 hilt)
    have h2:=(abn i o ho).1 hall e he hb
    rcases zS with h3 | h3
    ·omega
    ·have:=hlt e.on (by omega) p h3; omega
  subst hip
  exact h _ fun a' w' hk=>hk _ (by simpa using hls) hset
theorem Kv {ro:Option Nat} {nn:Nat} {P:Program} {ops:Array Oper} {Q:Exit→Act→World→Prop} {E:Nat→qN} {g0:Nat→LV} {o0:Nat→b_} {R:Nat→Nat→Prop} (Inv:(Nat→LV)→(Nat→b_)→Act→World→Prop) (lo p:Nat) (hp:p<ops.size)
  (hR:∀ i j,i<j→j<ops.size→vg (E i) (E j)→R i j)
  (hpre:∀ j o,ops[j]? = some o→∀ i,R i j→∃ e∈o.after,Region.binds .any e=true∧(e.on=i∨R i e.on))
  (hback:∀ j o,ops[j]? = some o→∀ e∈o.after,Region.binds .any e=true→e.on<j)
  (ac4:∀ i j,R i j→i<ops.size)
  (hstep:∀ i g obj,lo≤i→i<ops.size→i≠p→¬ R p i→(∀ t,t∈(E i).tr∨(E i).td=some t→g t=(jS E g0 o0 (fun j=>decide (j<i)) ops.size).1 t)→(∀ o,o∈(E i).rd∨o∈(E i).wr→obj o=(jS E g0 o0 (fun j=>decide (j<i)) ops.size).2 o)→
   ∀ a w K,Inv g obj a w→(∀ a' w',Inv (gx (E i).td (E i).r g) (cL (E i).ow obj) a' w'→K a' w')→wpOpIn (fz ro) nn P ops Q i K a w)
  (acH:∀ j,j<ops.size→(E j).wr≠[]→R j p∧j<p)
  (Pd:∀ g obj,(∀ t,t∈(E p).tr→g t=(jS E g0 o0 (fun j=>decide (j<p)) ops.size).1 t)→obj=(jS E g0 o0 (fun j=>decide (j<p)) ops.size).2→∀ a w K,Inv g obj a w→wpOpIn (fz ro) nn P ops Q p K a w) :
  ∀ (fuel:Nat) (listed:Array Bool) (a:Act) (w:World),listed.size=ops.size→listed.toList.count false=fuel→
    (∀ j o,ops[j]? = some o→listed.getD j false=true→∀ e∈o.after,Region.binds .any e=true→listed.getD e.on false=true)→
    (∀ j,j<lo→listed.getD j false=true)→listed.getD p false=false→Inv (jS E g0 o0 (fun j=>listed.getD j false) ops.size).1 (jS E g0 o0 (fun j=>listed.getD j false) ops.size).2 a w→
    wpAnyIn (fz ro) nn P .any ops Q fuel listed a w:=by
 -- what is ready,when all is listed
 have HP:∀ listed:Array Bool,listed.size=ops.size→Region.ready .any ops listed=[]→∀ j,j<ops.size→listed.getD j false=true:=by
  intro listed hls hr j
  induction j using Nat.strongRecOn with
  | _ j ih=>
    intro hj
    cases hl:listed.getD j false with
    | true=>rfl
    | false=>
      have hjj:j<listed.size:=by omega
      have hmem:j∈Region.ready .any ops listed:=by
       rw [mem_ready]
       refine ⟨?_,ops[j],Array.getElem?_eq_getElem hj,fun e he hb=>?_⟩
       ·simp [hjj] at hl ⊢; exact hl
       ·have hlt:=hback j _ (Array.getElem?_eq_getElem hj) e he hb
        exact ih e.on hlt (by omega)
      rw [hr] at hmem; cases hmem
 intro fuel
 induction fuel with
 | zero=>
   intro listed a w hls hc hcl hlo hDp hI
   exfalso
   have h1:=List.count_eq_zero.1 hc
   have hjj:p<listed.size:=by omega
   have:listed[p]=false:=by simpa [hjj] using hDp
   exact h1 (by rw [← this]; simp)
 | succ fuel ih=>
   intro listed a w hls hc hcl hlo hDp hI
   refine ⟨fun hr=>(by have:=HP listed hls hr p hp; rw [hDp] at this; cases this),fun i hi=>?_⟩
   rw [mem_ready] at hi
   obtain ⟨hun,o,ho,hall⟩:=hi
   have hilt:=(Array.getElem?_eq_some_iff.1 ho).1
   have hil:i<listed.size:=by omega
   have zV:listed.getD i false=false:=by simp [hil] at hun ⊢; exact hun
   -- closed below
   have kA:∀ j,j<ops.size→listed.getD j false=true→∀ k,R k j→listed.getD k false=true:=by
    intro j
    induction j using Nat.strongRecOn with
    | _ j ihj=>
      intro hj UF k hk
      obtain ⟨e,he,hb,zS⟩:=hpre j _ (Array.getElem?_eq_getElem hj) k hk
      have hlt:=hback j _ (Array.getElem?_eq_getElem hj) e he hb
      have hDe:=hcl j _ (Array.getElem?_eq_getElem hj) UF e he hb
      rcases zS with rfl | zS
      ·exact hDe
      ·exact ihj e.on hlt (by omega) hDe k zS
   have jI:∀ k,R k i→listed.getD k false=true:=by
    intro k hk
    obtain ⟨e,he,hb,zS⟩:=hpre i o ho k hk
    have hlt:=hback i o ho e he hb
    rcases zS with rfl | zS
    ·exact hall e he hb
    ·exact kA e.on (by omega) (hall e he hb) k zS
   by_cases hip:i=p
   ·subst hip
    refine Pd _ _ (fun t ht=>vA (D:=fun j=>listed.getD j false) hR kA hilt zV jI (.inl ht)) (funext fun o=>?_) a w _ hI
    refine xM _ (fun j hj hjo=>?_)
    obtain ⟨h1,h2⟩:=acH j hj (List.ne_nil_of_mem hjo)
    rw [jI j h1]; simp [h2]
   have hRp:¬ R p i:=fun h=>by have:=jI p h; rw [hDp] at this; cases this
   refine hstep i _ _ (Nat.le_of_not_lt fun h=>by rw [hlo i h] at zV; cases zV) hilt hip hRp (fun t ht=>vA (D:=fun j=>listed.getD j false) hR kA hilt zV jI ht) (fun q hq=>Bo (D:=fun j=>listed.getD j false) hR kA hilt zV jI hq) a w _ hI (fun a' w' hI'=>?_)
   have hset:∀ j,(listed.setIfInBounds i true).getD j false=(listed.getD j false||j==i):=by
    intro j
    by_cases hj:j=i
    ·subst hj; simp [hil]
    ·rw [getD_set_ne false (fun e=>hj e.symm)]
     simp [hj]
   refine ih (listed.setIfInBounds i true) a' w' (by simpa using hls) ?_ ?_ (fun j hj=>by rw [hset,hlo j hj]; rfl) (by rw [hset,hDp]; simpa using fun e=>hip e.symm) ?_
   ·have lI:listed.toList[i]? = some false:=by
     simp [hil] at hun
     simp [hil,hun]
    have:=count_set lI
    rw [Array.toList_setIfInBounds]
    omega
   ·intro j oj DQ hj e he hb
    rw [hset] at hj ⊢
    simp only [Bool.or_eq_true,beq_iff_eq] at hj ⊢
    rcases hj with hj | rfl
    ·exact .inl (hcl j oj DQ hj e he hb)
    ·rw [ho] at DQ; cases DQ
     exact .inl (hall e he hb)
   ·have e1:(fun j=>(listed.setIfInBounds i true).getD j false)=(fun j=>listed.getD j false||j==i):=funext hset
    rw [e1,I_ hR kA hilt zV]
    exact hI'
end Dv
namespace Dv
open Go
section
variable {P:Program} {G:Nat→Option (List DV)} {get get':Nat→LV} {obj obj':Nat→b_} {base:Nat}
theorem bM.cW {x:bM} (h:∀ t∈x.tmps,get' t=get t):x.ev G get'=x.ev G get:=by
 cases x with
 | t n=>exact h n (by simp [bM.tmps])
 | _=>rfl
theorem nJ:∀ {xs:List bM},(∀ t∈xs.flatMap bM.tmps,get' t=get t)→xs.map (·.ev G get')=xs.map (·.ev G get)
 | [],_=>rfl
 | x::xs,h=>by
   simp only [List.flatMap_cons,List.mem_append] at h
   simp only [List.map_cons]
   rw [bM.cW (fun t ht=>h t (.inl ht)),nJ (fun t ht=>h t (.inr ht))]
theorem wY:∀ {parts:List (Nat×Nat×bM)} {cells:List LV},(∀ t∈parts.flatMap (fun p=>p.2.2.tmps),get' t=get t)→sn G get' cells parts=sn G get cells parts
 | [],_,_=>rfl
 | (off,size,x)::rest,cells,h=>by
   simp only [List.flatMap_cons,List.mem_append] at h
   simp only [sn]
   rw [bM.cW (fun t ht=>h t (.inl ht))]
   cases (x.ev G get).cells with
   | none=>rfl
   | some cs=>
     dsimp only
     split
     ·exact wY (fun t ht=>h t (.inr ht))
     ·rfl
theorem xl {aJ:Nat} : ∀ {xs:List bM},(∀ t∈xs.flatMap bM.tmps,get' t=get t)→uZ G get' aJ xs=uZ G get aJ xs
 | [],_=>rfl
 | x::xs,h=>by
   simp only [List.flatMap_cons,List.mem_append] at h
   simp only [uZ]
   rw [bM.cW (fun t ht=>h t (.inl ht)),xl (fun t ht=>h t (.inr ht))]
theorem tS {aJ:Nat} : ∀ {xs:List bM},(∀ t∈xs.flatMap bM.tmps,get' t=get t)→rowsOf G get' aJ xs=rowsOf G get aJ xs
 | [],_=>rfl
 | x::xs,h=>by
   simp only [List.flatMap_cons,List.mem_append] at h
   simp only [rowsOf]
   rw [bM.cW (fun t ht=>h t (.inl ht)),tS (fun t ht=>h t (.inr ht))]
theorem EI:∀ {xs:List bM},(∀ t∈xs.flatMap bM.tmps,get' t=get t)→zh G get' xs=zh G get xs
 | [],_=>rfl
 | [x],h=>by
   simp only [List.flatMap_cons,List.mem_append] at h
   simp only [zh]
   rw [bM.cW (fun t ht=>h t (.inl ht))]
 | _::_::_,_=>rfl
theorem jE:∀ {o:Option bM},(∀ t∈bM.wJ o,get' t=get t)→o.map (·.ev G get')=o.map (·.ev G get)
 | none,_=>rfl
 | some x,h=>by simp only [Option.map_some]; rw [bM.cW h]
theorem Qb {m:M} (h:∀ t∈m.tmps,get' t=get t):fA G get' obj base m=fA G get obj base m:=by
 cases m <;> simp only [M.tmps,List.mem_append] at h <;> simp only [fA] <;> first
  | (rw [bM.cW h]; done)
  | (rw [bM.cW (fun t ht=>h t (.inl ht)),bM.cW (fun t ht=>h t (.inr ht))]; done)
  | (rw [bM.cW (fun t ht=>h t (.inl (.inl ht))),jE (fun t ht=>h t (.inl (.inr ht))),jE (fun t ht=>h t (.inr ht))]; done)
  | (rw [bM.cW (fun t ht=>h t (.inl (.inl ht))),bM.cW (fun t ht=>h t (.inl (.inr ht))),bM.cW (fun t ht=>h t (.inr ht))]; done)
theorem Qd {i:I} (h:∀ t∈i.tmps,get' t=get t):cE G get' obj base i=cE G get obj base i:=by
 cases i <;> simp only [I.tmps,List.mem_append] at h <;> simp only [cE] <;> first
  | rfl
  | exact Qb h
  | (rw [bM.cW h]; done)
  | (rw [bM.cW (fun t ht=>h t (.inl ht)),bM.cW (fun t ht=>h t (.inr ht))]; done)
  | (rw [bM.cW (fun t ht=>h t (.inl (.inl ht))),bM.cW (fun t ht=>h t (.inl (.inr ht))),bM.cW (fun t ht=>h t (.inr ht))]; done)
  | (rw [wY h]; done)
  | (rw [tS h,xl h,EI h]; done)
  | (rw [nJ (fun t ht=>h t (.inl ht)),nJ (fun t ht=>h t (.inr ht))]; done)
  | (rw [bM.cW (fun t ht=>h t (.inl (.inl (.inl ht)))),jE (fun t ht=>h t (.inl (.inl (.inr ht)))),jE (fun t ht=>h t (.inl (.inr ht))),jE (fun t ht=>h t (.inr ht))]; done)
  | (rw [bM.cW (fun t ht=>h t (.inl (.inl ht))),jE (fun t ht=>h t (.inl (.inr ht))),jE (fun t ht=>h t (.inr ht))]; done)
theorem jW {aJ:Nat} {y:LV} {new:List (List DV)} {rd:List Nat} (h:aV obj aJ y=some (new,rd)) (ho:∀ o∈rd,obj' o=obj o):aV obj' aJ y=some (new,rd):=by
 cases y with
 | sl o n e lo len=>
   simp only [aV] at h ⊢
   have:rd=[o]:=by grind
   subst this
   rw [ho o (by simp)]; exact h
 | d x=>
   have:aV obj' aJ (.d x)=aV obj aJ (.d x):=by
    cases x with
    | val v=>
      cases v with
      | slice a n c=>cases a <;> cases n <;> cases c <;> rfl
      | _=>rfl
    | _=>rfl
   rw [this]; exact h
 | _=>exact h
theorem Qa {m:M} {e:eV} (h:fA G get obj base m=some e) (ho:∀ o∈e.rd,obj' o=obj o):fA G get obj' base m=some e:=by
 cases m with
 | sla n x lo hi=>
   simp only [fA] at h ⊢
   cases hx:x.ev G get with
   | ptr o col=>grind
   | _=>grind
 | cpy x y=>
   simp only [fA] at h ⊢
   cases hs:aV obj 1 (y.ev G get) with
   | none=>grind
   | some p=>
     obtain ⟨new,rd⟩:=p
     rw [hs] at h; dsimp only at h
     split at h
     ·rename_i o lo len hx
      have hh:e.rd=o::rd:=by grind
      rw [jW hs (fun q hq=>ho q (by grind))]
      dsimp only
      rw [ho o (by simp [hh])]; exact h
     ·rename_i o n lo len hno hx
      have hh:e.rd=o::rd:=by grind
      rw [jW hs (fun q hq=>ho q (by grind))]
      cases n with
      | zero=>grind
      | succ n=>grind
     ·cases h
 | stk=>cases h
 | cpl x=>exact h
 | clr aJ z x=>
   simp only [fA] at h ⊢
   cases hx:x.ev G get with
   | sl o n e0 lo len=>grind
   | d v=>grind
   | _=>grind
 | atl x=>
   simp only [fA] at h ⊢
   cases hx:x.ev G get with
   | ptr o col=>grind
   | _=>grind
 | ata x y=>
   simp only [fA] at h ⊢
   split at h
   ·grind
   ·cases h
 | mkm=>exact h
 | mup x k y=>
   simp only [fA] at h ⊢
   split at h
   ·grind
   ·cases h
 | mlk z ok x k=>
   simp only [fA] at h ⊢
   split at h
   ·grind
   ·cases h
 | wN et aJ bytes z n=>exact h
 | s2b x=>exact h
 | b2s x=>
   simp only [fA] at h ⊢
   split at h
   ·cases h
   ·rename_i hns
    cases hs:aV obj 1 (x.ev G get) with
    | none=>grind
    | some p=>
      obtain ⟨rows,rd⟩:=p
      rw [hs] at h; dsimp only at h
      have hh:e.rd=rd:=by grind
      rw [jW hs (fun q hq=>ho q (by grind))]
      dsimp only
      rw [← h]
      try (split <;> first | rfl | (rename_i s hx; exact absurd hx (hns s)))
theorem HZ {x:LV} {o:Nat} {ob:aC} {d:DV} (h:qC obj x=some (o,ob,d)) (ho:obj' o=obj o):qC obj' x=some (o,ob,d):=by
 unfold qC at h ⊢
 split at h
 ·grind
 ·cases h
theorem Nh {aJ m s:Nat} {y:LV} {new:List LV} (h:Ef obj aJ y=some (new,m,s)) (ho:obj' s=obj s):Ef obj' aJ y=some (new,m,s)∧aV obj' aJ y=none:=by
 unfold Ef at h
 split at h
 ·rename_i o n e lo len
  split at h
  ·rename_i et e' v cells en
   split at h
   ·rename_i hc
    cases h
    rw [en] at ho
    simp only [Ef,aV,ho]
    rw [if_pos hc]
    exact ⟨rfl,trivial⟩
   ·cases h
  ·cases h
 ·cases h
theorem Qc {i:I} {e:eV} (h:cE G get obj base i=some e) (ho:∀ o∈e.rd,obj' o=obj o):cE G get obj' base i=some e:=by
 cases i with
 | Yh et aJ parts=>
   simp only [cE] at h ⊢
   cases hr:rowsOf G get aJ parts with
   | some rows=>grind
   | none=>
     rw [hr] at h; dsimp only at h ⊢
     cases hx:zh G get parts with
     | none=>grind
     | some x=>
       rw [hx] at h; dsimp only at h ⊢
       split at h
       ·rename_i h1
        rw [if_pos h1]
        split at h
        ·rename_i o ob d hf
         cases h
         rw [HZ hf (ho o (by simp))]
        ·cases h
       ·cases h
 | ld1 x=>
   simp only [cE] at h ⊢
   cases hx:x.ev G get with
   | ptr o col=>grind
   | rp o n aJ row col=>
     rw [hx] at h; dsimp only at h ⊢
     have:e.rd=[o]:=by grind
     rw [ho o (by simp [this])]; exact h
   | _=>grind
 | Jw size x=>
   simp only [cE] at h ⊢
   cases hx:x.ev G get with
   | ptr o col=>grind
   | rp o n aJ row col=>grind
   | _=>grind
 | st size x y=>
   simp only [cE] at h ⊢
   cases hy:(y.ev G get).cells with
   | none=>grind
   | some cs=>
     rw [hy] at h; dsimp only at h ⊢
     split at h
     ·rename_i hl
      rw [if_pos hl]
      cases hx:x.ev G get with
      | ptr o col=>grind
      | rp o n aJ row col=>
        rw [hx] at h; dsimp only at h ⊢
        have:e.rd=[o]:=by grind
        rw [ho o (by simp [this])]; exact h
      | _=>grind
     ·cases h
 | QJ aJ x j=>
   simp only [cE] at h ⊢
   split at h
   ·grind
   ·cases h
 | app et aJ bytes x y=>
   simp only [cE] at h ⊢
   cases hs:aV obj aJ (y.ev G get) with
   | none=>
     rw [hs] at h; dsimp only at h
     unfold Qu at h
     cases hL:Ef obj aJ (y.ev G get) with
     | none=>rw [hL] at h; cases h
     | some p=>
       obtain ⟨new,m,s⟩:=p
       rw [hL] at h; dsimp only at h
       have hsr:s∈e.rd:=by (repeat' split at h) <;> (try (cases h; done)) <;> cases h <;> simp
       obtain ⟨k1,k2⟩:=Nh hL (ho s hsr)
       rw [k2]; dsimp only; unfold Qu; rw [k1]; dsimp only
       cases hx:x.ev G get with
       | sl o n e' lo len=>
         rw [hx] at h; dsimp only at h ⊢
         have:o∈e.rd:=by (repeat' split at h) <;> (try (cases h; done)) <;> cases h <;> simp
         rw [ho o this]; exact h
       | d z=>
         rw [hx] at h
         cases z with
         | val v=>grind
         | _=>exact h
       | _=>rw [hx] at h; exact h
   | some p=>
     obtain ⟨new,rd⟩:=p
     rw [hs] at h; dsimp only at h
     cases hx:x.ev G get with
     | sl o n e' lo len=>
       rw [hx] at h; dsimp only at h
       have hh:e.rd=o::rd:=by grind
       rw [jW hs (fun q hq=>ho q (by grind))]
       dsimp only
       rw [ho o (by simp [hh])]; exact h
     | d z=>
       have hrd:e.rd=rd:=by grind
       have hsr:aV obj' aJ (y.ev G get)=some (new,rd):=jW hs (by grind)
       rw [hsr]; dsimp only
       rw [← h,hx]
       cases z with
       | val v=>grind
       | _=>rfl
     | _=>grind
 | more m=>exact Qa h ho
 | _=>exact h
mutual
theorem F5 {ρ Z:List Nat} (hZ:∀ z∈Z,obj' z=obj z):∀ (x y:LV),ah obj ρ Z x y→ah obj' ρ Z x y:=by
 intro x y h
 cases x with
 | sl o n e l k=>
   cases y with
   | d y=>
     cases y with
     | dK e' rs=>
       simp only [ah] at h ⊢
       refine ⟨h.1,?_⟩
       have h2:=h.2
       have hoZ:o∈Z:=by
        unfold bB at h2
        split at h2
        ·exact h2.1
        ·exact h2.1
        ·exact h2.1
        ·exact h2.1
        ·exact h2.elim
       unfold bB at h2 ⊢
       rw [hZ o hoZ]; exact h2
     | _=>simp [ah] at h
   | top=>simp [ah]
   | sl _ _ _ _ _=>simp only [ah] at h ⊢; exact h
   | _=>simp [ah] at h
 | agg xs=>
   cases y with
   | agg ys=>simp only [ah] at h ⊢; exact jL hZ xs ys h
   | top=>simp [ah]
   | _=>simp [ah] at h
 | dH xs=>
   cases y with
   | dH ys=>simp only [ah] at h ⊢; exact jL hZ xs ys h
   | top=>simp [ah]
   | _=>simp [ah] at h
 | fn f a b=>
   cases y with
   | fn f' a' b'=>simp only [ah] at h ⊢; exact ⟨h.1,jL hZ a a' h.2.1,jL hZ b b' h.2.2⟩
   | top=>simp [ah]
   | _=>simp [ah] at h
 | fL t x=>
   cases y with
   | fL t' y=>simp only [ah] at h ⊢; exact ⟨h.1,F5 hZ x y h.2⟩
   | top=>simp [ah]
   | _=>simp [ah] at h
 | d x=>
   cases y with
   | d y=>simp only [ah] at h ⊢; exact h
   | top=>simp [ah]
   | fn f' a' b'=>cases x <;> first | (simp only [ah] at h ⊢; exact h) | (simp [ah] at h)
   | _=>cases x <;> simp [ah] at h
 | yl o=>cases y <;> first | (simp only [ah] at h ⊢; exact h) | (simp [ah] at h ⊢)
 | mr o=>cases y <;> first | (simp only [ah] at h ⊢; exact h) | (simp [ah] at h ⊢)
 | ptr o c=>cases y <;> first | (simp only [ah] at h ⊢; exact h) | (simp [ah] at h ⊢)
 | rp o n e r c=>cases y <;> first | (simp only [ah] at h ⊢; exact h) | (simp [ah] at h ⊢)
 | ip r c=>cases y <;> first | (simp only [ah] at h ⊢; exact h) | (simp [ah] at h ⊢)
 | top=>cases y <;> first | (simp only [ah] at h ⊢; exact h) | (simp [ah] at h ⊢)
 | dM=>cases y <;> first | (simp only [ah] at h ⊢; done) | (simp only [ah] at h ⊢; exact h) | (simp [ah] at h ⊢)
theorem jL {ρ Z:List Nat} (hZ:∀ z∈Z,obj' z=obj z):∀ (xs ys:List LV),ag obj ρ Z xs ys→ag obj' ρ Z xs ys
 | [],[],_=>by simp [ag]
 | x::xs,y::ys,h=>by
   simp only [ag] at h ⊢
   exact ⟨F5 hZ x y h.1,jL hZ xs ys h.2⟩
 | [],_::_,h=>by simp [ag] at h
 | _::_,[],h=>by simp [ag] at h
end
theorem sX:∀ {Z:List Nat},(∀ z∈Z,obj' z=obj z)→gh obj' Z=gh obj Z
 | [],_=>rfl
 | z::Z,h=>by
   simp only [gh]
   rw [h z (by simp),sX (fun y hy=>h y (by simp [hy]))]
theorem kN.local {i:I} {e:eV} (h:kN P G get obj base i e) (hg:∀ t∈i.tmps,get' t=get t) (ho:∀ o∈e.rd,obj' o=obj o):kN P G get' obj' base i e:=by
 by_cases hi:∃ f args,i=.call f args
 ·obtain ⟨f,args,rfl⟩:=hi
  simp only [I.tmps,List.mem_append] at hg
  simp only [kN] at h ⊢
  rw [bM.cW (fun t ht=>hg t (.inl ht)),nJ (fun t ht=>hg t (.inr ht))]
  split at h
  ·rename_i k fs cs hc
   obtain ⟨ρ,Z,tmp,aS,aH,r,aq,keep,hkeep,hn,hz,Ds,hl,en,hid,uF,Fk,hle,Dt,rfl⟩:=h.ex
   simp only [List.mem_append] at ho
   have hZ:∀ z∈Z,obj' z=obj z:=fun z hz=>ho z (.inr hz)
   refine ⟨⟨ρ,Z,tmp,aS,aH,r,aq,keep,hkeep,hn,hz,fun z hz=>by simp_all,hl,fun i o oW=>?_,hid,jL hZ _ _ uF,Fk,hle,Dt,by rw [sX hZ]⟩⟩
   obtain ⟨ob,k1,k2⟩:=en i o oW
   exact ⟨ob,k1,by grind⟩
  ·exact h.elim
 ·have e1:∀ get obj,kN P G get obj base i e=(cE G get obj base i=some e):=fun get obj=>by
   cases i <;> first | rfl | (exfalso; exact hi ⟨_,_,rfl⟩)
  rw [e1] at h ⊢
  rw [Qd hg]
  exact Qc h ho
theorem fe.local {f:Nat} {args args':List LV} {p:Value} {e:eV} (h:fe P G f args obj base p e) (ha:args'=args) (ho:∀ o∈e.rd,obj' o=obj o):fe P G f args' obj' base p e:=by
 subst ha
 obtain ⟨ρ,Z,aS,aH,aq,hn,hz,Ds,hl,en,hid,uF,hle,Dt,rfl⟩:=h.ex
 simp only [List.mem_append] at ho
 have hZ:∀ z∈Z,obj' z=obj z:=fun z hz=>ho z (.inr hz)
 refine ⟨⟨ρ,Z,aS,aH,aq,hn,hz,fun z hz=>by grind,hl,fun i o oW=>?_,hid,jL hZ _ _ uF,hle,Dt,by rw [sX hZ]⟩⟩
 obtain ⟨ob,k1,k2⟩:=en i o oW
 exact ⟨ob,k1,by grind⟩
end
end Dv
namespace Dv
open Go
structure iH where
 pre:List Nat
 rd:List Nat
 wr:List Nat
def dY.tr (o:dY):List Nat:=o.op.tmps++(match o.guard with | some (g,_)=>[g] | none=>[])
def EK:Nat→List aC→List (Nat×aC)
 | _,[]=>[]
 | k,ob::r=>(k,ob)::EK (k+1) r
theorem uj:∀ (l:List aC) (k:Nat) (obj:Nat→b_),pq k l obj=cL (EK k l) obj
 | [],_,_=>rfl
 | ob::r,k,obj=>by simp only [pq,EK,cL,uj r]
theorem Jk:∀ (l:List aC) (k j:Nat),j<l.length→k+j∈(EK k l).map (·.1)
 | [],_,_,h=>by simp at h
 | ob::r,k,0,_=>by simp [EK]
 | ob::r,k,j+1,h=>by
   have:=Jk r (k+1) j (by simpa using h)
   simp only [EK,List.map_cons,List.mem_cons]
   right
   rw [show k+(j+1)=k+1+j by omega]; exact this
def eV.owned (base:Nat) (e:eV):List (Nat×aC):=EK base e.nw++e.wr
section
variable (P:Program) (G:Nat→Option (List DV))
abbrev YO:=List LV→List (Option aC)→LV→(LV→Bool→List (Option aC)→Prop)→Prop
def qZ:YO:=fun _ _ _ _=>False
def vcY (Y:YO) (fv:LV) (as:List LV) (dst:Option Nat) (s:St) (K:St→Prop):Prop:=match fv with
 | .yl oy=>Y (.yl oy::as) s.af (s.get YS) (fun ys b ay=>K ⟨dU dst (.bool b) ((YS,ys)::s.env),ay⟩)
 | _=>False
def ym (Y:YO) (X:Value→eV→St→Prop) (o:dY) (s:St) (K:St→eV→Prop):Prop:=
 match o.op with
 | .call f args=>match callee (f.ev G s.get) with
   | some (k,fs,cs)=>(∃ e,cm P G k (fs++args.map (·.ev G s.get)++cs) s.obj s.af.length e∧K (s.app o.dst e) e)∨
     (∃ p e,fe P G k (fs++args.map (·.ev G s.get)++cs) s.obj s.af.length p e∧X p e (s.app none e))
   | none=>vcY Y (f.ev G s.get) (args.map (·.ev G s.get)) o.dst s (fun s'=>K s' { r:=.top })
 | i=>match cE G s.get s.obj s.af.length i with
   | some e=>K (s.app o.dst e) e
   | none=>False
def yj (Y:YO) (X:Value→eV→St→Prop) (o:dY) (s:St) (K:St→eV→Prop) (K0:St→Prop):Prop:=
 match o.guard with
 | none=>ym P G Y X o s K
 | some (g,want)=>match s.get g with
   | .d (.val (.bool b))=>if b=want then ym P G Y X o s K else K0 (s.put o.dst .undef)
   | .d (.val (.tuple _))=>K0 (s.put o.dst .undef)
   | _=>False
def gy (Y:YO) (X:Value→St→Prop):List dY→St→(St→Prop)→Prop
 | [],s,K=>K s
 | o::os,s,K=>yj P G Y (fun p _ s'=>X p s') o s (fun s' _=>gy Y X os s' K) (fun s'=>gy Y X os s' K)
def Ay (x y:iH):Bool:=x.wr.any (fun o=>y.rd.contains o||y.wr.contains o)||y.wr.any (fun o=>x.rd.contains o)
def indep (log:List iH):Bool:=
 (log.all fun e=>e.wr.isEmpty)||(List.range log.length).all fun j=>match log[j]? with
  | none=>true
  | some y=>(List.range j).all fun i=>match log[i]? with
    | none=>true
    | some x=>y.pre.contains i||!Ay x y
def EF (log:List iH) (p:Nat) (pre:List Nat):Bool:=
 (pre.all fun i=>decide (i<p))&&(List.range log.length).all fun i=>pre.contains i||(match log[i]? with | some x=>x.wr.isEmpty | none=>true)
def pI (p:Nat) (pre:List Nat):List dY→St→List iH→Prop
 | [],_,log=>indep log=true∧EF log p pre=true
 | o::os,s,log=>if o.pre.contains p=true then pI p pre os (s.put o.dst .top) (log++[⟨o.pre,[],[]⟩])
   else yj P G qZ (fun _ _ _=>False) o s (fun s' e=>pI p pre os s' (log++[⟨o.pre,e.rd,(e.owned s.af.length).map (·.1)⟩])) (fun s'=>pI p pre os s' (log++[⟨o.pre,[],[]⟩]))
def eM (X:Value→St→Prop):List dY→St→List iH→(St→List iH→Prop)→Prop
 | [],s,log,K=>K s log
 | o::os,s,log,K=>yj P G qZ (fun p e s'=>X p ⟨[],s'.af⟩∧pI P G log.length o.pre os (s.put o.dst .top) (log++[⟨o.pre,e.rd,[]⟩])) o s
    (fun s' e=>eM X os s' (log++[⟨o.pre,e.rd,(e.owned s.af.length).map (·.1)⟩]) K) (fun s'=>eM X os s' (log++[⟨o.pre,[],[]⟩]) K)
end
theorem zM {log:List iH} (h:indep log=true) {i j:Nat} {x y:iH} (hi:log[i]? = some x) (hj:log[j]? = some y) (hij:i<j) (hc:Ay x y=true):i∈y.pre:=by
 unfold indep at h
 rw [Bool.or_eq_true] at h
 rcases h with h | h
 ·rw [List.all_eq_true] at h
  have h1:=h x (List.mem_of_getElem? hi)
  have h2:=h y (List.mem_of_getElem? hj)
  simp only [List.isEmpty_iff] at h1 h2
  simp [Ay,h1,h2] at hc
 ·rw [List.all_eq_true] at h
  have hjl:=(List.getElem?_eq_some_iff.1 hj).1
  have h1:=h j (by simpa using hjl)
  rw [hj] at h1
  dsimp only at h1
  rw [List.all_eq_true] at h1
  have h2:=h1 i (by simpa using hij)
  rw [hi] at h2
  simp only [hc,Bool.not_true,Bool.or_false,List.contains_iff_mem] at h2
  exact h2
def FM (N:Nat):Option Nat→Bool
 | none=>true
 | some d=>decide (d<N)
def uV (N:Nat) (ops:Array Oper):Option (Nat×Bool)→Option (Option (Nat×Bool))
 | none=>some none
 | some (j,want)=>match ops[j]? with
   | some oj=>match oj.dst with
     | some t=>if t<N then some (some (t,want)) else none
     | none=>none
   | none=>none
def gp (P:Program) (N:Nat) (ops:Array Oper) (o:Oper) (pre:List Nat):Option dY:=
 if FM N o.dst then (match mK P o.op,uV N ops o.guard with
  | some i,some g=>some ⟨o.dst,i,g,pre⟩
  | _,_=>none) else none
def rA (P:Program) (N:Nat) (ops:Array Oper):List Oper→List (List Nat)→Option (List dY)
 | [],_=>some []
 | o::os,ps=>match gp P N ops o (ps.headD []),rA P N ops os ps.tail with
   | some x,some xs=>some (x::xs)
   | _,_=>none
theorem mJ {P:Program} {N:Nat} {ops:Array Oper} : ∀ {os:List Oper} {ps:List (List Nat)} {fF:List dY},rA P N ops os ps=some fF→fF.length=os.length∧∀ (i:Nat) (o:Oper),os[i]? = some o→∃ io,fF[i]? = some io∧gp P N ops o io.pre=some io
 | [],ps,fF,h=>by simp only [rA] at h; cases h; exact ⟨rfl,fun i o h=>by simp at h⟩
 | o::os,ps,fF,h=>by
   simp only [rA] at h
   split at h
   ·rename_i x xs h1 h2
    cases h
    obtain ⟨k1,k2⟩:=mJ h2
    refine ⟨by simp [k1],fun i o' hi=>?_⟩
    cases i with
    | zero=>
      simp at hi; subst hi
      refine ⟨x,by simp,?_⟩
      have:x.pre=ps.headD []:=by
       unfold gp at h1
       split at h1
       ·split at h1
        ·cases h1; rfl
        ·cases h1
       ·cases h1
      rw [this]; exact h1
    | succ i=>simpa using k2 i o' (by simpa using hi)
   ·cases h
def direct (o:Oper):List Nat:=(o.after.toList.filter (Region.binds .any ·)).map (·.on)
def aaa (xs ys:List Nat):List Nat:=xs.foldl (fun acc x=>if acc.contains x then acc else acc++[x]) ys
def YB (ops:List Oper):List (List Nat):=
 ops.foldl (fun acc o=>acc++[(direct o).foldl (fun s k=>aaa (k::acc.getD k []) s) []]) []
def Iu (x y:dY):Bool:=match x.dst with
 | some t=>y.tr.contains t||y.dst==some t
 | none=>false
def DI (x y:dY):Bool:=match y.dst with
 | some t=>x.tr.contains t
 | none=>false
def Oc (ops:List Oper) (fF:List dY):Bool:=
 (List.range ops.length).all fun j=>match ops[j]?,fF[j]? with
  | some o,some io=>((direct o).all fun k=>decide (k<j))&&
    (io.pre.all fun i=>decide (i<ops.length)&&(direct o).any fun k=>k==i||(match fF[k]? with | some z=>z.pre.contains i | none=>false))&&
    ((List.range j).all fun i=>match fF[i]? with | some x=>io.pre.contains i||!(Iu x io||DI x io) | none=>false)
  | _,_=>false
def mI (P:Program) (N:Nat) (ops:Array Oper) (draw:Bool):Option (List dY):=
 if draw then (match rA P N ops ops.toList (YB ops.toList) with
  | some fF=>if P.follows .mixedOrders&&Oc ops.toList fF then some fF else none
  | none=>none)
 else rA P N ops ops.toList []
def ey (o:dY) (s:St):Option Bool:=match o.guard with
 | none=>some true
 | some (g,want)=>match s.get g with
   | .d (.val (.bool b))=>some (b==want)
   | .d (.val (.tuple _))=>some false
   | _=>none
def sq (o:dY) (base:Nat) (e:eV):qN:={ tr:=o.tr,td:=o.dst,r:=e.r,rd:=e.rd,ow:=e.owned base }
def uO (o:dY):qN:={ tr:=o.tr,td:=o.dst,r:=.undef,rd:=[],ow:=[] }
def sw (P:Program) (G:Nat→Option (List DV)) (o:dY) (s:St) (ev:qN) (s':St):Prop:=
 (ey o s=some true∧∃ e,kN P G s.get s.obj s.af.length o.op e∧ev=sq o s.af.length e∧s'=s.app o.dst e)∨
 (ey o s=some false∧ev=uO o∧s'=s.put o.dst .undef)
section
variable {P:Program} {G:Nat→Option (List DV)}
def Gd (P:Program) (G:Nat→Option (List DV)) (o:dY) (s:St) (p:Value) (e:eV):Prop:=
 ey o s=some true∧∃ f args k fs cs,o.op=.call f args∧callee (f.ev G s.get)=some (k,fs,cs)∧fe P G k (fs++args.map (·.ev G s.get)++cs) s.obj s.af.length p e
def YAt (G:Nat→Option (List DV)) (Y:YO) (o:dY) (s:St) (K:St→Prop):Prop:=
 ey o s=some true∧∃ f args oy,o.op=.call f args∧f.ev G s.get=.yl oy∧Y (.yl oy::args.map (·.ev G s.get)) s.af (s.get YS) (fun ys b ay=>K ⟨dU o.dst (.bool b) ((YS,ys)::s.env),ay⟩)
theorem QW {Y:YO} {X:Value→eV→St→Prop} {o:dY} {s:St} {K:St→eV→Prop} (h:ym P G Y X o s K):(∃ e,kN P G s.get s.obj s.af.length o.op e∧K (s.app o.dst e) e)∨
  (∃ p e,(∃ f args k fs cs,o.op=.call f args∧callee (f.ev G s.get)=some (k,fs,cs)∧fe P G k (fs++args.map (·.ev G s.get)++cs) s.obj s.af.length p e)∧X p e (s.app none e))∨
  (∃ f args oy,o.op=.call f args∧f.ev G s.get=.yl oy∧Y (.yl oy::args.map (·.ev G s.get)) s.af (s.get YS) (fun ys b ay=>K ⟨dU o.dst (.bool b) ((YS,ys)::s.env),ay⟩ { r:=.top })):=by
 unfold ym at h
 split at h
 ·rename_i f args hop
  split at h
  ·rename_i k fs cs hc
   rcases h with ⟨e,h1,h2⟩ | ⟨p,e,h1,h2⟩
   ·refine .inl ⟨e,?_,h2⟩
    rw [hop]
    simp only [kN,hc]; exact h1
   ·exact .inr (.inl ⟨p,e,⟨f,args,k,fs,cs,hop,hc,h1⟩,h2⟩)
  ·unfold vcY at h
   split at h
   ·rename_i oy dO
    exact .inr (.inr ⟨f,args,oy,hop,dO,h⟩)
   ·exact h.elim
 ·rename_i i hni
  split at h
  ·rename_i e he
   refine .inl ⟨e,?_,h⟩
   revert hni he
   cases o.op <;> intro hni he <;> first | exact he | (exfalso; exact hni _ _ rfl)
  ·exact h.elim
theorem Be {Y:YO} {X:Value→eV→St→Prop} {o:dY} {s:St} {K:St→eV→Prop} {K0:St→Prop} (h:yj P G Y X o s K K0) :
  (ey o s=some true∧∃ e,kN P G s.get s.obj s.af.length o.op e∧K (s.app o.dst e) e)∨(ey o s=some false∧K0 (s.put o.dst .undef))∨(∃ p e,Gd P G o s p e∧X p e (s.app none e))∨YAt G Y o s (fun s'=>K s' { r:=.top }):=by
 have key:∀ {s:St},ey o s=some true→ym P G Y X o s K→(ey o s=some true∧∃ e,kN P G s.get s.obj s.af.length o.op e∧K (s.app o.dst e) e)∨(ey o s=some false∧K0 (s.put o.dst .undef))∨(∃ p e,Gd P G o s p e∧X p e (s.app none e))∨YAt G Y o s (fun s'=>K s' { r:=.top }):=fun hw h=>by
  rcases QW h with h | ⟨p,e,h1,h2⟩ | h
  ·exact .inl ⟨hw,h⟩
  ·exact .inr (.inr (.inl ⟨p,e,⟨hw,h1⟩,h2⟩))
  ·exact .inr (.inr (.inr ⟨hw,h⟩))
 unfold yj at h
 split at h
 ·rename_i hg
  exact key (by unfold ey; rw [hg]) h
 ·rename_i g want hg
  split at h
  ·rename_i b hb
   by_cases hbw:b=want
   ·rw [if_pos hbw] at h
    exact key (by unfold ey; rw [hg]; simp [hb,hbw]) h
   ·rw [if_neg hbw] at h
    exact .inr (.inl ⟨by unfold ey; rw [hg]; simp [hb,hbw],h⟩)
  ·rename_i v hb
   exact .inr (.inl ⟨by unfold ey; rw [hg]; simp [hb],h⟩)
  ·exact h.elim
theorem DX {X:Value→eV→St→Prop} {o:dY} {s:St} {K:St→eV→Prop} {K0:St→Prop} (h:yj P G qZ X o s K K0) :
  (ey o s=some true∧∃ e,kN P G s.get s.obj s.af.length o.op e∧K (s.app o.dst e) e)∨(ey o s=some false∧K0 (s.put o.dst .undef))∨(∃ p e,Gd P G o s p e∧X p e (s.app none e)):=by
 rcases Be h with h | h | h | ⟨_,f,args,oy,_,_,h⟩
 ·exact .inl h
 ·exact .inr (.inl h)
 ·exact .inr (.inr h)
 ·exact h.elim
theorem St.UJ (s:St) (dst:Option Nat) (e:eV):(s.app dst e).get=gx dst e.r s.get:=zZ dst e.r s.env
theorem St.Dw (s:St) (dst:Option Nat) (r:LV):(s.put dst r).get=gx dst r s.get:=zZ dst r s.env
theorem St.RJ {s:St} {o:dY} {e:eV} (h:kN P G s.get s.obj s.af.length o.op e):(s.app o.dst e).obj=cL (e.owned s.af.length) s.obj:=by
 have hl:∀ p∈e.wr,p.1<s.af.length:=fun p hp=>by
  obtain ⟨ob,en⟩:=h.tD p hp
  exact mz en
 funext q
 show au (fH e.wr s.af++e.nw.map some) q=_
 rw [Ki s.af e hl]
 simp only [bG,eV.owned,iI,uj]
 rfl
theorem sw.next {o:dY} {s s':St} {ev:qN} (h:sw P G o s ev s'):s'.get=gx ev.td ev.r s.get∧s'.obj=cL ev.ow s.obj:=by
 rcases h with ⟨_,e,he,rfl,rfl⟩ | ⟨_,rfl,rfl⟩
 ·exact ⟨St.UJ ..,St.RJ he⟩
 ·exact ⟨St.Dw ..,rfl⟩
def JZ (o:dY):qN:={ tr:=o.tr,td:=o.dst,r:=.top,rd:=[],ow:=[] }
def Ib (o:dY) (e:eV):qN:={ tr:=o.tr,td:=o.dst,r:=.top,rd:=e.rd,ow:=[] }
def Gc (P:Program) (G:Nat→Option (List DV)) (p:Nat) (o:dY) (s:St) (ev:qN) (s':St):Prop:=
 (p∈o.pre∧ev=JZ o∧s'=s.put o.dst .top)∨(p∉o.pre∧sw P G o s ev s')
theorem Gc.next {p:Nat} {o:dY} {s s':St} {ev:qN} (h:Gc P G p o s ev s'):s'.get=gx ev.td ev.r s.get∧s'.obj=cL ev.ow s.obj:=by
 rcases h with ⟨_,rfl,rfl⟩ | ⟨_,h⟩
 ·exact ⟨St.Dw ..,rfl⟩
 ·exact h.next
def acj (P:Program) (G:Nat→Option (List DV)) (p:Nat) (pre:List Nat) (os:List dY) (s:St) (log:List iH):Prop:=
 ∃ (ss:Nat→St) (es:Nat→qN) (gJ:List iH),ss 0=s∧(∀ (i:Nat) (o:dY),os[i]? = some o→Gc P G p o (ss i) (es i) (ss (i+1)))∧(indep gJ=true∧EF gJ p pre=true)∧
   gJ.length=log.length+os.length∧(∀ (i:Nat) (o:dY),os[i]? = some o→gJ[log.length+i]? = some ⟨o.pre,(es i).rd,(es i).wr⟩)∧(∀ i,i<log.length→gJ[i]? = log[i]?)
theorem Bd {p:Nat} {pre:List Nat} : ∀ (os:List dY) (s:St) (log:List iH),pI P G p pre os s log→acj P G p pre os s log
 | [],s,log,h=>⟨fun _=>s,fun _=>uO ⟨none,.mv (.t 0),none,[]⟩,log,rfl,fun i o hi=>by simp at hi,h,by simp,fun i o hi=>by simp at hi,fun _ _=>rfl⟩
 | o::os,s,log,h=>by
   have cons:∀ (s1:St) (ev:qN),Gc P G p o s ev s1→pI P G p pre os s1 (log++[⟨o.pre,ev.rd,ev.wr⟩])→acj P G p pre (o::os) s log:=fun s1 ev hst hk=>by
    obtain ⟨ss,es,gJ,h0,hs,hK,hlen,oA,hold⟩:=Bd os _ _ hk
    refine ⟨fun i=>match i with | 0=>s | i+1=>ss i,fun i=>match i with | 0=>ev | i+1=>es i,gJ,rfl,fun i o' hi=>?_,hK,?_,fun i o' hi=>?_,fun i hi=>?_⟩
    ·cases i with
     | zero=>
       simp at hi; subst hi
       rw [← h0] at hst; exact hst
     | succ i=>exact hs i o' (by simpa using hi)
    ·simp at hlen ⊢; omega
    ·cases i with
     | zero=>
       simp at hi; subst hi
       rw [Nat.add_zero,hold _ (by simp)]
       simp
     | succ i=>
       have:=oA i o' (by simpa using hi)
       rw [← this]; congr 1; simp; omega
    ·rw [hold i (by simp; omega),List.getElem?_append_left hi]
   simp only [pI] at h
   split at h
   ·rename_i hp
    exact cons _ (JZ o) (.inl ⟨by simpa using hp,rfl,rfl⟩) h
   ·rename_i hp
    have hp:p∉o.pre:=by simpa using hp
    rcases DX h with ⟨hw,e,he,hk⟩ | ⟨hw,hk⟩ | ⟨_,_,_,hk⟩
    ·exact cons _ (sq o s.af.length e) (.inr ⟨hp,.inl ⟨hw,e,he,rfl,rfl⟩⟩) hk
    ·exact cons _ (uO o) (.inr ⟨hp,.inr ⟨hw,rfl,rfl⟩⟩) hk
    ·exact hk.elim
def o_ (P:Program) (G:Nat→Option (List DV)) (X:Value→St→Prop) (p i:Nat) (o:dY) (s:St) (ev:qN) (s':St):Prop:=
 if i<p then sw P G o s ev s' else if i=p then (∃ v e,Gd P G o s v e∧X v ⟨[],(s.app none e).af⟩∧ev=Ib o e∧s'=s.put o.dst .top) else Gc P G p o s ev s'
theorem o_.next {X:Value→St→Prop} {p i:Nat} {o:dY} {s s':St} {ev:qN} (h:o_ P G X p i o s ev s'):s'.get=gx ev.td ev.r s.get∧s'.obj=cL ev.ow s.obj:=by
 unfold o_ at h
 split at h
 ·exact h.next
 ·split at h
  ·obtain ⟨_,_,_,_,rfl,rfl⟩:=h
   exact ⟨St.Dw ..,rfl⟩
  ·exact h.next
theorem o_.tr {X:Value→St→Prop} {p i:Nat} {o:dY} {s s':St} {ev:qN} (h:o_ P G X p i o s ev s'):ev.tr=o.tr∧ev.td=o.dst:=by
 have hR:∀ {ev:qN},sw P G o s ev s'→ev.tr=o.tr∧ev.td=o.dst:=fun h=>by
  rcases h with ⟨_,e,_,h1,_⟩ | ⟨_,h1,_⟩ <;> rw [h1] <;> exact ⟨rfl,rfl⟩
 unfold o_ at h
 split at h
 ·exact hR h
 ·split at h
  ·obtain ⟨_,_,_,_,rfl,rfl⟩:=h
   exact ⟨rfl,rfl⟩
  ·rcases h with ⟨_,rfl,_⟩ | ⟨_,h⟩
   ·exact ⟨rfl,rfl⟩
   ·exact hR h
def aci (P:Program) (G:Nat→Option (List DV)) (K:St→List iH→Prop) (os:List dY) (s:St) (log:List iH):Prop:=
 ∃ (ss:Nat→St) (es:Nat→qN) (gJ:List iH),ss 0=s∧(∀ (i:Nat) (o:dY),os[i]? = some o→sw P G o (ss i) (es i) (ss (i+1)))∧K (ss os.length) gJ∧
   gJ.length=log.length+os.length∧(∀ (i:Nat) (o:dY),os[i]? = some o→gJ[log.length+i]? = some ⟨o.pre,(es i).rd,(es i).wr⟩)∧(∀ i,i<log.length→gJ[i]? = log[i]?)
def ach (P:Program) (G:Nat→Option (List DV)) (X:Value→St→Prop) (os:List dY) (s:St) (log:List iH):Prop:=
 ∃ (p:Nat) (op:dY) (ss:Nat→St) (es:Nat→qN) (gJ:List iH),log.length≤p∧os[p-log.length]? = some op∧ss 0=s∧(∀ (i:Nat) (o:dY),os[i]? = some o→o_ P G X p (log.length+i) o (ss i) (es i) (ss (i+1)))∧(indep gJ=true∧EF gJ p op.pre=true)∧
   gJ.length=log.length+os.length∧(∀ (i:Nat) (o:dY),os[i]? = some o→gJ[log.length+i]? = some ⟨o.pre,(es i).rd,(es i).wr⟩)∧(∀ i,i<log.length→gJ[i]? = log[i]?)
theorem yh {X:Value→St→Prop} {K:St→List iH→Prop} : ∀ (os:List dY) (s:St) (log:List iH),eM P G X os s log K→aci P G K os s log∨ach P G X os s log
 | [],s,log,h=>.inl ⟨fun _=>s,fun _=>uO ⟨none,.mv (.t 0),none,[]⟩,log,rfl,fun i o hi=>by simp at hi,h,by simp,fun i o hi=>by simp at hi,fun _ _=>rfl⟩
 | o::os,s,log,h=>by
   have cons:∀ (s1:St) (ev:qN),sw P G o s ev s1→eM P G X os s1 (log++[⟨o.pre,ev.rd,ev.wr⟩]) K→aci P G K (o::os) s log∨ach P G X (o::os) s log:=fun s1 ev hst hk=>by
    rcases yh os _ _ hk with ⟨ss,es,gJ,h0,hs,hK,hlen,oA,hold⟩ | ⟨p,op,ss,es,gJ,lZ,hop,h0,hs,hK,hlen,oA,hold⟩
    ·refine .inl ⟨fun i=>match i with | 0=>s | i+1=>ss i,fun i=>match i with | 0=>ev | i+1=>es i,gJ,rfl,fun i o' hi=>?_,hK,?_,fun i o' hi=>?_,fun i hi=>?_⟩
     ·cases i with
      | zero=>
        simp at hi; subst hi
        rw [← h0] at hst; exact hst
      | succ i=>exact hs i o' (by simpa using hi)
     ·simp at hlen ⊢; omega
     ·cases i with
      | zero=>
        simp at hi; subst hi
        rw [Nat.add_zero,hold _ (by simp)]
        simp
      | succ i=>
        have:=oA i o' (by simpa using hi)
        rw [← this]; congr 1; simp; omega
     ·rw [hold i (by simp; omega),List.getElem?_append_left hi]
    ·simp only [List.length_append,List.length_cons,List.length_nil] at lZ hop hs hlen oA
     refine .inr ⟨p,op,fun i=>match i with | 0=>s | i+1=>ss i,fun i=>match i with | 0=>ev | i+1=>es i,gJ,by omega,?_,rfl,fun i o' hi=>?_,hK,?_,fun i o' hi=>?_,fun i hi=>?_⟩
     ·rw [show p-log.length=(p-(log.length+1))+1 by omega]; simpa using hop
     ·cases i with
      | zero=>
        simp at hi; subst hi
        unfold o_
        rw [if_pos (by omega)]
        rw [← h0] at hst; exact hst
      | succ i=>
        have:=hs i o' (by simpa using hi)
        rw [show log.length+(0+1)+i=log.length+(i+1) by omega] at this
        exact this
     ·simp; omega
     ·cases i with
      | zero=>
        simp at hi; subst hi
        rw [Nat.add_zero,hold _ (by simp)]
        simp
      | succ i=>
        have:=oA i o' (by simpa using hi)
        rw [← this]; congr 1; omega
     ·rw [hold i (by simp; omega),List.getElem?_append_left hi]
   simp only [eM] at h
   rcases DX h with ⟨hw,e,he,hk⟩ | ⟨hw,hk⟩ | ⟨v,e,Pd,hX,hk⟩
   ·exact cons _ (sq o s.af.length e) (.inl ⟨hw,e,he,rfl,rfl⟩) hk
   ·exact cons _ (uO o) (.inr ⟨hw,rfl,rfl⟩) hk
   ·obtain ⟨ss,es,gJ,h0,hs,hK,hlen,oA,hold⟩:=Bd os _ _ hk
    simp only [List.length_append,List.length_cons,List.length_nil] at hs hlen oA
    refine .inr ⟨log.length,o,fun i=>match i with | 0=>s | i+1=>ss i,fun i=>match i with | 0=>Ib o e | i+1=>es i,gJ,Nat.le_refl _,by simp,rfl,fun i o' hi=>?_,hK,?_,fun i o' hi=>?_,fun i hi=>?_⟩
    ·cases i with
     | zero=>
       simp at hi; subst hi
       unfold o_
       rw [if_neg (by omega),if_pos (by omega)]
       exact ⟨v,e,Pd,hX,rfl,h0⟩
     | succ i=>
       have:=hs i o' (by simpa using hi)
       unfold o_
       rw [if_neg (by omega),if_neg (by omega)]
       exact this
    ·simp; omega
    ·cases i with
     | zero=>
       simp at hi; subst hi
       rw [Nat.add_zero,hold _ (by simp)]
       simp [Ib,qN.wr]
     | succ i=>
       have:=oA i o' (by simpa using hi)
       rw [← this]; congr 1; omega
    ·rw [hold i (by simp; omega),List.getElem?_append_left hi]
end
structure At (G:Nat→Option (List DV)) (D:Dk) (N:Nat) (bf:Nat→b_) (J0:Nat→Prop) (bV:Nat→Nat→Option Nat) (w0:World) (get:Nat→LV) (obj:Nat→b_) (a:Act) (w:World):Prop where
 mk::
 ex:∃ J ι,Sim G D N J w ι a get obj∧Ext bf obj J0 J bV ι w0 w
section
variable {P:Program} {G:Nat→Option (List DV)} {D:Dk} {N:Nat} {bf:Nat→b_} {J0:Nat→Prop} {bV:Nat→Nat→Option Nat} {w0:World} {ops:Array Oper} {Q:Exit→Act→World→Prop} {ro:Option Nat} {nn:Nat}
theorem uT {o:Oper} {i:I} (h:mK P o.op=some i) (hs:i≠.more .stk) (c:Call):o.op≠.defer c:=by
 intro hc
 rw [hc] at h
 have:mK P (.defer c)=some (.more .stk):=by
  have h1:Au P (.defer c)=none:=rfl
  simp only [mK,h1,cG,iy]
 rw [this] at h
 exact hs (Option.some.inj h).symm
theorem kN.aaE {get:Nat→LV} {obj:Nat→b_} {base:Nat} {i:I} {e:eV} (h:kN P G get obj base i e):i≠.more .stk:=by
 rintro rfl
 simp [kN,cE,fA] at h
theorem At.drew {get:Nat→LV} {obj:Nat→b_} {a:Act} {w:World} {n:Nat} (h:At G D N bf J0 bV w0 get obj a w):At G D N bf J0 bV w0 get obj a { w with drawn:=n }:=by
 obtain ⟨J,ι,S,E⟩:=h.ex
 have E1:Ext obj obj J J ι ι w { w with drawn:=n }:=⟨⟨rfl,rfl,rfl,Nat.le_refl _,fun _ _ _=>rfl,fun _ _=>rfl,fun _ h=>h,fun _ h=>.inl h,fun _ _ _ h=>h⟩,fun _ h=>.inl h⟩
 refine ⟨J,ι,⟨⟨fun o=>jg.keep S.store E1.ev (fun _=>rfl) (fun _ _=>rfl),S.store.inj,S.store.oH,S.store.jcell,fun g row hg=>?_⟩,fun t=>(S.env t).ev S.store E1.ev,S.size,S.defers.keep (E1.nc S.store),D.keep _ _ _ (E1.nc S.store) S.ys,S.lim⟩,E.trans E1⟩
 obtain ⟨h1,h2,h3⟩:=S.store.uI g row hg
 exact ⟨h1,h2.ev S.store E1.ev h1,h3⟩
theorem CY {o:Oper} {io:dY} (hc:gp P N ops o io.pre=some io) {s:St} {ev:qN} {s':St} (hst:sw P G io s ev s') {get:Nat→LV} {obj:Nat→b_}
  (hg:∀ t,t∈ev.tr∨ev.td=some t→get t=s.get t) (ho:∀ q,q∈ev.rd∨q∈ev.wr→obj q=s.obj q) {a:Act} {w:World} (hA:At G D N bf J0 bV w0 get obj a w) {K:Act→World→Prop}
  (hK:∀ a' w',At G D N bf J0 bV w0 (gx ev.td ev.r get) (cL ev.ow obj) a' w'→K a' w') :
  if Region.wanted o (yielded ops a.tmps) then o.wpIn (fz ro) nn P a w K Q else (∀ f,o.about P w a.eval=some f→(fz ro).fn f)∧K (a.put o.dst Go.undef) w:=by
 obtain ⟨J,ι,S,E⟩:=hA.ex
 obtain ⟨Pz,i,g,hi,hgd,oW⟩:FM N o.dst=true∧∃ i g,mK P o.op=some i∧uV N ops o.guard=some g∧io=⟨o.dst,i,g,io.pre⟩:=by
  unfold gp at hc
  split at hc
  ·rename_i hd
   split at hc
   ·rename_i i g h1 h2
    exact ⟨hd,i,g,h1,h2,(Option.some.inj hc).symm⟩
   ·cases hc
  ·cases hc
 have UB:∀ d,o.dst=some d→d<N:=fun d hd=>by rw [hd] at Pz; simpa [FM] using Pz
 have Pq:io.dst=o.dst:=by rw [oW]
 have Dq:io.op=i:=by rw [oW]
 have HQ:io.guard=g:=by rw [oW]
 have htr:ev.tr=io.tr:=by rcases hst with ⟨_,e,_,rfl,_⟩ | ⟨_,rfl,_⟩ <;> rfl
 have htd:ev.td=o.dst:=by rcases hst with ⟨_,e,_,rfl,_⟩ | ⟨_,rfl,_⟩ <;> exact Pq
 -- QV it is wanted
 have B4:∀ b,ey io s=some b→Region.wanted o (yielded ops a.tmps)=b:=by
  intro b hb
  unfold ey at hb
  rw [HQ] at hb
  cases Fo:o.guard with
  | none=>
    rw [Fo] at hgd
    simp only [uV] at hgd; cases hgd
    simp only [Region.wanted,Fo]
    exact Option.some.inj hb
  | some p=>
    obtain ⟨j,want⟩:=p
    rw [Fo] at hgd
    simp only [uV] at hgd
    split at hgd
    ·rename_i oj DQ
     split at hgd
     ·rename_i t ht
      split at hgd
      ·rename_i htN
       cases hgd
       dsimp only at hb
       have hgt:get t=s.get t:=hg t (.inl (by rw [htr]; simp [dY.tr,HQ]))
       have uD:=S.env t
       rw [hgt] at uD
       have hval:a.tmps[t]? = some (a.tmps.getD t Go.undef):=by
        have:t<a.tmps.size:=by rw [S.size]; exact htN
        simp [this]
       simp only [Region.wanted,Fo,yielded,DQ,Option.bind_some,ht,hval]
       split at hb
       ·rename_i b' hb'
        rw [hb'] at uD
        have:a.tmps.getD t Go.undef=.bool b':=uD
        rw [this]
        have:=Option.some.inj hb
        rw [← this]
        cases b' <;> cases want <;> rfl
       ·rename_i v hv
        rw [hv] at uD
        have:a.tmps.getD t Go.undef=.tuple v:=uD
        rw [this]
        have:=Option.some.inj hb
        rw [← this]; rfl
       ·cases hb
      ·cases hgd
     ·cases hgd
    ·cases hgd
 rcases hst with ⟨hw,e,he,rfl,rfl⟩ | ⟨hw,rfl,rfl⟩
 ·rw [B4 true hw,if_pos rfl]
  have he':kN P G get obj s.af.length io.op e:=he.local (fun t ht=>hg t (.inl (by simp [sq,dY.tr,ht]))) (fun q hq=>ho q (.inl hq))
  have hfree:∀ j,j<e.nw.length→obj (s.af.length+j)=.free:=fun j hj=>by
   rw [ho _ (.inr (by
    simp only [sq,qN.wr,eV.owned,List.map_append,List.mem_append]
    exact .inl (Jk _ _ _ hj)))]
   exact cv (by omega)
  rw [Dq] at he'
  refine Yd (uT hi he'.aaE) (IV S.store S.env he' hfree hi K Q (fun v w' hAf=>hK _ _ ?_))
  obtain ⟨J',ι',S',E'⟩:=S.step (dst:=o.dst) UB hAf
  refine ⟨J',ι',?_,?_⟩
  ·have e1:(sq io s.af.length e).td=o.dst:=Pq
   rw [e1]
   have e2:cL (sq io s.af.length e).ow obj=bG obj s.af.length e:=by
    simp only [sq,eV.owned,iI,bG,uj]
   rw [e2]; exact S'
  ·have e2:cL (sq io s.af.length e).ow obj=bG obj s.af.length e:=by
    simp only [sq,eV.owned,iI,bG,uj]
   rw [e2]; exact E.trans E'
 ·rw [B4 false hw]
  simp only [Bool.false_eq_true,if_false]
  refine ⟨fun _ _=>trivial,hK _ _ ?_⟩
  obtain ⟨J',ι',S',E'⟩:=S.step (dst:=o.dst) UB (aN.stay S.store (r:=.undef) (v:=Go.undef) rfl)
  exact ⟨J',ι',by rw [htd]; exact S',E.trans E'⟩
def Vj (G:Nat→Option (List DV)) (bf:Nat→b_) (J0:Nat→Prop) (bV:Nat→Nat→Option Nat) (w0:World) (get:Nat→LV) (obj:Nat→b_) (a:Act) (w:World):Prop:=∃ J ι,aF G J w ι obj∧Ext bf obj J0 J bV ι w0 w∧∀ t,cT J w ι (get t) (a.tmps.getD t Go.undef)
theorem NW {o:Oper} {io:dY} (hc:gp P N ops o io.pre=some io) {s:St} {v:Value} {e:eV} (hp:Gd P G io s v e) {get:Nat→LV} {obj:Nat→b_}
  (hg:∀ t,t∈io.tr→get t=s.get t) (ho:obj=s.obj) {a:Act} {w:World} (hA:At G D N bf J0 bV w0 get obj a w) (K:Act→World→Prop)
  (hX:(D.wN=false→a.defers=D.ds)→∀ w',Vj G bf J0 bV w0 get (s.app none e).obj a w'→Q (.panic [{ v:=v,recovered:=false }]) a w'):Region.wanted o (yielded ops a.tmps)=true∧o.wpIn (fz ro) nn P a w K Q:=by
 obtain ⟨J,ι,S,E⟩:=hA.ex
 obtain ⟨i,g,hi,hgd,oW⟩:∃ i g,mK P o.op=some i∧uV N ops o.guard=some g∧io=⟨o.dst,i,g,io.pre⟩:=by
  unfold gp at hc
  split at hc
  ·split at hc
   ·rename_i i g h1 h2
    exact ⟨i,g,h1,h2,(Option.some.inj hc).symm⟩
   ·cases hc
  ·cases hc
 have Dq:io.op=i:=by rw [oW]
 have HQ:io.guard=g:=by rw [oW]
 -- QV it is wanted
 have B4:∀ b,ey io s=some b→Region.wanted o (yielded ops a.tmps)=b:=by
  intro b hb
  unfold ey at hb
  rw [HQ] at hb
  cases Fo:o.guard with
  | none=>
    rw [Fo] at hgd
    simp only [uV] at hgd; cases hgd
    simp only [Region.wanted,Fo]
    exact Option.some.inj hb
  | some p=>
    obtain ⟨j,want⟩:=p
    rw [Fo] at hgd
    simp only [uV] at hgd
    split at hgd
    ·rename_i oj DQ
     split at hgd
     ·rename_i t ht
      split at hgd
      ·rename_i htN
       cases hgd
       dsimp only at hb
       have hgt:get t=s.get t:=hg t (by simp [dY.tr,HQ])
       have uD:=S.env t
       rw [hgt] at uD
       have hval:a.tmps[t]? = some (a.tmps.getD t Go.undef):=by
        have:t<a.tmps.size:=by rw [S.size]; exact htN
        simp [this]
       simp only [Region.wanted,Fo,yielded,DQ,Option.bind_some,ht,hval]
       split at hb
       ·rename_i b' hb'
        rw [hb'] at uD
        have:a.tmps.getD t Go.undef=.bool b':=uD
        rw [this]
        have:=Option.some.inj hb
        rw [← this]
        cases b' <;> cases want <;> rfl
       ·rename_i v hv
        rw [hv] at uD
        have:a.tmps.getD t Go.undef=.tuple v:=uD
        rw [this]
        have:=Option.some.inj hb
        rw [← this]; rfl
       ·cases hb
      ·cases hgd
     ·cases hgd
    ·cases hgd
 obtain ⟨hw,f,args,k,fs,cs,hop,iY,hcp⟩:=hp
 refine ⟨B4 true hw,?_⟩
 rw [Dq] at hop
 subst hop
 have hf:f.ev G get=f.ev G s.get:=bM.cW (fun t ht=>hg t (by simp [dY.tr,Dq,I.tmps,ht]))
 have ha:args.map (·.ev G get)=args.map (·.ev G s.get):=nJ (fun t ht=>hg t (by simp only [dY.tr,Dq,I.tmps,List.mem_append]; exact .inl (.inr ht)))
 have hl:∀ p∈e.wr,p.1<s.af.length:=fun p hp=>by
  obtain ⟨ob,en⟩:=hcp.tD p hp
  exact mz en
 refine Yd (uT hi (by simp)) (Ql S.store S.env (by rw [hf]; exact iY) (hcp.local (by rw [ha]) (fun q _=>by rw [ho])) (fun j _=>?_) hi K Q (fun w' hAf=>hX S.defers.none w' ?_))
 ·rw [ho]; exact cv (by omega)
 ·obtain ⟨J',ι',S',_,E'⟩:=hAf
  have e1:(s.app none e).obj=bG obj s.af.length e:=by
   rw [ho]; exact Ki s.af e hl
  rw [e1]
  exact ⟨J',ι',S',E.trans E',fun t=>(S.env t).ev S.store E'.ev⟩
def oO (P:Program) (G:Nat→Option (List DV)) (ro:Option Nat) (Y:YO) (D:Dk) (N:Nat) (bf:Nat→b_) (J0:Nat→Prop) (bV:Nat→Nat→Option Nat) (w0:World):Prop:=
 ∀ oy args af ys K',Y (.yl oy::args) af ys K'→∀ get a w,At G D N bf J0 bV w0 get (au af) a w→get YS=ys→∀ (y:Value) (vs:List Value),(∃ J ι,Sim G D N J w ι a get (au af)∧Ext bf (au af) J0 J bV ι w0 w∧cT J w ι (.yl oy) y∧ck J w ι args vs)→
   ∃ l,y=.func (.yield l) #[] #[]∧∀ nn,YieldAt (fz ro) nn P l vs.toArray w (fun e w'=>∃ ys' b ay,e=.returned (.bool b)∧K' ys' b ay∧∀ dst,(∀ d,dst=some d→d<N)→At G D N bf J0 bV w0 (gx dst (.bool b) (fun t=>if YS=t then ys' else get t)) (au ay) (a.put dst (.bool b)) w')
theorem oO.no {D:Dk} {N:Nat} {bf:Nat→b_} {J0:Nat→Prop} {bV:Nat→Nat→Option Nat} {w0:World} : oO P G ro qZ D N bf J0 bV w0:=fun _ _ _ _ _ h=>h.elim
theorem NV {Y:YO} (hY:oO P G ro Y D N bf J0 bV w0) {o:Oper} {io:dY} (hc:gp P N ops o io.pre=some io) {s:St} {K0:St→Prop} (hst:YAt G Y io s K0) {a:Act} {w:World} (hA:At G D N bf J0 bV w0 s.get s.obj a w) {K:Act→World→Prop}
  (hK:∀ s' a' w',K0 s'→At G D N bf J0 bV w0 s'.get s'.obj a' w'→K a' w'):Region.wanted o (yielded ops a.tmps)=true∧o.wpIn (fz ro) nn P a w K Q:=by
 obtain ⟨hw,f,args,oy,hop,dO,hY0⟩:=hst
 obtain ⟨J,ι,S,E⟩:=hA.ex
 obtain ⟨Pz,i,g,hi,hgd,oW⟩:FM N o.dst=true∧∃ i g,mK P o.op=some i∧uV N ops o.guard=some g∧io=⟨o.dst,i,g,io.pre⟩:=by
  unfold gp at hc
  split at hc
  ·rename_i hd
   split at hc
   ·rename_i i g h1 h2
    exact ⟨hd,i,g,h1,h2,(Option.some.inj hc).symm⟩
   ·cases hc
  ·cases hc
 have UB:∀ d,o.dst=some d→d<N:=fun d hd=>by rw [hd] at Pz; simpa [FM] using Pz
 have Pq:io.dst=o.dst:=by rw [oW]
 have Dq:io.op=i:=by rw [oW]
 have HQ:io.guard=g:=by rw [oW]
 have B4:Region.wanted o (yielded ops a.tmps)=true:=by
  have hb:=hw
  unfold ey at hb
  rw [HQ] at hb
  cases Fo:o.guard with
  | none=>simp only [Region.wanted,Fo]
  | some p=>
    obtain ⟨j,want⟩:=p
    rw [Fo] at hgd
    simp only [uV] at hgd
    split at hgd
    ·rename_i oj DQ
     split at hgd
     ·rename_i t ht
      split at hgd
      ·rename_i htN
       cases hgd
       dsimp only at hb
       have uD:=S.env t
       have hval:a.tmps[t]? = some (a.tmps.getD t Go.undef):=by
        have:t<a.tmps.size:=by rw [S.size]; exact htN
        simp [this]
       simp only [Region.wanted,Fo,yielded,DQ,Option.bind_some,ht,hval]
       split at hb
       ·rename_i b' hb'
        rw [hb'] at uD
        have:a.tmps.getD t Go.undef=.bool b':=uD
        rw [this]
        have:=Option.some.inj hb
        revert this
        cases b' <;> cases want <;> simp
       ·rename_i v hv
        cases hb
       ·cases hb
      ·cases hgd
     ·cases hgd
    ·cases hgd
 refine ⟨B4,?_⟩
 rw [Dq] at hop
 subst hop
 replace hi:=s9 hi
 obtain ⟨dst,op,type,pos,after,guard⟩:=o
 dsimp only at hi Pq UB ⊢
 obtain ⟨F,as,ts,rfl,hF,hargs⟩:∃ F as ts,op=.call ⟨.value F,as,ts⟩∧aI F=some f∧dh as.toList=some args:=by
  cases op with
  | call c=>
    obtain ⟨callee,as,ts⟩:=c
    cases callee with
    | value F=>
      simp only [cG] at hi
      split at hi
      ·rename_i f' args' h1 h2; cases hi; exact ⟨F,as,ts,rfl,h1,h2⟩
      ·cases hi
    | invoke r m=>simp [cG] at hi
    | builtin b=>
      exfalso
      cases b <;> simp only [cG] at hi <;> (repeat' split at hi) <;> cases hi
  | unOp u T x=>exfalso; cases u <;> simp only [cG] at hi <;> (try (cases hi; done)) <;> (repeat' split at hi) <;> cases hi
  | _=>
    exfalso
    simp only [cG] at hi <;> (repeat' split at hi) <;> cases hi
 have HJ:=aT S.store S.env hF
 have hrA:=qU S.store S.env hargs
 rw [dO] at HJ
 obtain ⟨l,hyl,Dp⟩:=hY _ _ _ _ _ hY0 s.get a w hA rfl (a.eval F) (as.toList.map a.eval) ⟨J,ι,S,E,HJ,hrA⟩
 obtain ⟨fn,tmps,assign,body,hrun,hR⟩:=Dp (nn-1)
 refine ⟨fun _ _=>trivial,?_⟩
 rw [Oper.semAt_eq _ _ _ (fun c h=>by cases h)]
 have hex:(execOp a.eval ⟨dst,.call ⟨.value F,as,ts⟩,type,pos,after,guard⟩).run P w=.ok (.round l fn tmps assign body) w:=by
  have e1:as.map a.eval=(as.toList.map a.eval).toArray:=by
   apply Array.toList_inj.1
   simp
  simp only [execOp,resolve,Sem.run_bind,hyl,Deferred.ofValue,Sem.run_pure,Result.andThen_ok,invoke,callFunc,e1]
  simpa using hrun
 rw [hex,Oper.uponIn_round]
 refine ⟨(fun hh=>by cases hh),hR.mono (fun e w' hq=>?_)⟩
 obtain ⟨ys',b,ay,rfl,hk,hat⟩:=hq
 refine hK _ _ _ hk ?_
 have:=hat dst UB
 have e2:(St.get ⟨dU io.dst (.bool b) ((YS,ys')::s.env),ay⟩)=gx dst (.bool b) (fun t=>if YS=t then ys' else s.get t):=by
  show aW _=_
  rw [zZ,Pq]
  rfl
 rw [e2]
 exact this
theorem BM {Y:YO} (hY:oO P G ro Y D N bf J0 bV w0) {X:Value→eV→St→Prop} (hX:∀ v e s a w,(D.wN=false→a.defers=D.ds)→Vj G bf J0 bV w0 s.get s.obj a w→X v e s→Q (.panic [{ v:=v,recovered:=false }]) a w)
  {o:Oper} {io:dY} (h2:gp P N ops o io.pre=some io) {s:St} {K:St→eV→Prop} {K0:St→Prop} (hv:yj P G Y X io s K K0) {a:Act} {w:World} (hA:At G D N bf J0 bV w0 s.get s.obj a w) {K':Act→World→Prop}
  (h1:∀ s' e a' w',K s' e→At G D N bf J0 bV w0 s'.get s'.obj a' w'→K' a' w') (h0:∀ s' a' w',K0 s'→At G D N bf J0 bV w0 s'.get s'.obj a' w'→K' a' w') :
  if Region.wanted o (yielded ops a.tmps) then o.wpIn (fz ro) nn P a w K' Q else (∀ f,o.about P w a.eval=some f→(fz ro).fn f)∧K' (a.put o.dst Go.undef) w:=by
 have qv:∀ s' ev,sw P G io s ev s'→(∀ a' w',At G D N bf J0 bV w0 s'.get s'.obj a' w'→K' a' w')→if Region.wanted o (yielded ops a.tmps) then o.wpIn (fz ro) nn P a w K' Q else (∀ f,o.about P w a.eval=some f→(fz ro).fn f)∧K' (a.put o.dst Go.undef) w:=by
  intro s' ev hst hv'
  obtain ⟨hn1,hn2⟩:=hst.next
  refine CY h2 hst (fun _ _=>rfl) (fun _ _=>rfl) hA (fun a' w' uH=>hv' a' w' ?_)
  rw [← hn1,← hn2] at uH
  exact uH
 rcases Be hv with ⟨hw,e,he,hk⟩ | ⟨hw,hk⟩ | ⟨v,e,hp,hk⟩ | hy
 ·exact qv _ _ (.inl ⟨hw,e,he,rfl,rfl⟩) (fun a' w'=>h1 _ _ a' w' hk)
 ·exact qv _ _ (.inr ⟨hw,rfl,rfl⟩) (fun a' w'=>h0 _ a' w' hk)
 ·obtain ⟨h3,h4⟩:=NW (Q:=Q) h2 hp (fun _ _=>rfl) rfl hA K' (fun hd w' hO=>hX v _ _ a w' hd hO hk)
  rw [h3,if_pos rfl]; exact h4
 ·obtain ⟨h3,h4⟩:=NV (Q:=Q) hY h2 hy hA (fun s' a' w' hk uH=>h1 _ _ _ _ hk uH)
  rw [h3,if_pos rfl]; exact h4
theorem vD {Y:YO} (hY:oO P G ro Y D N bf J0 bV w0) {X:Value→St→Prop} {K:St→Prop} (hQ:∀ s a w,At G D N bf J0 bV w0 s.get s.obj a w→K s→Q .normal a w) (hX:∀ v s a w,(D.wN=false→a.defers=D.ds)→Vj G bf J0 bV w0 s.get s.obj a w→X v s→Q (.panic [{ v:=v,recovered:=false }]) a w) :
  ∀ (os:List Oper) (fF:List dY) (s:St) (a:Act) (w:World),fF.length=os.length→(∀ (i:Nat) (o:Oper),os[i]? = some o→∃ io,fF[i]? = some io∧gp P N ops o io.pre=some io)→gy P G Y X fF s K→
    At G D N bf J0 bV w0 s.get s.obj a w→wpListIn (fz ro) nn P ops Q os a w
 | [],fF,s,a,w,hl,hc,hv,hA=>by
   cases fF with
   | nil=>exact hQ s a w hA hv
   | cons _ _=>simp at hl
 | o::os,[],s,a,w,hl,hc,hv,hA=>by simp at hl
 | o::os,io::fF,s,a,w,hl,hc,hv,hA=>by
   obtain ⟨io',h1,h2⟩:=hc 0 o (by simp)
   simp at h1; subst h1
   refine wpListIn_step (fun K' AR=>?_)
   simp only [gy] at hv
   have hnext:∀ s' a' w',gy P G Y X fF s' K→At G D N bf J0 bV w0 s'.get s'.obj a' w'→K' a' w':=fun s' a' w' hv' uH=>
    AR _ _ (vD hY hQ hX os fF s' a' w' (by simpa using hl) (fun i o' hi=>by simpa using hc (i+1) o' (by simpa using hi)) hv' uH)
   exact BM hY (fun v _ s a w h1 h2 h3=>hX v s a w h1 h2 h3) h2 hv hA (fun s' _=>hnext s') hnext
structure Ord (P:Program) (N:Nat) (ops:Array Oper) (fF:List dY):Prop where
 mix:P.follows .mixedOrders=true
 len:fF.length=ops.size
 at_:∀ i,i<ops.size→∃ o io,ops[i]? = some o∧fF[i]? = some io∧gp P N ops o io.pre=some io
 dr:∀ j o io,ops[j]? = some o→fF[j]? = some io→(∀ k∈direct o,k<j)∧(∀ i∈io.pre,i<ops.size∧∃ k∈direct o,k=i∨∃ z,fF[k]? = some z∧i∈z.pre)∧
   (∀ i x,i<j→fF[i]? = some x→i∈io.pre∨(Iu x io=false∧DI x io=false))
def QU (fF:List dY) (i j:Nat):Prop:=∃ io,fF[j]? = some io∧i∈io.pre
theorem Ord.of {fF:List dY} (hc:mI P N ops true=some fF):Ord P N ops fF:=by
 simp only [mI,if_true] at hc
 split at hc
 ·rename_i ado hcs
  split at hc
  ·rename_i hok
   cases hc
   rw [Bool.and_eq_true] at hok
   obtain ⟨acL,PA⟩:=hok
   obtain ⟨hlen,lI⟩:=mJ hcs
   simp only [Array.length_toList] at hlen
   unfold Oc at PA
   rw [List.all_eq_true] at PA
   refine ⟨acL,hlen,fun i hi=>?_,fun j o io DQ hij=>?_⟩
   ·obtain ⟨io,k1,k2⟩:=lI i ops[i] (by simp)
    exact ⟨ops[i],io,Array.getElem?_eq_getElem hi,k1,k2⟩
   ·have abD:=(Array.getElem?_eq_some_iff.1 DQ).1
    have h1:=PA j (by simpa using abD)
    have acJ:ops.toList[j]? = some o:=by simpa using DQ
    rw [acJ,hij] at h1
    simp only [Bool.and_eq_true,List.all_eq_true,decide_eq_true_eq,List.any_eq_true,Bool.or_eq_true,beq_iff_eq] at h1
    obtain ⟨⟨h2,h3⟩,h4⟩:=h1
    refine ⟨h2,fun i hi=>?_,fun i x hilt hx=>?_⟩
    ·obtain ⟨h5,k,hk,h6⟩:=h3 i hi
     refine ⟨by simpa using h5,k,hk,h6.imp id (fun h=>?_)⟩
     split at h
     ·rename_i z hz; exact ⟨z,hz,by simpa using h⟩
     ·cases h
    ·have:=h4 i (by simpa using hilt)
     rw [hx] at this
     simp only [Bool.or_eq_true,Bool.not_eq_true',List.contains_iff_mem,Bool.or_eq_false_iff] at this
     exact this
  ·cases hc
 ·cases hc
theorem Ord.pre {fF:List dY} (h:Ord P N ops fF) (j:Nat) (o:Oper) (ho:ops[j]? = some o) (i:Nat) (hij:QU fF i j):∃ e∈o.after,Region.binds .any e=true∧(e.on=i∨QU fF i e.on):=by
 obtain ⟨io,oW,hmem⟩:=hij
 obtain ⟨_,h2,_⟩:=h.dr j o io ho oW
 obtain ⟨_,k,hk,h3⟩:=h2 i hmem
 simp only [direct,List.mem_map,List.mem_filter,Array.mem_toList_iff] at hk
 obtain ⟨e,⟨he,hb⟩,zS⟩:=hk
 refine ⟨e,he,hb,?_⟩
 rw [zS]
 exact h3.imp id (fun ⟨z,hz,hiz⟩=>⟨z,hz,hiz⟩)
theorem Ord.back {fF:List dY} (h:Ord P N ops fF) (j:Nat) (o:Oper) (ho:ops[j]? = some o) (e:Edge) (he:e∈o.after) (hb:Region.binds .any e=true):e.on<j:=by
 obtain ⟨_,io,_,oW,_⟩:=h.at_ j (Array.getElem?_eq_some_iff.1 ho).1
 obtain ⟨h1,_,_⟩:=h.dr j o io ho oW
 refine h1 e.on ?_
 simp only [direct,List.mem_map,List.mem_filter,Array.mem_toList_iff]
 exact ⟨e,⟨he,hb⟩,rfl⟩
theorem Ord.lt {fF:List dY} (h:Ord P N ops fF) (i j:Nat) (hij:QU fF i j):i<ops.size:=by
 obtain ⟨io,oW,hmem⟩:=hij
 have hj:j<ops.size:=by rw [← h.len]; exact (List.getElem?_eq_some_iff.1 oW).1
 obtain ⟨o,io',ho,Pr,_⟩:=h.at_ j hj
 rw [oW] at Pr; cases Pr
 obtain ⟨_,h2,_⟩:=h.dr j o io ho oW
 exact (h2 i hmem).1
def PY:qN:={ tr:=[],td:=none,r:=.top,rd:=[],ow:=[] }
theorem An {X:Value→St→Prop} {K:St→Prop} {fF:List dY} (O:Ord P N ops fF) {lo hi:Nat} (hlh:lo≤hi) (hhi:hi≤ops.size) (LU:∀ i j,i<hi→hi≤j→j<ops.size→QU fF i j) {sg:List dY} (xF:sg.length=hi-lo)
  (hsg:∀ i io x,fF[lo+i]? = some io→sg[i]? = some x→x.dst=io.dst∧x.op=io.op∧x.guard=io.guard∧∀ k∈x.pre,lo+k∈io.pre)
  (hQ:∀ s a w listed,At G D N bf J0 bV w0 s.get s.obj a w→K s→listed.size=ops.size→(∀ j,listed.getD j false=decide (j<hi))→wpAnyIn (fz ro) nn P .any ops Q (listed.toList.count false) listed a w)
  (hX:∀ v s a w,(D.wN=false→a.defers=D.ds)→Vj G bf J0 bV w0 s.get s.obj a w→X v s→Q (.panic [{ v:=v,recovered:=false }]) a w) {s:St} (hv:eM P G X sg s [] (fun s log=>indep log=true∧K s)) {a:Act} {w:World}
  (hA:At G D N bf J0 bV w0 s.get s.obj a w) {listed:Array Bool} (hls:listed.size=ops.size) (hD:∀ j,listed.getD j false=decide (j<lo)):wpAnyIn (fz ro) nn P .any ops Q (listed.toList.count false) listed a w:=by
 have HG:∀ i,lo≤i→i<hi→∃ o io x,ops[i]? = some o∧fF[i]? = some io∧sg[i-lo]? = some x∧gp P N ops o x.pre=some x∧x.dst=io.dst∧x.tr=io.tr∧∀ k∈x.pre,lo+k∈io.pre:=by
  intro i h1 h2
  obtain ⟨o,io,ho,oW,gR⟩:=O.at_ i (by omega)
  have hx:=List.getElem?_eq_getElem (l:=sg) (i:=i-lo) (by omega)
  obtain ⟨q1,q2,q3,q4⟩:=hsg (i-lo) io _ (by rw [show lo+(i-lo)=i by omega]; exact oW) hx
  refine ⟨o,io,_,ho,oW,hx,?_,q1,by unfold dY.tr; rw [q2,q3],q4⟩
  generalize sg[i-lo]=x at *
  obtain ⟨xd,xo,xg,xp⟩:=x
  obtain ⟨d,op,g,pr⟩:=io
  dsimp only at q1 q2 q3
  subst q1 q2 q3
  unfold gp at gR ⊢
  split at gR
  ·rename_i hd
   rw [if_pos hd]
   split at gR
   ·rename_i i' g' e1 e2
    cases gR
    rfl
   ·cases gR
  ·cases gR
 let E:(Nat→qN)→Nat→qN:=fun es i=>if lo≤i∧i<hi then es (i-lo) else PY
 have Du:∀ es i,lo≤i→i<hi→E es i=es (i-lo):=fun es i h1 h2=>by simp only [E,if_pos (And.intro h1 h2)]
 have JW:∀ es i,¬ (lo≤i∧i<hi)→E es i=PY:=fun es i h=>by simp only [E,if_neg h]
 have PC:∀ (es:Nat→qN) (gJ:List iH),(∀ (i:Nat) (x:dY),sg[i]? = some x→(es i).tr=x.tr∧(es i).td=x.dst)→indep gJ=true→(∀ (i:Nat) (x:dY),sg[i]? = some x→gJ[i]? = some ⟨x.pre,(es i).rd,(es i).wr⟩)→
   ∀ i j,i<j→j<ops.size→vg (E es i) (E es j)→QU fF i j:=by
  intro es gJ B5 LP oA i j hij hj hcl
  by_cases hi1:lo≤i∧i<hi
  case neg=>rw [JW es i hi1] at hcl; simp [vg,PY,qN.wr] at hcl
  by_cases hj1:lo≤j∧j<hi
  case neg=>rw [JW es j hj1] at hcl; simp [vg,PY,qN.wr] at hcl
  rw [Du es i hi1.1 hi1.2,Du es j hj1.1 hj1.2] at hcl
  obtain ⟨oi,ioi,x,_,acT,hx,_,dxi,txi,_⟩:=HG i hi1.1 hi1.2
  obtain ⟨oj,ioj,y,DQ,abE,hy,_,dyj,tyj,hpj⟩:=HG j hj1.1 hj1.2
  refine ⟨ioj,abE,?_⟩
  obtain ⟨_,_,h3⟩:=O.dr j oj ioj DQ abE
  rcases h3 i ioi hij acT with h | ⟨hT,hT'⟩
  ·exact h
  ·obtain ⟨tx,dx⟩:=B5 _ x hx
   obtain ⟨ty,dy⟩:=B5 _ y hy
   have Fq:=oA _ x hx
   have Pj:=oA _ y hy
   rw [txi] at tx; rw [dxi] at dx; rw [tyj] at ty; rw [dyj] at dy
   have hin:i-lo∈y.pre→i∈ioj.pre:=fun h=>by
    have:=hpj _ h
    rwa [show lo+(i-lo)=i by omega] at this
   rcases hcl with ⟨t,h1,h2⟩ | ⟨t,h1,h2⟩ | ⟨q,h1,h2⟩ | ⟨q,h1,h2⟩
   ·exfalso
    rw [dx] at h1; rw [ty,dy] at h2
    simp only [Iu,h1,Bool.or_eq_false_iff] at hT
    rcases h2 with h2 | h2
    ·have:=hT.1; simp [h2] at this
    ·have:=hT.2; simp [h2] at this
   ·exfalso
    rw [dy] at h1; rw [tx] at h2
    simp [DI,h1,h2] at hT'
   ·refine hin (zM LP Fq Pj (by omega) ?_)
    simp only [Ay,Bool.or_eq_true,List.any_eq_true,List.contains_iff_mem]
    exact .inl ⟨q,h1,h2⟩
   ·refine hin (zM LP Fq Pj (by omega) ?_)
    simp only [Ay,Bool.or_eq_true,List.any_eq_true,List.contains_iff_mem]
    exact .inr ⟨q,h1,h2⟩
 have ZN:∀ (es:Nat→qN) (ss:Nat→St),ss 0=s→(∀ (i:Nat) (x:dY),sg[i]? = some x→(ss (i+1)).get=gx (es i).td (es i).r (ss i).get∧(ss (i+1)).obj=cL (es i).ow (ss i).obj)→∀ k,k≤ops.size→jS (E es) s.get s.obj (fun _=>true) k=((ss (min k hi-lo)).get,(ss (min k hi-lo)).obj):=by
  intro es ss h0 hnx k
  induction k with
  | zero=>intro _; simp only [jS,Nat.zero_min,Nat.zero_sub,h0]
  | succ k ih=>
    intro hk
    simp only [jS,if_true,ih (by omega)]
    by_cases hin:lo≤k∧k<hi
    ·obtain ⟨_,_,x,_,_,hx,_⟩:=HG k hin.1 hin.2
     obtain ⟨n1,n2⟩:=hnx _ x hx
     rw [Du es k hin.1 hin.2,show min (k+1) hi-lo=(k-lo)+1 by omega,show min k hi-lo=k-lo by omega,n1,n2]
    ·rw [JW es k hin,show min (k+1) hi-lo=min k hi-lo by omega]
     refine Prod.ext (funext fun t=>?_) rfl
     simp [gx,PY]
 have uE:∀ (es:Nat→qN) (ss:Nat→St),ss 0=s→(∀ (i:Nat) (x:dY),sg[i]? = some x→(ss (i+1)).get=gx (es i).td (es i).r (ss i).get∧(ss (i+1)).obj=cL (es i).ow (ss i).obj)→∀ i,i≤ops.size→jS (E es) s.get s.obj (fun j=>decide (j<i)) ops.size=((ss (min i hi-lo)).get,(ss (min i hi-lo)).obj):=by
  intro es ss h0 hnx i hi
  rw [← ZN es ss h0 hnx i hi]
  have h1:∀ k,i≤k→jS (E es) s.get s.obj (fun j=>decide (j<i)) k=jS (E es) s.get s.obj (fun j=>decide (j<i)) i:=by
   intro k
   induction k with
   | zero=>intro h; have:i=0:=by omega
           subst this; rfl
   | succ k ih=>
     intro h
     by_cases hki:i=k+1
     ·subst hki; rfl
     ·rw [← ih (by omega)]
      simp only [jS]
      rw [if_neg (by simp; omega)]
  have h2:∀ k,k≤i→jS (E es) s.get s.obj (fun j=>decide (j<i)) k=jS (E es) s.get s.obj (fun _=>true) k:=by
   intro k
   induction k with
   | zero=>intro _; rfl
   | succ k ih=>
     intro h
     simp only [jS,ih (by omega),if_true]
     rw [if_pos (by simp; omega)]
  rw [h1 _ hi,h2 _ (Nat.le_refl _)]
 have hI0:∀ (es:Nat→qN) (ss:Nat→St),ss 0=s→(∀ (i:Nat) (x:dY),sg[i]? = some x→(ss (i+1)).get=gx (es i).td (es i).r (ss i).get∧(ss (i+1)).obj=cL (es i).ow (ss i).obj)→At G D N bf J0 bV w0 (jS (E es) s.get s.obj (fun j=>listed.getD j false) ops.size).1 (jS (E es) s.get s.obj (fun j=>listed.getD j false) ops.size).2 a w:=by
  intro es ss h0 hnx
  rw [show (fun j=>listed.getD j false)=fun j=>decide (j<lo) from funext hD,uE es ss h0 hnx lo (by omega),show min lo hi-lo=0 by omega,h0]
  exact hA
 have abM:∀ (j:Nat) (o:Oper),ops[j]? = some o→listed.getD j false=true→∀ e∈o.after,Region.binds .any e=true→listed.getD e.on false=true:=fun j o ho hj e he hb=>by
  have:=O.back j o ho e he hb
  rw [hD] at hj ⊢
  simp at hj ⊢; omega
 have hlo:∀ j,j<lo→listed.getD j false=true:=fun j hj=>by rw [hD]; simp [hj]
 rcases yh sg s [] hv with ⟨ss,es,gJ,h0,hst,⟨LP,hK⟩,sV,oA,_⟩ | ⟨p,op,ss,es,gJ,_,Uu,h0,hst,⟨LP,Zu⟩,sV,oA,_⟩
 ·simp only [List.length_nil,Nat.zero_add] at oA
  have B5:∀ (i:Nat) (o:dY),sg[i]? = some o→(es i).tr=o.tr∧(es i).td=o.dst:=by
   intro i o hi
   rcases hst i o hi with ⟨_,e,_,h1,_⟩ | ⟨_,h1,_⟩ <;> rw [h1] <;> exact ⟨rfl,rfl⟩
  have hnx:=fun (i:Nat) (x:dY) hx=>(hst i x hx).next
  refine Gs (E:=E es) (g0:=s.get) (o0:=s.obj) (R:=QU fF) (fun g obj a w=>At G D N bf J0 bV w0 g obj a w) lo hi hhi LU (PC es gJ B5 LP oA) O.pre O.back O.lt ?_ ?_ _ listed a w hls rfl (fun j hj=>?_) hlo abM (hI0 es ss h0 hnx)
  ·intro i g obj HO HR hg ho a w K' uH AR
   obtain ⟨o,io,x,hoi,oW,hx,gR,_⟩:=HG i HO HR
   rw [uE es ss h0 hnx i (by omega),show min i hi-lo=i-lo by omega,Du es i HO HR] at hg ho
   rw [Du es i HO HR] at AR
   have:=CY (ro:=ro) (nn:=nn) (ops:=ops) (Q:=Q) gR (hst _ x hx) hg ho uH AR
   unfold wpOpIn
   simp only [hoi]
   exact this
  ·intro listed a w hls hD hI
   rw [uE es ss h0 hnx hi hhi,show min hi hi-lo=sg.length by omega] at hI
   exact hQ _ a w listed hI hK hls hD
  ·rw [hD] at hj; simp at hj; omega
 ·rw [List.length_nil,Nat.sub_zero] at Uu
  simp only [List.length_nil,Nat.zero_add] at oA hst sV
  have lZ:p<sg.length:=(List.getElem?_eq_some_iff.1 Uu).1
  have hlp:lo+p<hi:=by omega
  have B5:∀ (i:Nat) (o:dY),sg[i]? = some o→(es i).tr=o.tr∧(es i).td=o.dst:=fun i o hi=>(hst i o hi).tr
  have hnx:=fun (i:Nat) (x:dY) hx=>(hst i x hx).next
  obtain ⟨op0,iop,x0,acI,Dq,hx0,ac0,_,_,abo⟩:=HG (lo+p) (by omega) hlp
  rw [show lo+p-lo=p by omega,Uu] at hx0
  cases hx0
  refine Kv (E:=E es) (g0:=s.get) (o0:=s.obj) (R:=QU fF) (fun g obj a w=>At G D N bf J0 bV w0 g obj a w) lo (lo+p) (by omega) (PC es gJ B5 LP oA) O.pre O.back O.lt ?_ ?_ ?_ _ listed a w hls rfl abM hlo (by rw [hD]; simp) (hI0 es ss h0 hnx)
  ·intro i g obj HO acS hip hRp hg ho a w K' uH AR
   have HR:i<hi:=by
    rcases Nat.lt_or_ge i hi with h | h
    ·exact h
    ·exact absurd (LU (lo+p) i hlp h acS) hRp
   obtain ⟨o,io,x,hoi,oW,hx,gR,_,_,hpx⟩:=HG i HO HR
   rw [uE es ss h0 hnx i (by omega),show min i hi-lo=i-lo by omega,Du es i HO HR] at hg ho
   rw [Du es i HO HR] at AR
   have hstep:sw P G x (ss (i-lo)) (es (i-lo)) (ss (i-lo+1)):=by
    have h1:=hst _ x hx
    unfold o_ at h1
    by_cases hlt:i-lo<p
    ·rw [if_pos hlt] at h1; exact h1
    ·rw [if_neg hlt,if_neg (by omega)] at h1
     rcases h1 with ⟨h2,_⟩ | ⟨_,h2⟩
     ·exact absurd ⟨io,oW,hpx p h2⟩ hRp
     ·exact h2
   have:=CY (ro:=ro) (nn:=nn) (ops:=ops) (Q:=Q) gR hstep hg ho uH AR
   unfold wpOpIn
   simp only [hoi]
   exact this
  ·intro j hj hne
   by_cases hin:lo≤j∧j<hi
   case neg=>rw [JW es j hin] at hne; exact absurd rfl hne
   rw [Du es j hin.1 hin.2] at hne
   obtain ⟨_,_,y,_,_,hy,_⟩:=HG j hin.1 hin.2
   have Pj:=oA _ y hy
   unfold EF at Zu
   rw [Bool.and_eq_true,List.all_eq_true,List.all_eq_true] at Zu
   obtain ⟨k1,k2⟩:=Zu
   have k3:=k2 (j-lo) (by rw [List.mem_range,sV]; omega)
   rw [Pj] at k3
   simp only [Bool.or_eq_true,List.contains_iff_mem,List.isEmpty_iff] at k3
   have k4:j-lo∈op.pre:=k3.resolve_right hne
   have k5:=k1 _ k4
   simp only [decide_eq_true_eq] at k5
   have:=abo _ k4
   rw [show lo+(j-lo)=j by omega] at this
   exact ⟨⟨iop,Dq,this⟩,by omega⟩
  ·intro g obj hg ho a w K' uH
   rw [uE es ss h0 hnx (lo+p) (by omega),show min (lo+p) hi-lo=p by omega] at hg ho
   rw [Du es (lo+p) (by omega) hlp,show lo+p-lo=p by omega] at hg
   have h1:=hst p op Uu
   unfold o_ at h1
   rw [if_neg (by omega),if_pos rfl] at h1
   obtain ⟨v,e,Pd,hXv,dO,_⟩:=h1
   obtain ⟨h3,h4⟩:=NW (ops:=ops) (Q:=Q) ac0 Pd (fun t ht=>hg t (by rw [dO]; exact ht)) ho uH K' (fun hd w' ⟨J,ι,h1,h2,_⟩=>hX v ⟨[],_⟩ a w' hd ⟨J,ι,h1,h2,fun _=>trivial⟩ hXv)
   unfold wpOpIn
   simp only [acI]
   rw [if_pos h3]
   exact h4
theorem Ao {X:Value→St→Prop} {K:St→Prop} (hQ:∀ s a w,At G D N bf J0 bV w0 s.get s.obj a w→K s→Q .normal a w) (hX:∀ v s a w,(D.wN=false→a.defers=D.ds)→Vj G bf J0 bV w0 s.get s.obj a w→X v s→Q (.panic [{ v:=v,recovered:=false }]) a w) {fF:List dY} (hc:mI P N ops true=some fF) {s:St} (hv:eM P G X fF s [] (fun s log=>indep log=true∧K s)) {a:Act} {w:World}
  (hA:At G D N bf J0 bV w0 s.get s.obj a w):P.follows .mixedOrders=true∧wpAnyIn (fz ro) nn P .any ops Q ops.size (Array.replicate ops.size false) a { w with drawn:=w.drawn+1 }:=by
 have O:=Ord.of hc
 refine ⟨O.mix,?_⟩
 have LR:(Array.replicate ops.size false).toList.count false=ops.size:=by simp
 have:=An (ro:=ro) (nn:=nn) (hi:=ops.size) (lo:=0) (a:=a) (w:={ w with drawn:=w.drawn+1 }) (s:=s) O (Nat.zero_le _) (Nat.le_refl _) (fun i j _ h1 h2=>absurd h2 (by omega)) (by rw [O.len]; rfl) (fun i io x h1 h2=>by rw [Nat.zero_add,h2] at h1; cases h1; exact ⟨rfl,rfl,rfl,fun k hk=>by rwa [Nat.zero_add]⟩) (fun s a w listed h1 h2 h3 h4=>wpAny_done h3 h4 (hQ s a w h1 h2)) hX hv hA.drew (listed:=Array.replicate ops.size false) (by simp) (fun j=>by by_cases h:j<ops.size <;> simp [h])
 rw [LR] at this
 exact this
def Qo (fF:List dY) (p:Nat):Bool:=(match fF[p]? with
 | some io=>(match io.op with | .call (.t _) _=>true | _=>false)&&(List.range p).all (io.pre.contains ·)
 | none=>false)&&(List.range fF.length).all fun j=>decide (j≤p)||(match fF[j]? with | some z=>(List.range (p+1)).all (z.pre.contains ·) | none=>true)
def Z1 (fF:List dY):Option Nat:=(List.range fF.length).find? (Qo fF)
def CI (m:Nat) (io:dY):dY:={ io with pre:=(io.pre.filter (decide <| m≤·)).map (· - m) }
theorem Qe {Y:YO} (hY:oO P G ro Y D N bf J0 bV w0) {X:Value→St→Prop} {K:St→Prop} (hQ:∀ s a w,At G D N bf J0 bV w0 s.get s.obj a w→K s→Q .normal a w) (hX:∀ v s a w,(D.wN=false→a.defers=D.ds)→Vj G bf J0 bV w0 s.get s.obj a w→X v s→Q (.panic [{ v:=v,recovered:=false }]) a w) {fF:List dY} (hc:mI P N ops true=some fF) {p:Nat} {io:dY} (hp:fF[p]? = some io) (hb:Qo fF p=true) {s:St}
  (hv:eM P G X (fF.take p) s [] (fun s log=>indep log=true∧gy P G Y X [io] s (fun s=>eM P G X ((fF.drop (p+1)).map (CI (p+1))) s [] (fun s log=>indep log=true∧K s)))) {a:Act} {w:World}
  (hA:At G D N bf J0 bV w0 s.get s.obj a w) {rid:Nat} : (Code.region rid ops true).wpIn (fz ro) nn P Q a w:=by
 have O:=Ord.of hc
 have lZ:p<fF.length:=(List.getElem?_eq_some_iff.1 hp).1
 have hps:p<ops.size:=by rw [← O.len]; exact lZ
 unfold Qo at hb
 rw [hp,Bool.and_eq_true,Bool.and_eq_true,List.all_eq_true,List.all_eq_true] at hb
 obtain ⟨⟨_,hb1⟩,hb2⟩:=hb
 have hA1:∀ i,i<p→QU fF i p:=fun i hi=>⟨io,hp,by simpa using hb1 i (by simpa using hi)⟩
 have hA2:∀ i j,i≤p→p<j→j<ops.size→QU fF i j:=fun i j hi hj hjs=>by
  obtain ⟨_,z,_,hz,_⟩:=O.at_ j hjs
  have h1:=hb2 j (by rw [List.mem_range,O.len]; exact hjs)
  rw [hz,show decide (j≤p)=false by simpa using hj,Bool.false_or,List.all_eq_true] at h1
  exact ⟨z,hz,by simpa using h1 i (by simp; omega)⟩
 have LR:(Array.replicate ops.size false).toList.count false=ops.size:=by simp
 have h:=An (ro:=ro) (nn:=nn) (hi:=p) (lo:=0) (a:=a) (w:={ w with drawn:=w.drawn+1 }) (s:=s) O (Nat.zero_le _) (by omega) (fun i j h1 h2 h3=>by
   rcases Nat.lt_or_ge p j with h | h
   ·exact hA2 i j (by omega) h h3
   ·obtain rfl:j=p:=by omega
    exact hA1 i h1) (by simp; omega) (fun i io x h1 h2=>by
   rw [Nat.zero_add] at h1
   rw [List.getElem?_take] at h2
   split at h2
   ·rw [h1] at h2
    cases h2; exact ⟨rfl,rfl,rfl,fun k hk=>by rwa [Nat.zero_add]⟩
   ·cases h2) (fun s a w listed h1 h2 h3 h4=>?_) hX hv hA.drew (listed:=Array.replicate ops.size false) (by simp) (fun j=>by by_cases h:j<ops.size <;> simp [h])
 ·rw [LR] at h
  exact wpIn_region_any O.mix h
 ·refine Kw (R:=QU fF) hps (fun j hj hjs=>hA2 p j (Nat.le_refl _) hj hjs) O.pre O.back h3 h4 (fun K' AR=>?_)
  obtain ⟨o,io',ho,Pr,gR⟩:=O.at_ p hps
  rw [hp] at Pr; cases Pr
  have hnext:∀ s' a' w',eM P G X ((fF.drop (p+1)).map (CI (p+1))) s' [] (fun s log=>indep log=true∧K s)→At G D N bf J0 bV w0 s'.get s'.obj a' w'→K' a' w':=fun s' a' w' hv' uH=>AR _ _ fun uw h5 h6=>by
   refine An (hi:=ops.size) (lo:=p+1) (s:=s') O (by omega) (Nat.le_refl _) (fun i j _ h1 h2=>absurd h2 (by omega)) (by simp [O.len]) (fun i io x h1 h2=>?_) (fun s a w listed h1 h2 h3 h4=>wpAny_done h3 h4 (hQ s a w h1 h2)) hX hv' uH h5 h6
   rw [List.getElem?_map,List.getElem?_drop,h1] at h2
   cases h2
   refine ⟨rfl,rfl,rfl,fun k hk=>?_⟩
   simp only [CI,List.mem_map,List.mem_filter,decide_eq_true_eq] at hk
   obtain ⟨k0,⟨hk0,vS⟩,rfl⟩:=hk
   rwa [show p+1+(k0-(p+1))=k0 by omega]
  simp only [gy] at h2
  have:=BM (ro:=ro) (nn:=nn) (ops:=ops) (Q:=Q) hY (fun v _ s a w h1 h2 h3=>hX v s a w h1 h2 h3) gR h2 h1 (fun s' _=>hnext s') hnext
  unfold wpOpIn
  simp only [ho]
  exact this
theorem Am {X:Value→St→Prop} {K:St→Prop} (hQ:∀ s a w,At G D N bf J0 bV w0 s.get s.obj a w→K s→Q .normal a w) (hX:∀ v s a w,(D.wN=false→a.defers=D.ds)→Vj G bf J0 bV w0 s.get s.obj a w→X v s→Q (.panic [{ v:=v,recovered:=false }]) a w) {fF:List dY} (hc:mI P N ops true=some fF) {s:St} (hv:eM P G X fF s [] (fun s log=>indep log=true∧K s)) {a:Act} {w:World}
  (hA:At G D N bf J0 bV w0 s.get s.obj a w) {rid:Nat} : (Code.region rid ops true).wpIn (fz ro) nn P Q a w:=
 have h:=Ao hQ hX hc hv hA
 wpIn_region_any h.1 h.2
end
end Dv
namespace Dv
open Go
inductive C where
 | skip
 | qV (ops:List dY)
 | nq (ops:List dY)
 | seq (a b:C)
 | cond (c:bM) (a b:C)
 | block (i:Nat) (b:C)
 | loop (b:C)
 | exit (i:Nat)
 | ret
 | scope (b:C)
 | YA (g:bM) (ps:List Nat) (a b:C)
inductive RV where
 | t (n:Nat)
 | c1 (n:Nat)
 | cn (n size:Nat)
structure wo where
 n:St→Prop
 x:Nat→St→Prop
 r:St→Prop
 y:YO
 b:Option Nat
def gN:Nat:=4294967295
def jT (v:Value) (s:St):St:=⟨(gN,.d (.val v))::s.env,s.af⟩
def St.keep (s:St) (ts:List Nat) (m:Nat):St:={ env:=ts.map fun t=>(t,s.get t),af:=s.af.take m }
def Vt (m:Nat):Option aC→Bool
 | some ob=>dV m ob
 | none=>true
def St.CZ (s:St) (ts:List Nat) (m:Nat):Prop:=(ts.all fun t=>eB m (s.get t))=true∧((s.af.take m).all (Vt m))=true∧m≤s.af.length
inductive Ad where
 | t (q:Nat) (et:TypeId) (aJ:Nat)
 | b (o col:Nat) (et:TypeId) (aJ:Nat)
 | l (o col:Nat) (et:TypeId) (aJ:Nat)
 | nb (et:TypeId)
 | ab (L p B z:Nat)
def ab0 (s:St) (L p B z:Nat):Option (TypeId×List (List DV)×List (List (List DV))×TypeId×Nat×Nat×List LV×Nat×Nat):=
 match s.obj z,s.obj B,s.obj L with
 | .live (.dat et 1 rows),.live (.mZ et' bs),.live (.lr lt le lv cells)=>match cells[p]? with
   | some (.sl z' n 1 lo len)=>if z'=z∧n=rows.length∧et=et'∧rows≠[] then some (et,rows,bs,lt,le,lv,cells,lo,len) else none
   | _=>none
 | _,_,_=>none
def Ad.ap (s:St):Ad→St
 | .l o col et aJ=>match s.obj o with
   | .live (.box bt cells)=>match cells[col]? with
     | some v=>if isNil v=true then ⟨s.env,s.af.set o (some (.box bt (cells.set col (.sl s.af.length 0 aJ 0 0))))++[some (.lr et aJ 0 [])]⟩ else s
     | none=>s
   | _=>s
 | .nb et=>⟨s.env,s.af++[some (.mZ et [])]⟩
 | .ab L p B z=>match ab0 s L p B z with
   | some (et,rows,bs,lt,le,lv,cells,lo,len)=>⟨s.env,((s.af.set B (some (.mZ et (bs++[rows])))).set z none).set L (some (.lr lt le lv (cells.set p (.sl B bs.length 1 lo len))))⟩
   | none=>s
 | .t q et aJ=>if isNil (s.get q)=true then ⟨(q,.sl s.af.length 0 aJ 0 0)::s.env,s.af++[some (.dat et aJ [])]⟩ else s
 | .b o col et aJ=>match s.obj o with
   | .live (.box bt cells)=>match cells[col]? with
     | some v=>if isNil v=true then ⟨s.env,s.af.set o (some (.box bt (cells.set col (.sl s.af.length 0 aJ 0 0))))++[some (.dat et aJ [])]⟩ else s
     | none=>s
   | _=>s
def c_:List Ad→St→St
 | [],s=>s
 | x::xs,s=>c_ xs (x.ap s)
def nR (G:Nat→Option (List DV)) (D:Dk) (N:Nat) (bf:Nat→b_) (J0:Nat→Prop) (bV:Nat→Nat→Option Nat) (w0:World) (s:St) (a:Act) (w:World):Prop:=At G D N bf J0 bV w0 s.get s.obj a w
def IU (G:Nat→Option (List DV)) (m:Nat) (s s':St):Prop:=∀ (D:Dk) (N:Nat) (bf:Nat→b_) (J0:Nat→Prop) (bV:Nat→Nat→Option Nat) (w0:World) (a:Act) (w:World),(∀ o n b,bV o n=some b→o<m)→nR G D N bf J0 bV w0 s a w→nR G D N bf J0 bV w0 s' a w
theorem IU.le {G:Nat→Option (List DV)} {m m':Nat} {s s':St} (h:m≤m') (k:IU G m' s s'):IU G m s s':=fun D N bf J0 bV w0 a w hm hA=>k D N bf J0 bV w0 a w (fun o n b hb=>Nat.lt_of_lt_of_le (hm o n b hb) h) hA
def IE:Option Nat→Nat→Nat
 | none,m=>m
 | some B,m=>min B m
theorem U5 (b:Option Nat) (m:Nat):IE b m≤m:=by
 cases b with
 | none=>exact Nat.le_refl _
 | some B=>exact Nat.min_le_right B m
def MT (b:Option Nat) (bV:Nat→Nat→Option Nat):Prop:=∀ B,b=some B→∀ o n x,bV o n=some x→o<B
theorem MT.no (bV:Nat→Nat→Option Nat):MT none bV:=fun _ h=>by cases h
theorem MT.lt {b:Option Nat} {bV:Nat→Nat→Option Nat} (h:MT b bV) {m:Nat} (hm:∀ o n x,bV o n=some x→o<m):∀ o n x,bV o n=some x→o<IE b m:=by
 cases b with
 | none=>exact hm
 | some B=>exact fun o n x hx=>Nat.lt_min.2 ⟨h B rfl o n x hx,hm o n x hx⟩
def ia:LV:=.d (.val Go.undef)
def jv:LV:=.dH []
def su:List Nat→List LV→List (Nat×LV)→List (Nat×LV)
 | p::ps,a::as,env=>su ps as ((p,a)::env)
 | _,_,env=>env
def j7:C→Bool
 | .seq a b=>j7 a&&j7 b
 | .cond _ a b=>j7 a&&j7 b
 | .block _ b=>j7 b
 | .loop b=>j7 b
 | .scope b=>j7 b
 | .YA ..=>false
 | _=>true
def Gf (P:Program) (G:Nat→Option (List DV)) (k:Nat) (args:List LV) (af:List (Option aC)) (Y:YO) (R:LV→List (Option aC)→Prop):Prop:=
 mG P k=true∧∀ (D:Dk) (bf:Nat→b_) (J0:Nat→Prop) (bV:Nat→Nat→Option Nat) (w0:World) (J:Nat→Prop) (ι:Nat→Nat→Option Nat) (w:World) (vs:Array Value),D.ds=[]→D.wN=false→
  aF G J w ι (au af)→ck J w ι args vs.toList→Ext bf (au af) J0 J bV ι w0 w→D.ys ia w→(∀ N,oO P G none Y D N bf J0 bV w0)→
  Calls P k vs w (fun e w'=>∃ v,e=.returned v∧∃ yv ay J' ι',R yv ay∧D.ys yv w'∧aF G J' w' ι' (au ay)∧Ext bf (au ay) J0 J' bV ι' w0 w')
section
variable (P:Program) (G:Nat→Option (List DV))
def vc:C→St→wo→Prop
 | .skip,s,K=>K.n s
 | .qV ops,s,K=>gy P G K.y (fun v s'=>K.x gN (jT v s')) ops s K.n
 | .nq ops,s,K=>eM P G (fun v s'=>K.x gN (jT v s')) ops s [] (fun s log=>indep log=true∧K.n s)
 | .seq a b,s,K=>vc a s { K with n:=fun s'=>vc b s' K }
 | .cond c a b,s,K=>match c.ev G s.get with
   | .d (.val (.bool t))=>if t=true then vc a s K else vc b s K
   | .dM=>vc a s K∧vc b s K
   | _=>False
 | .block i b,s,K=>vc b s { K with x:=fun j s'=>if j=i then K.n s' else K.x j s' }
 | .loop b,s,K=>∃ (ts:List Nat) (I:Nat→St→Prop) (N:Nat) (ad:List Ad),I N { (c_ ad s) with env:=ts.map fun t=>(t,(c_ ad s).get t) }∧
   ∀ k s',I k s'→vc b s' { K with n:=fun s''=>∃ j,j<k∧∃ s3,I j s3∧IU G (IE K.b (c_ ad s).af.length) s'' s3 }
 | .exit i,s,K=>K.x i s
 | .ret,s,K=>K.r s
 | .scope b,s,K=>vc b s K
 | .YA g ps a b,s,K=>match callee (g.ev G s.get) with
   | some (k,fs,cs)=>∃ (jm:Option Nat) (R:LV→List (Option aC)→Prop),Gf P G k (fs++[.yl s.af.length]++cs) (s.af++[none])
     (fun as af ys K'=>ys=ia∧as.head? = some (.yl s.af.length)∧as.tail.length=ps.length∧vc a ⟨su ps as.tail s.env,af⟩ ⟨fun s1=>vc b s1 ⟨fun s'=>K' ia true s'.af,fun i s'=>i≠gN∧jm=some i∧K' jv false s'.af,fun s'=>jm=none∧K' jv false s'.af,qZ,none⟩,fun _ _=>False,fun _=>False,qZ,none⟩) R∧
     ∀ yv ay,R yv ay→(yv=ia∧K.n ⟨s.env,ay⟩)∨(yv=jv∧match jm with | some i=>i≠gN∧K.x i ⟨s.env,ay⟩ | none=>K.r ⟨s.env,ay⟩)
   | none=>False
end
def GG (fF:List dY):C:=match Z1 fF with
 | some p=>match fF[p]? with
   | some io=>.seq (.nq (fF.take p)) (.seq (.qV [io]) (.nq ((fF.drop (p+1)).map (CI (p+1)))))
   | none=>.nq fF
 | none=>.nq fF
def eD (P:Program) (N:Nat):Code→Option C
 | .skip=>some .skip
 | .region _ ops draw=>match mI P N ops draw with
   | some fF=>some (if draw then GG fF else .qV fF)
   | none=>none
 | .seq a b=>match eD P N a,eD P N b with | some a,some b=>some (.seq a b) | _,_=>none
 | .cond c a b=>match aI c,eD P N a,eD P N b with | some c,some a,some b=>some (.cond c a b) | _,_,_=>none
 | .block i b=>match eD P N b with | some b=>if i=gN then none else some (.block i b) | none=>none
 | .loop b=>match eD P N b with | some b=>some (.loop b) | none=>none
 | .exit i=>if i=gN then none else some (.exit i)
 | .scope b=>match eD P N b with | some b=>some (.scope b) | none=>none
 | .ret=>some .ret
 | .label _=>some .skip
 | .rangeFunc g ps a b=>match aI g,eD P N a,eD P N b with
   | some g,some a,some b=>if (j7 a&&j7 b&&ps.toList.all fun p=>decide (p<N))=true then some (.YA g ps.toList a b) else none
   | _,_,_=>none
 | _=>none
theorem lK (f:Nat→LV):∀ (ts:List Nat) (t:Nat),aW (ts.map fun t=>(t,f t)) t=if t∈ts then f t else .top
 | [],t=>by simp [aW]
 | x::ts,t=>by
   simp only [List.map_cons,aW,List.mem_cons,lK f ts t]
   by_cases h:x=t
   ·subst h; simp
   ·have:¬ t=x:=fun e=>h e.symm
    simp [h,this]
theorem Je:(∀ x:LV,rn (fun i=>i) x=x)∧(∀ xs:List LV,mw (fun i=>i) xs=xs):=by
 have one:∀ n,(∀ x:LV,sizeOf x<n→rn (fun i=>i) x=x)∧(∀ xs:List LV,sizeOf xs<n→mw (fun i=>i) xs=xs):=by
  intro n
  induction n with
  | zero=>exact ⟨fun _ h=>absurd h (by omega),fun _ h=>absurd h (by omega)⟩
  | succ n ih=>
    refine ⟨fun x hs=>?_,fun xs hs=>?_⟩
    ·cases x <;> simp only [rn] <;> simp at hs
     ·rw [ih.2 _ (by omega),ih.2 _ (by omega)]
     ·rw [ih.2 _ (by omega)]
     ·rw [ih.2 _ (by omega)]
     ·rw [ih.1 _ (by omega)]
    ·cases xs with
     | nil=>rfl
     | cons x xs=>
       simp at hs
       simp only [mw]
       rw [ih.1 _ (by omega),ih.2 _ (by omega)]
 exact ⟨fun x=>(one (sizeOf x+1)).1 x (by omega),fun xs=>(one (sizeOf xs+1)).2 xs (by omega)⟩
section
variable {P:Program} {G:Nat→Option (List DV)} {D:Dk} {N:Nat} {bf:Nat→b_} {J0:Nat→Prop} {bV:Nat→Nat→Option Nat} {w0:World}
def KQ (G:Nat→Option (List DV)) (D:Dk) (N:Nat) (bf:Nat→b_) (J0:Nat→Prop) (bV:Nat→Nat→Option Nat) (w0:World) (K:wo):Exit→Act→World→Prop
 | .normal,a,w=>∃ s,nR G D N bf J0 bV w0 s a w∧K.n s
 | .exit i,a,w=>i≠gN∧∃ s,nR G D N bf J0 bV w0 s a w∧K.x i s
 | .ret,a,w=>∃ s,nR G D N bf J0 bV w0 s a w∧K.r s
 | .panic ch,a,w=>∃ v s,ch=[{ v:=v,recovered:=false }]∧(D.wN=false→a.defers=D.ds)∧Vj G bf J0 bV w0 s.get s.obj a w∧K.x gN (jT v s)
 | _,_,_=>False
theorem nR.bound {s:St} {a:Act} {w:World} (h:nR G D N bf J0 bV w0 s a w) {o n b:Nat} (hb:bV o n=some b):o<s.af.length:=by
 obtain ⟨J,ι,S,E⟩:=h.ex
 have h1:=E.ev.gQ o n b hb
 rcases Nat.lt_or_ge o s.af.length with h2 | h2
 ·exact h2
 ·have:=S.store.rep o
  have hf:s.obj o=.free:=cv h2
  rw [hf] at this
  rw [this n] at h1; cases h1
theorem nR.aaI {s:St} {a:Act} {w:World} (h:nR G D N bf J0 bV w0 s a w) (ts:List Nat):nR G D N bf J0 bV w0 { s with env:=ts.map fun t=>(t,s.get t) } a w:=by
 obtain ⟨J,ι,S,E⟩:=h.ex
 refine ⟨J,ι,⟨S.store,fun t=>?_,S.size,S.defers,?_,S.lim⟩,E⟩
 rotate_left
 ·show D.ys (aW (ts.map fun t=>(t,s.get t)) YS) _
  rw [lK]
  split
  ·exact S.ys
  ·exact D.top _
 show cT J w ι (aW (ts.map fun t=>(t,s.get t)) t) _
 rw [lK]
 split
 ·exact S.env t
 ·trivial
theorem nR.keep {s:St} {a:Act} {w:World} (h:nR G D N bf J0 bV w0 s a w) {ts:List Nat} {m:Nat} (hk:s.CZ ts m) (hm:∀ o n b,bV o n=some b→o<m):nR G D N bf J0 bV w0 (s.keep ts m) a w:=by
 obtain ⟨J,ι,S,E⟩:=h.ex
 obtain ⟨h1,h2,h3⟩:=hk
 let ι':Nat→Nat→Option Nat:=fun o n=>if o<m then ι o n else none
 have dN:∀ o n b,o<m→ι ((fun i=>i) o) n=some b→ι' o n=some b:=fun o n b ho hb=>by simp only [ι',if_pos ho]; exact hb
 have rL:∀ o,(s.keep ts m).obj o=if o<m then s.obj o else .free:=by
  intro o
  show au (s.af.take m) o=_
  by_cases ho:o<m
  ·rw [if_pos ho]
   simp only [St.obj,au,List.getElem?_take_of_lt ho]
  ·rw [if_neg ho,cv (by simp; omega)]
 have hown:∀ o b,((s.keep ts m).obj o).own ι' o b→(s.obj o).own ι o b:=by
  intro o b hb
  rw [rL] at hb
  by_cases ho:o<m
  ·rw [if_pos ho] at hb
   exact (b_.j6 (fun n=>by simp only [ι',if_pos ho])).1 hb
  ·rw [if_neg ho] at hb; exact hb.elim
 refine ⟨J,ι',⟨⟨fun o=>?_,fun o o' b k k'=>S.store.inj o o' b (hown o b k) (hown o' b k'),fun o b k=>S.store.oH o b (hown o b k),S.store.jcell,S.store.uI⟩,fun t=>?_,S.size,S.defers,?_,S.lim⟩,?_,?_⟩
 ·rw [rL]
  by_cases ho:o<m
  ·rw [if_pos ho]
   have hr:=S.store.rep o
   have hid:∀ ob,s.obj o=.live ob→dV m ob=true:=fun ob en=>by
    rw [List.all_eq_true] at h2
    have:some ob∈s.af.take m:=by
     simp only [St.obj,au] at en
     split at en
     ·cases en
     ·cases en
     ·rename_i ob' hh
      cases en
      exact List.mem_of_getElem? (i:=o) (by rw [List.getElem?_take_of_lt ho]; exact hh)
    exact h2 _ this
   have hk:∀ n,ι' o n=ι o n:=fun n=>by simp only [ι',if_pos ho]
   cases hs:s.obj o with
   | free=>rw [hs] at hr; intro n; rw [hk]; exact hr n
   | dead=>trivial
   | live ob=>
     rw [hs] at hr
     have hi:=hid ob hs
     cases ob with
     | box et cells=>
       obtain ⟨⟨b,C,k1,k2,k3⟩,_⟩:=hr
       refine ⟨⟨b,C,by rw [hk]; exact k1,k2,bA.rn (k0:=m) (π:=fun i=>i) dN cells _ (by simpa [dV] using hi) (by rw [Je.2]; exact k3)⟩,trivial⟩
     | mp es=>
       obtain ⟨⟨b,C,c,k1,k2,k3⟩,_⟩:=hr
       refine ⟨⟨b,C,c,by rw [hk]; exact k1,k2,iO.rn (k0:=m) (π:=fun i=>i) dN es _ (by simpa [dV] using hi) ?_⟩,trivial⟩
       rw [show (es.map fun p=>(p.1,rn (fun i=>i) p.2))=es from by simp [Je.1]]; exact k3
     | mZ et bs=>
       obtain ⟨⟨h1,h2⟩,hkey⟩:=hr
       refine ⟨⟨fun k rows hr=>?_,fun k k' b=>by rw [hk,hk]; exact h2 k k' b⟩,fun n hn=>by rw [hk]; exact hkey n hn⟩
       obtain ⟨b,C,h3,h4⟩:=h1 k rows hr
       exact ⟨b,C,by rw [hk]; exact h3,h4⟩
     | lr et e v cells=>
       obtain ⟨⟨e1,e2⟩ | ⟨b,C,k1,k2,k0,k3⟩,hkey⟩:=hr
       ·exact ⟨.inl ⟨e1,by rw [hk]; exact e2⟩,fun n hn=>by rw [hk]; exact hkey n hn⟩
       exact ⟨.inr ⟨b,C,by rw [hk]; exact k1,k2,k0,bA.rn (k0:=m) (π:=fun i=>i) dN cells _ (by simpa [dV] using hi) (by rw [Je.2]; exact k3)⟩,fun n hn=>by rw [hk]; exact hkey n hn⟩
     | dat et e rows=>
       obtain ⟨⟨k1,k2⟩,k3⟩:=hr
       exact ⟨⟨by rw [hk]; exact k1,fun b hb=>k2 b (by rw [← hk]; exact hb)⟩,fun n hn=>by rw [hk]; exact k3 n hn⟩
     | kK et e rows=>
       obtain ⟨⟨k1,k2⟩,k3⟩:=hr
       exact ⟨⟨by rw [hk]; exact k1,fun b hb=>k2 b (by rw [← hk]; exact hb)⟩,trivial⟩
  ·rw [if_neg ho]; intro n; simp only [ι',if_neg ho]
 ·show cT J w ι' (aW (ts.map fun t=>(t,s.get t)) t) _
  rw [lK]
  split
  ·rename_i ht
   rw [List.all_eq_true] at h1
   exact cT.rn (k0:=m) (π:=fun i=>i) dN _ _ (h1 t ht) (by rw [Je.1]; exact S.env t)
  ·trivial
 ·show D.ys (aW (ts.map fun t=>(t,s.get t)) YS) _
  rw [lK]
  split
  ·exact S.ys
  ·exact D.top _
 ·have hE:=E.ev
  exact ⟨hE.os,hE.tape,hE.output,hE.size,hE.same,hE.shape,hE.gP,hE.vQ,fun o n b hb=>by simp only [ι',if_pos (hm o n b hb)]; exact hE.gQ o n b hb⟩
 ·rintro b ⟨o,hb⟩
  exact E.own b ⟨o,hown o b hb⟩
theorem zJ {x:LV} (h:isNil x=true):x=.d (.val (.slice none 0 0)):=by
 unfold isNil at h
 split at h
 ·rfl
 ·cases h
theorem IU.keep {s:St} {ts:List Nat} {m:Nat} (hk:s.CZ ts m):IU G m s (s.keep ts m):=fun _ _ _ _ _ _ _ _ hm h=>h.keep hk hm
theorem aF.IQ {J:Nat→Prop} {w:World} {ι:Nat→Nat→Option Nat} {obj:Nat→b_} (S:aF G J w ι obj) {base:Nat} (hb:obj base=.free) (et:TypeId) (aJ:Nat) :
  aF G J w ι (fun o=>if o=base then .live (.dat et aJ []) else obj o)∧Ext obj (fun o=>if o=base then .live (.dat et aJ []) else obj o) J J ι ι w w:=by
 have hfree:∀ n,ι base n=none:=by have:=S.rep base; rw [hb] at this; exact this
 exact aF.kf S base (.live (.dat et aJ [])) (Ev.refl (Own ι obj) J ι w) (fun _ _ _=>rfl) (fun _ _ _=>rfl)
  ⟨⟨.inl rfl,fun b hb=>by rw [hfree] at hb; cases hb⟩,fun n _=>hfree n⟩ (fun b hb=>by
    have:ι base 0=some b:=hb
    rw [hfree] at this; cases this)
theorem gI (l:List (Option aC)) (ob:aC):au (l++[some ob])=fun o=>if o=l.length then .live ob else au l o:=by
 funext o
 unfold au
 rcases Nat.lt_trichotomy o l.length with h | h | h
 ·rw [List.getElem?_append_left h,if_neg (by omega)]
 ·subst h; simp
 ·rw [List.getElem?_eq_none (by simp; omega),if_neg (by omega),List.getElem?_eq_none (by omega)]
theorem bA.set {J:Nat→Prop} {w:World} {ι:Nat→Nat→Option Nat} : ∀ {xs:List LV} {vs:List Value} {i:Nat} {x y:LV},bA J w ι xs vs→xs[i]? = some x→(∀ v,cT J w ι x v→cT J w ι y v)→bA J w ι (xs.set i y) vs
 | [],[],i,x,y,_,h,_=>by simp at h
 | z::xs,v::vs,0,x,y,h,hx,hy=>by simp at hx; subst hx; exact ⟨h.1,hy v h.2.1,h.2.2⟩
 | z::xs,v::vs,i+1,x,y,h,hx,hy=>⟨h.1,h.2.1,bA.set h.2.2 (by simpa using hx) hy⟩
 | [],_::_,_,_,_,h,_,_=>h.elim
 | _::_,[],_,_,_,h,_,_=>h.elim
theorem aF.Z8 {J:Nat→Prop} {w:World} {ι:Nat→Nat→Option Nat} {obj:Nat→b_} (S:aF G J w ι obj) {base:Nat} (hb:obj base=.free) (et:TypeId) (aJ:Nat) :
  aF G J w ι (fun o=>if o=base then .live (.lr et aJ 0 []) else obj o)∧Ext obj (fun o=>if o=base then .live (.lr et aJ 0 []) else obj o) J J ι ι w w:=by
 have hfree:∀ n,ι base n=none:=by have:=S.rep base; rw [hb] at this; exact this
 exact aF.kf S base (.live (.lr et aJ 0 [])) (Ev.refl (Own ι obj) J ι w) (fun _ _ _=>rfl) (fun _ _ _=>rfl)
  ⟨.inl ⟨rfl,hfree _⟩,fun n _=>hfree n⟩ (fun b hb=>by
   have:ι base 0=some b:=hb
   rw [hfree] at this; cases this)
theorem aF.Z9 {J:Nat→Prop} {w:World} {ι:Nat→Nat→Option Nat} {obj:Nat→b_} (S:aF G J w ι obj) {base:Nat} (hb:obj base=.free) (et:TypeId) :
  aF G J w ι (fun o=>if o=base then .live (.mZ et []) else obj o)∧Ext obj (fun o=>if o=base then .live (.mZ et []) else obj o) J J ι ι w w:=by
 have hfree:∀ n,ι base n=none:=by have:=S.rep base; rw [hb] at this; exact this
 exact aF.kf S base (.live (.mZ et [])) (Ev.refl (Own ι obj) J ι w) (fun _ _ _=>rfl) (fun _ _ _=>rfl)
  ⟨⟨fun k _ h=>by simp at h,fun k k' b h=>by rw [hfree] at h; cases h⟩,fun n _=>hfree n⟩ (fun b hb=>by
    obtain ⟨k,hk,_⟩:=hb
    exact absurd hk (Nat.not_lt_zero k))
theorem aF.aac {J:Nat→Prop} {w:World} {ι:Nat→Nat→Option Nat} {obj:Nat→b_} (S:aF G J w ι obj) {B z:Nat} {et:TypeId} {rows:List (List DV)} {bs:List (List (List DV))}
  (hB:obj B=.live (.mZ et bs)) (hz:obj z=.live (.dat et 1 rows)) (hne:rows≠[]) :
  ∃ b ι',ι z rows.length=some b∧(∀ o n c,ι o n=some c→ι' o n=some c)∧ι' B bs.length=some b∧aF G J w ι' (fun o=>if o=z then .dead else if o=B then .live (.mZ et (bs++[rows])) else obj o)∧
    Ext obj (fun o=>if o=z then .dead else if o=B then .live (.mZ et (bs++[rows])) else obj o) J J ι ι' w w:=by
 have h0:=S.rep B
 rw [hB] at h0
 obtain ⟨⟨hall,hinj⟩,hkey⟩:=h0
 have h1:=S.rep z
 rw [hz] at h1
 obtain ⟨⟨hsome,hd⟩,_⟩:=h1
 obtain ⟨b,hb⟩:=Option.isSome_iff_exists.1 (hsome.resolve_left hne)
 obtain ⟨⟨C,hC⟩,hrows⟩:=hd b hb
 have Fi:(obj z).own ι z b:=by rw [hz]; exact hb
 have hzB:B≠z:=fun e=>by rw [e,hz] at hB; cases hB
 let ι':Nat→Nat→Option Nat:=fun o n=>if o=B∧n=bs.length then some b else ι o n
 have hm:∀ o n c,ι o n=some c→ι' o n=some c:=fun o n c h=>by
  by_cases hk:o=B∧n=bs.length
  ·obtain ⟨rfl,rfl⟩:=hk
   rw [hkey _ (Nat.le_refl _)] at h; cases h
  ·simp only [ι',if_neg hk]; exact h
 have hk0:∀ o,o≠B→∀ n,ι' o n=ι o n:=fun o ho n=>by simp only [ι']; rw [if_neg (fun h=>ho h.1)]
 have ZF:∀ n,n≠bs.length→ι' B n=ι B n:=fun n hn=>by simp only [ι']; rw [if_neg (fun h=>hn h.2)]
 have Po:ι' B bs.length=some b:=by simp [ι']
 have E:Ev (Own ι obj) J J ι ι' w w:=⟨rfl,rfl,rfl,Nat.le_refl _,fun _ _ _=>rfl,fun _ _=>rfl,fun _ h=>h,fun _ h=>.inl h,hm⟩
 have hO:∀ o c,(if o=z then b_.dead else if o=B then .live (.mZ et (bs++[rows])) else obj o).own ι' o c→(o≠z∧(obj o).own ι o c)∨(o=B∧c=b):=by
  intro o c h
  by_cases ho:o=z
  ·rw [if_pos ho] at h; exact h.elim
  ·rw [if_neg ho] at h
   by_cases Zy:o=B
   ·subst Zy
    rw [if_pos rfl] at h
    obtain ⟨k,hk,hc⟩:=h
    by_cases hkl:k=bs.length
    ·subst hkl
     rw [Po] at hc
     exact .inr ⟨rfl,(Option.some.inj hc).symm⟩
    ·rw [ZF k hkl] at hc
     rw [hB]
     simp at hk
     exact .inl ⟨ho,k,by omega,hc⟩
   ·rw [if_neg Zy] at h
    exact .inl ⟨ho,(b_.j6 (hk0 o Zy)).1 h⟩
 refine ⟨b,ι',hb,hm,Po,⟨fun o=>?_,?_,?_,S.jcell,fun g row hg=>S.uI g row hg⟩,⟨E,?_⟩⟩
 ·show jg J w ι' o (if o=z then b_.dead else if o=B then .live (.mZ et (bs++[rows])) else obj o)
  by_cases ho:o=z
  ·rw [if_pos ho]; trivial
  ·rw [if_neg ho]
   by_cases Zy:o=B
   ·subst Zy
    rw [if_pos rfl]
    refine ⟨⟨fun k rs hr=>?_,fun k k' c h h'=>?_⟩,fun n hn=>?_⟩
    ·by_cases hkl:k=bs.length
     ·subst hkl
      simp at hr
      subst hr
      exact ⟨b,C,Po,hC,hrows⟩
     ·have hlt:k<bs.length:=by have:=(List.getElem?_eq_some_iff.1 hr).1; simp at this; omega
      rw [List.getElem?_append_left hlt] at hr
      obtain ⟨c,C2,j1,j2⟩:=hall k rs hr
      exact ⟨c,C2,by rw [ZF k hkl]; exact j1,j2⟩
    ·have hno:∀ n,n≠bs.length→ι o n≠some b:=fun n hn hc=>by
      have hlt:n<bs.length:=by
       rcases Nat.lt_or_ge n bs.length with h2 | h2
       ·exact h2
       ·rw [hkey n h2] at hc; cases hc
      exact hzB (S.inj o z b (by rw [hB]; exact ⟨n,hlt,hc⟩) Fi)
     by_cases h1:k=bs.length <;> by_cases h2:k'=bs.length
     ·rw [h1,h2]
     ·subst h1
      rw [Po] at h; cases h
      rw [ZF _ h2] at h'
      exact absurd h' (hno _ h2)
     ·subst h2
      rw [Po] at h'; cases h'
      rw [ZF _ h1] at h
      exact absurd h (hno _ h1)
     ·rw [ZF _ h1] at h
      rw [ZF _ h2] at h'
      exact hinj k k' c h h'
    ·simp at hn
     rw [ZF n (by omega)]
     exact hkey n (by omega)
   ·rw [if_neg Zy]
    exact jg.keep S E (hk0 o Zy) (fun _ _=>rfl)
 ·intro o o' c h h'
  rcases hO o c h with ⟨h1,h2⟩ | ⟨h1,h2⟩ <;> rcases hO o' c h' with ⟨h3,h4⟩ | ⟨h3,h4⟩
  ·exact S.inj _ _ _ h2 h4
  ·subst h4; exact absurd (S.inj _ _ _ h2 Fi) h1
  ·subst h2; exact absurd (S.inj _ _ _ h4 Fi) h3
  ·rw [h1,h3]
 ·intro o c h
  rcases hO o c h with ⟨_,h2⟩ | ⟨_,h2⟩
  ·exact S.oH o c h2
  ·rw [h2]; exact S.oH z b Fi
 ·rintro c ⟨o,h⟩
  rcases hO o c h with ⟨_,h2⟩ | ⟨_,h2⟩
  ·exact .inl ⟨o,h2⟩
  ·rw [h2]; exact .inl ⟨z,Fi⟩
theorem xY {l:List (Option aC)} {o:Nat} (x:Option aC) (h:o<l.length):au (l.set o x)=fun q=>if q=o then (match x with | none=>.dead | some ob=>.live ob) else au l q:=by
 funext q
 unfold au
 by_cases hq:q=o
 ·subst hq
  rw [if_pos rfl,List.getElem?_set_self h]
  cases x <;> rfl
 ·rw [if_neg hq,List.getElem?_set_ne (fun e=>hq e.symm)]
theorem nR.ap {s:St} {a:Act} {w:World} (h:nR G D N bf J0 bV w0 s a w) (x:Ad):nR G D N bf J0 bV w0 (x.ap s) a w:=by
 cases x with
 | nb et=>
   obtain ⟨J,ι,S,E⟩:=h.ex
   obtain ⟨S1,E1⟩:=aF.Z9 S.store (base:=s.af.length) (cv (Nat.le_refl _)) et
   refine ⟨J,ι,⟨?_,S.env,S.size,S.defers,S.ys,S.lim⟩,?_⟩
   ·show aF G J w ι (au (s.af++[some (.mZ et [])]))
    rw [gI]; exact S1
   ·show Ext bf (au (s.af++[some (.mZ et [])])) J0 J bV ι w0 w
    rw [gI]; exact E.trans E1
 | l o col et aJ=>
   simp only [Ad.ap]
   split
   ·rename_i bt cells ho
    split
    ·rename_i v hv
     split
     ·rename_i lH
      obtain ⟨J,ι,S,E⟩:=h.ex
      obtain ⟨S1,E1⟩:=aF.Z8 S.store (base:=s.af.length) (cv (Nat.le_refl _)) et aJ
      have Zx:=mz ho
      have zR:(if o=s.af.length then b_.live (.lr et aJ 0 []) else s.obj o)=.live (.box bt cells):=by rw [if_neg (by omega)]; exact ho
      have h0:=S1.rep o
      simp only [zR] at h0
      obtain ⟨⟨b,C,h1,h2,h3⟩,_⟩:=h0
      have h4:bA J w ι (cells.set col (.sl s.af.length 0 aJ 0 0)) C.toList:=h3.set hv (fun u hu=>by
       rw [zJ lH] at hu
       exact .inl ⟨rfl,none,hu⟩)
      obtain ⟨S2,E2⟩:=aF.kf S1 o (.live (.box bt (cells.set col (.sl s.af.length 0 aJ 0 0)))) (Ev.refl _ J ι w) (fun _ _ _=>rfl) (fun _ _ _=>rfl)
       ⟨⟨b,C,h1,h2,h4⟩,trivial⟩ (fun k hk=>.inl (by simp only [zR]; exact hk))
      have rL:au (s.af.set o (some (.box bt (cells.set col (.sl s.af.length 0 aJ 0 0))))++[some (.lr et aJ 0 [])])=fun q=>if q=o then .live (.box bt (cells.set col (.sl s.af.length 0 aJ 0 0))) else if q=s.af.length then .live (.lr et aJ 0 []) else s.obj q:=by
       rw [gI,List.length_set,xY _ Zx]
       funext q
       by_cases hq:q=o
       ·subst hq
        simp only [if_true]
        rw [if_neg (by omega)]
       ·simp only [if_neg hq]; rfl
      refine ⟨J,ι,⟨?_,S.env,S.size,S.defers,S.ys,S.lim⟩,?_⟩
      ·show aF G J w ι (au (_++_))
       rw [rL]; exact S2
      ·show Ext bf (au (_++_)) J0 J bV ι w0 w
       rw [rL]; exact (E.trans E1).trans E2
     ·exact h
    ·exact h
   ·exact h
 | ab L p B z=>
   simp only [Ad.ap]
   split
   ·rename_i et rows bs lt le lv cells lo len hab
    unfold ab0 at hab
    split at hab
    ·rename_i et1 adk et2 bs1 lt1 le1 lv1 adb hz hB hL
     split at hab
     ·rename_i z' n lo1 adn hp
      split at hab
      ·rename_i hc
       obtain ⟨rfl,rfl,rfl,hne⟩:=hc
       cases hab
       obtain ⟨J,ι,S,E⟩:=h.ex
       obtain ⟨b,ι',hb,hm,hk,S1,E1⟩:=aF.aac S.store hB hz hne
       have hLz:L≠z':=fun e=>by rw [e,hz] at hL; cases hL
       have hLB:L≠B:=fun e=>by rw [e,hB] at hL; cases hL
       have hzB:B≠z':=fun e=>by rw [e,hz] at hB; cases hB
       have zR:(if L=z' then b_.dead else if L=B then .live (.mZ et (bs++[rows])) else s.obj L)=.live (.lr lt le lv cells):=by rw [if_neg hLz,if_neg hLB]; exact hL
       have h0:=S1.rep L
       simp only [zR] at h0
       obtain ⟨h0,hkey⟩:=h0
       have xF:∀ u,cT J w ι' (.sl z' rows.length 1 lo len) u→cT J w ι' (.sl B bs.length 1 lo len) u:=fun u hu=>by
        rcases hu with hu | ⟨b',cap,et',C,hb',h1⟩
        ·exact .inl hu
        ·rw [hm _ _ _ hb] at hb'; cases hb'
         exact .inr ⟨b,cap,et',C,hk,h1⟩
       obtain ⟨S2,E2⟩:=aF.kf S1 L (.live (.lr lt le lv (cells.set p (.sl B bs.length 1 lo len)))) (Ev.refl _ J ι' w) (fun _ _ _=>rfl) (fun _ _ _=>rfl)
        ⟨by
         rcases h0 with ⟨e,_⟩ | ⟨b',C,h1,h2,h3,h4⟩
         ·rw [e] at hp; simp at hp
         ·exact .inr ⟨b',C,h1,h2,by rw [List.length_set]; exact h3,by rw [List.length_set]; exact h4.set hp xF⟩,hkey⟩ (fun k hk=>.inl (by simp only [zR]; exact hk))
       have rL:au (((s.af.set B (some (.mZ et (bs++[rows])))).set z' none).set L (some (.lr lt le lv (cells.set p (.sl B bs.length 1 lo len)))))=fun q=>if q=L then .live (.lr lt le lv (cells.set p (.sl B bs.length 1 lo len))) else if q=z' then .dead else if q=B then .live (.mZ et (bs++[rows])) else s.obj q:=by
        rw [xY _ (by simpa using mz hL),xY _ (by simpa using mz hz),xY _ (mz hB)]
        rfl
       refine ⟨J,ι',⟨?_,fun t=>cT.mono (fun _ h=>h) (fun _ _=>rfl) hm (fun _ _=>rfl) _ _ (S.env t),S.size,S.defers,S.ys,S.lim⟩,?_⟩
       ·show aF G J w ι' (au _)
        rw [rL]; exact S2
       ·show Ext bf (au _) J0 J bV ι' w0 w
        rw [rL]; exact (E.trans E1).trans E2
      ·cases hab
     ·cases hab
    ·cases hab
   ·exact h
 | t t et aJ=>
   simp only [Ad.ap]
   split
   ·rename_i lH
    obtain ⟨J,ι,S,E⟩:=h.ex
    obtain ⟨S1,E1⟩:=aF.IQ S.store (base:=s.af.length) (cv (Nat.le_refl _)) et aJ
    refine ⟨J,ι,⟨?_,fun t'=>?_,S.size,S.defers,?_,S.lim⟩,?_⟩
    ·show aF G J w ι (au (s.af++[some (.dat et aJ [])]))
     rw [gI]; exact S1
    ·show cT J w ι (if t=t' then _ else aW s.env t') _
     split
     ·rename_i ht; subst ht
      have:=S.env t
      rw [zJ lH] at this
      exact .inl ⟨rfl,none,this⟩
     ·exact S.env t'
    ·show D.ys (if t=YS then _ else aW s.env YS) _
     split
     ·rename_i ht; subst ht
      exact D.tot _ _ lH S.ys _
     ·exact S.ys
    ·show Ext bf (au (s.af++[some (.dat et aJ [])])) J0 J bV ι w0 w
     rw [gI]; exact E.trans E1
   ·exact h
 | b o col et aJ=>
   simp only [Ad.ap]
   split
   ·rename_i bt cells ho
    split
    ·rename_i v hv
     split
     ·rename_i lH
      obtain ⟨J,ι,S,E⟩:=h.ex
      obtain ⟨S1,E1⟩:=aF.IQ S.store (base:=s.af.length) (cv (Nat.le_refl _)) et aJ
      have Zx:=mz ho
      have zR:(if o=s.af.length then b_.live (.dat et aJ []) else s.obj o)=.live (.box bt cells):=by rw [if_neg (by omega)]; exact ho
      have h0:=S1.rep o
      simp only [zR] at h0
      obtain ⟨⟨b,C,h1,h2,h3⟩,_⟩:=h0
      have h4:bA J w ι (cells.set col (.sl s.af.length 0 aJ 0 0)) C.toList:=h3.set hv (fun u hu=>by
       rw [zJ lH] at hu
       exact .inl ⟨rfl,none,hu⟩)
      obtain ⟨S2,E2⟩:=aF.kf S1 o (.live (.box bt (cells.set col (.sl s.af.length 0 aJ 0 0)))) (Ev.refl _ J ι w) (fun _ _ _=>rfl) (fun _ _ _=>rfl)
       ⟨⟨b,C,h1,h2,h4⟩,trivial⟩ (fun k hk=>.inl (by simp only [zR]; exact hk))
      have rL:au (s.af.set o (some (.box bt (cells.set col (.sl s.af.length 0 aJ 0 0))))++[some (.dat et aJ [])])=fun q=>if q=o then .live (.box bt (cells.set col (.sl s.af.length 0 aJ 0 0))) else if q=s.af.length then .live (.dat et aJ []) else s.obj q:=by
       rw [gI,List.length_set]
       funext q
       by_cases hq:q=o
       ·subst hq
        rw [if_pos rfl,if_neg (by omega)]
        unfold au
        rw [List.getElem?_set_self Zx]
       ·rw [if_neg hq]
        by_cases HK:q=s.af.length
        ·rw [if_pos HK,if_pos HK]
        ·rw [if_neg HK,if_neg HK]
         simp only [au,St.obj,List.getElem?_set_ne (fun e=>hq e.symm)]
      refine ⟨J,ι,⟨?_,S.env,S.size,S.defers,S.ys,S.lim⟩,?_⟩
      ·show aF G J w ι (au (_++_))
       rw [rL]; exact S2
      ·show Ext bf (au (_++_)) J0 J bV ι w0 w
       rw [rL]; exact (E.trans E1).trans E2
     ·exact h
    ·exact h
   ·exact h
theorem nR.c_ {a:Act} {w:World} : ∀ (ad:List Ad) {s:St},nR G D N bf J0 bV w0 s a w→nR G D N bf J0 bV w0 (Dv.c_ ad s) a w
 | [],_,h=>h
 | x::xs,_,h=>nR.c_ xs (h.ap x)
end
def CN (w w':World):Prop:=∀ (b:Nat) (x:Obj),w.heap[b]? = some x→x.nE=true→w'.heap[b]? = some x
theorem CN.refl (w:World):CN w w:=fun _ _ h _=>h
theorem CN.trans {w w' w'':World} (h:CN w w') (k:CN w' w''):CN w w'':=fun b x hb hx=>k _ _ (h _ _ hb hx) hx
theorem CN.put {w:World} {l:Nat} {o0:Obj} (o:Obj) (h:w.heap[l]? = some o0) (hc:o0.nE=false):CN w (w.putObj l o):=by
 intro b x hb hx
 by_cases AQ:b=l
 ·subst AQ; rw [h] at hb; cases hb; rw [hc] at hx; cases hx
 ·rw [World.putObj_heap_other AQ]; exact hb
theorem jU {w:World} {o:Obj} {b:Nat} (hb:b<w.heap.size):(w.alloc o).heap[b]? = w.heap[b]?:=by
 show (w.heap.push o)[b]? = _
 rw [Array.getElem?_push,if_neg (Nat.ne_of_lt hb)]
theorem CN.alloc (w:World) (o:Obj):CN w (w.alloc o):=by
 intro b x hb _
 rw [jU (Array.getElem?_eq_some_iff.1 hb).1]; exact hb
theorem CN.shape {w w':World} (h:CN w w') (b:Nat) (hs:(w.shape? b).isSome=true):w'.shape? b=w.shape? b:=by
 unfold World.shape? at hs ⊢
 split at hs
 ·rename_i C t f hb
  rw [h _ _ hb rfl]
 ·cases hs
section
variable {G:Nat→Option (List DV)} {J:Nat→Prop} {w w':World} {ι ι':Nat→Nat→Option Nat} {obj obj':Nat→b_}
theorem CN.j (S:aF G J w ι obj) (h:CN w w') (b:Nat) (hb:J b):w'.heap[b]? = w.heap[b]?:=by
 obtain ⟨C,t,f,hc⟩:=S.jcell b hb
 rw [hc]; exact h _ _ hc rfl
theorem cT.cn (S:aF G J w ι obj) (h:CN w w') (hi:∀ o n b,ι o n=some b→ι' o n=some b) {x:LV} {v:Value} (k:cT J w ι x v):cT J w' ι' x v:=
 cT.mono (fun _ h=>h) (h.j S) hi (fun b hb=>h.shape b hb) x v k
theorem bA.cn (S:aF G J w ι obj) (h:CN w w') (hi:∀ o n b,ι o n=some b→ι' o n=some b) {x:List LV} {v:List Value} (k:bA J w ι x v):bA J w' ι' x v:=
 bA.mono (fun _ h=>h) (h.j S) hi (fun b hb=>h.shape b hb) x v k
theorem ck.cn (S:aF G J w ι obj) (h:CN w w') (hi:∀ o n b,ι o n=some b→ι' o n=some b) {x:List LV} {v:List Value} (k:ck J w ι x v):ck J w' ι' x v:=
 ck.mono (fun _ h=>h) (h.j S) hi (fun b hb=>h.shape b hb) x v k
theorem aF.cn (S:aF G J w ι obj) (h:CN w w') (hi:∀ o n b,ι o n=some b→ι' o n=some b) (ho:∀ o,obj' o=.dead∨(obj' o=obj o∧∀ n,ι' o n=ι o n)):aF G J w' ι' obj':=by
 have hown:∀ o b,(obj' o).own ι' o b→(obj o).own ι o b:=by
  intro o b hb
  rcases ho o with h1 | ⟨h1,h2⟩
  ·rw [h1] at hb; exact hb.elim
  ·rw [h1] at hb; exact (b_.j6 h2).1 hb
 refine ⟨fun o=>?_,fun o o' b k k'=>S.inj o o' b (hown _ _ k) (hown _ _ k'),fun o b k=>S.oH o b (hown _ _ k),fun b hb=>?_,fun g row hg=>?_⟩
 ·rcases ho o with h1 | ⟨h1,hk⟩
  ·rw [h1]; trivial
  ·rw [h1]
   have hr:=S.rep o
   cases hs:obj o with
   | free=>rw [hs] at hr; intro n; rw [hk]; exact hr n
   | dead=>trivial
   | live ob=>
     rw [hs] at hr
     obtain ⟨hr,hkey⟩:=hr
     cases ob with
     | box et cells=>
       obtain ⟨b,C,h1,h2,h3⟩:=hr
       exact ⟨⟨b,C,by rw [hk]; exact h1,h _ _ h2 rfl,h3.cn S h hi⟩,trivial⟩
     | mp es=>
       obtain ⟨b,C,c,h1,h2,h3⟩:=hr
       exact ⟨⟨b,C,c,by rw [hk]; exact h1,h _ _ h2 rfl,iO.mono (fun _ h=>h) (h.j S) hi (fun b hb=>h.shape b hb) _ _ h3⟩,trivial⟩
     | mZ et bs=>
       obtain ⟨h1,h2⟩:=hr
       refine ⟨⟨fun k rows hr=>?_,fun k k' b=>by rw [hk,hk]; exact h2 k k' b⟩,fun n hn=>by rw [hk]; exact hkey n hn⟩
       obtain ⟨b,C,h3,h4,h5⟩:=h1 k rows hr
       exact ⟨b,C,by rw [hk]; exact h3,h _ _ h4 rfl,bq.mono (fun _ h=>h) (h.j S) 1 rows b 0 (by rw [h4]; exact h _ _ h4 rfl) h5⟩
     | lr et e v cells=>
       obtain ⟨e1,e2⟩ | ⟨b,C,h1,h2,h0,h3⟩:=hr
       ·exact ⟨.inl ⟨e1,by rw [hk]; exact e2⟩,fun n hn=>by rw [hk]; exact hkey n hn⟩
       exact ⟨.inr ⟨b,C,by rw [hk]; exact h1,h _ _ h2 rfl,h0,h3.cn S h hi⟩,fun n hn=>by rw [hk]; exact hkey n hn⟩
     | dat et aJ rows=>
       obtain ⟨h1,h2⟩:=hr
       refine ⟨⟨by rw [hk]; exact h1,fun b hb'=>?_⟩,fun n hn=>by rw [hk]; exact hkey n hn⟩
       rw [hk] at hb'
       obtain ⟨⟨C,h3⟩,h4⟩:=h2 b hb'
       exact ⟨⟨C,h _ _ h3 rfl⟩,bq.mono (fun _ h=>h) (h.j S) aJ rows b 0 (by rw [h3]; exact h _ _ h3 rfl) h4⟩
     | kK et aJ rows=>
       obtain ⟨h1,h2⟩:=hr
       refine ⟨⟨by rw [hk]; exact h1,fun b hb'=>?_⟩,trivial⟩
       rw [hk] at hb'
       obtain ⟨h3,h4⟩:=h2 b hb'
       exact ⟨h3,bq.mono (fun _ h=>h) (h.j S) aJ rows b 0 (h.j S b h3) h4⟩
 ·obtain ⟨C,t,f,hc⟩:=S.jcell b hb
  exact ⟨C,t,f,h _ _ hc rfl⟩
 ·obtain ⟨h1,h2,t,h3⟩:=S.uI g row hg
  exact ⟨h1,dL.mono (fun _ h=>h) (h.j S) row g 0 (h.j S g h1) h2,t,by rw [h.shape g (by rw [h3]; rfl)]; exact h3⟩
theorem aF.put {l:Nat} {o0:Obj} (o:Obj) (S:aF G J w ι obj) (h:w.heap[l]? = some o0) (hc:o0.nE=false):aF G J (w.putObj l o) ι obj:=
 S.cn (CN.put o h hc) (fun _ _ _ h=>h) (fun _=>.inr ⟨rfl,fun _=>rfl⟩)
theorem Ext.put {bf:Nat→b_} {J0:Nat→Prop} {bV:Nat→Nat→Option Nat} {w0:World} (E:Ext bf obj J0 J bV ι w0 w) {l:Nat} (o:Obj) {o0:Obj} (h:w.heap[l]? = some o0) (hc:o0.nE=false) (hl:w0.heap.size≤l) (ho:o.nE=false):Ext bf obj J0 J bV ι w0 (w.putObj l o):=by
 have hsz:(w.putObj l o).heap.size=w.heap.size:=World.putObj_size
 refine ⟨⟨E.ev.os,E.ev.tape,E.ev.output,by rw [hsz]; exact E.ev.size,fun b hb hn=>?_,fun b hb=>?_,E.ev.gP,E.ev.vQ,E.ev.gQ⟩,E.own⟩
 ·rw [World.putObj_heap_other (by omega)]; exact E.ev.same b hb hn
 ·rw [← E.ev.shape b hb]
  unfold World.shape?
  rw [World.putObj_heap_other (by omega)]
theorem Ag:∀ (l:List (Nat×Value)) (t:Array Value),(l.foldl (fun t (p:Nat×Value)=>t.setIfInBounds p.1 p.2) t).size=t.size
 | [],_=>rfl
 | x::l,t=>by rw [List.foldl_cons,Ag l]; simp
theorem Cn:∀ (ps:List Nat) (as:List LV) (vs:List Value) (env:List (Nat×LV)) (t:Array Value) (N:Nat),t.size=N→(∀ p∈ps,p<N)→as.length=ps.length→ck J w ι as vs→(∀ q,cT J w ι (aW env q) (t.getD q Go.undef))→
  ∀ q,cT J w ι (aW (su ps as env) q) (((ps.zip vs).foldl (fun t (p:Nat×Value)=>t.setIfInBounds p.1 p.2) t).getD q Go.undef)
 | [],as,vs,env,t,N,ht,hp,hl,hr,he,q=>by
   cases as with
   | nil=>simpa [su] using he q
   | cons _ _=>simp at hl
 | p::ps,[],vs,env,t,N,ht,hp,hl,hr,he,q=>by simp at hl
 | p::ps,a::as,[],env,t,N,ht,hp,hl,hr,he,q=>hr.elim
 | p::ps,a::as,v::vs,env,t,N,ht,hp,hl,hr,he,q=>by
   simp only [su,List.zip_cons_cons,List.foldl_cons]
   refine Cn ps as vs _ _ N (by simp [ht]) (fun q hq=>hp q (by simp [hq])) (by simpa using hl) hr.2 (fun q=>?_) q
   have hpN:p<t.size:=by rw [ht]; exact hp p (by simp)
   simp only [aW]
   by_cases hq:p=q
   ·subst hq
    rw [if_pos rfl]
    have:(t.setIfInBounds p v).getD p Go.undef=v:=by simp [Array.getD_eq_getD_getElem?,hpN]
    rw [this]; exact hr.1
   ·rw [if_neg hq]
    have:(t.setIfInBounds p v).getD q Go.undef=t.getD q Go.undef:=by
     simp [Array.getD_eq_getD_getElem?,Array.getElem?_setIfInBounds_ne hq]
    rw [this]; exact he q
end
section
variable {P:Program} {G:Nat→Option (List DV)}
theorem gD {b:Frame} {a:Act} {k:List Item} {cs:List Frame} {w:World} {c:Code} : step P (lone (b.atR a (.code (.scope c)::k)) cs w)=.next (lone (b.atR a (.code c::.inScope c::k)) cs w):=
 step_lone_go (by simp [stepG,stepG.exec,Frame.atR])
theorem yF {b:Frame} {a:Act} {k:List Item} {cs:List Frame} {w:World} {c:Code} : step P (lone (b.atR a (.inScope c::k)) cs w)=.next (lone (b.atR a k) cs w):=
 step_lone_go (by simp [stepG,stepG.exec,Frame.atR])
theorem rG {F:Fence} {n:Nat} {Q:Exit→Act→World→Prop} {a:Act} {w:World} {c:Code} (h:c.wpIn F n P (Exit.noGoto Q) a w):(Code.scope c).wpIn F n P Q a w:=by
 intro b k cs hro hb hr
 have h0:(lone (b.atR a (.code (.scope c)::k)) cs w).fenced P F:=fenced_calm hb hr rfl
 obtain ⟨e,a₁,w₁,hq,LW⟩:=h b (.inScope c::k) cs hro hb hr
 cases e with
 | normal=>exact ⟨.normal,a₁,w₁,hq,.head h0 gD (StepsIn.trans LW (.one (fenced_calm hb hr rfl) yF))⟩
 | exit id=>
   have hx:exitTo id (.inScope c::k)=exitTo id k:=by simp [exitTo]
   exact ⟨.exit id,a₁,w₁,hq,fun k' hk=>.head h0 gD (LW.1 k' (by rw [hx]; exact hk)),
    fun hr' hk=>let ⟨k₁,h1,h2⟩:=LW.2 hr' (by rw [hx]; exact hk); ⟨k₁,h1,.head h0 gD h2⟩⟩
 | goto l=>exact hq.elim
 | ret=>exact ⟨_,a₁,w₁,hq,.of_steps (.one h0 gD) LW⟩
 | panic ch=>exact ⟨_,a₁,w₁,hq,.of_steps (.one h0 gD) LW⟩
 | outgrown=>exact ⟨_,a₁,w₁,hq,.of_steps (.one h0 gD) LW⟩
def Vy:Option Nat→Code
 | some i=>.exit i
 | none=>.ret
def Ro (l B:Nat) (rc:LoopState→Option Code→Loop) (jm:Option Nat) (v:LV) (w:World):Prop:=
 (v=ia→w.heap[l]? = some (.loop (rc .ready none)))∧(v=jv→w.heap[l]? = some (.loop (rc .done (some (Vy jm)))))∧(v≠.top→w.heap[B]? = some (.deferred (some [])))∧isNil v=false
def Rp (l B:Nat) (rc:LoopState→Option Code→Loop) (jm:Option Nat):Dk where
 ds:=[]
 wN:=false
 lo:=0
 ys:=Ro l B rc jm
 keep:=fun v w w' h ⟨h1,h2,h4,h5⟩=>⟨(fun e=>h _ _ (h1 e) rfl),(fun e=>h _ _ (h2 e) rfl),(fun e=>h _ _ (h4 e) rfl),h5⟩
 top:=fun w=>⟨(fun h=>by cases h),(fun h=>by cases h),(fun h=>(h rfl).elim),rfl⟩
 tot:=fun v w h ⟨_,_,_,h5⟩=>by rw [h] at h5; cases h5
def pX (P:Program) (G:Nat→Option (List DV)) (jm:Option Nat) (ps:List Nat) (a b:C) (s:St):YO:=fun as af ys K'=>ys=ia∧as.head? = some (.yl s.af.length)∧as.tail.length=ps.length∧vc P G a ⟨su ps as.tail s.env,af⟩ ⟨fun s1=>vc P G b s1 ⟨fun s'=>K' ia true s'.af,fun i s'=>i≠gN∧jm=some i∧K' jv false s'.af,fun s'=>jm=none∧K' jv false s'.af,qZ,none⟩,fun _ _=>False,fun _=>False,qZ,none⟩
theorem KW {g:Operand} {ps:Array Tmp} {ca cb:Code} {N:Nat} {cg:bM} {xa xb:C} (h1:aI g=some cg) (Zt:∀ x∈ps.toList,x<N) {nn:Nat} {D:Dk} {bf:Nat→b_} {J0:Nat→Prop} {bV:Nat→Nat→Option Nat} {w0:World} (hmk:D.wN=true) (hlo:D.lo≤w0.heap.size)
  (iha:∀ {ro:Option Nat} {nn:Nat} {D:Dk} {bf:Nat→b_} {J0:Nat→Prop} {bV:Nat→Nat→Option Nat} {w0:World} (s:St) (K:wo),vc P G xa s K→oO P G ro K.y D N bf J0 bV w0→MT K.b bV→∀ a w,nR G D N bf J0 bV w0 s a w→ca.wpIn (fz ro) nn P (KQ G D N bf J0 bV w0 K) a w)
  (ihb:∀ {ro:Option Nat} {nn:Nat} {D:Dk} {bf:Nat→b_} {J0:Nat→Prop} {bV:Nat→Nat→Option Nat} {w0:World} (s:St) (K:wo),vc P G xb s K→oO P G ro K.y D N bf J0 bV w0→MT K.b bV→∀ a w,nR G D N bf J0 bV w0 s a w→cb.wpIn (fz ro) nn P (KQ G D N bf J0 bV w0 K) a w)
  {s:St} {K:wo} {k:Nat} {fs cs:List LV} (iY:callee (cg.ev G s.get)=some (k,fs,cs)) (h:∃ (jm:Option Nat) (R:LV→List (Option aC)→Prop),Gf P G k (fs++[.yl s.af.length]++cs) (s.af++[none]) (pX P G jm ps.toList xa xb s) R∧
    ∀ yv ay,R yv ay→(yv=ia∧K.n ⟨s.env,ay⟩)∨(yv=jv∧match jm with | some i=>i≠gN∧K.x i ⟨s.env,ay⟩ | none=>K.r ⟨s.env,ay⟩)) (a:Act) (w:World) (hA:nR G D N bf J0 bV w0 s a w):(Code.rangeFunc g ps ca cb).wpIn (fz none) nn P (KQ G D N bf J0 bV w0 K) a w:=by
 obtain ⟨jm,R,⟨hent,hit⟩,hend⟩:=h
 obtain ⟨J,ι,S,E⟩:=hA.ex
 have HJ:=aT S.store S.env h1
 obtain ⟨fs',cs',hval,UA,hcs⟩:∃ fs' cs',a.eval g=.func (.func k) fs' cs'∧ck J w ι fs fs'.toList∧ck J w ι cs cs'.toList:=by
  have e0:cg.ev G (aW s.env)=cg.ev G s.get:=rfl
  rw [← e0] at iY
  change cT J w ι (cg.ev G (aW s.env)) _ at HJ
  generalize cg.ev G (aW s.env)=x at iY HJ
  unfold callee at iY
  split at iY
  ·cases iY
   obtain ⟨fs',cs',h1,h2,h3⟩:=HJ
   exact ⟨fs',cs',h1,h2.AP,h3.AP⟩
  ·cases iY
   obtain ⟨fs',cs',h1,h2,h3⟩:=HJ
   exact ⟨fs',cs',h1,h2,h3⟩
  ·cases iY
 have adp:=E.ev.size
 refine wpIn_rangeFunc fun fn hfn=>?_
 let rc:LoopState→Option Code→Loop:=fun st pe=>{ state:=st,pending:=pe,fn,tmps:=a.tmps,params:=ps,assign:=ca,body:=cb,defers:=w.heap.size }
 let W1:=(w.alloc (.deferred (some []))).alloc (.loop (rc .ready none))
 have sz1:W1.heap.size=w.heap.size+2:=by simp [W1]
 have hL1:W1.heap[w.heap.size+1]? = some (.loop (rc .ready none)):=by
  have:=World.alloc_heap_new (w.alloc (.deferred (some []))) (.loop (rc .ready none)); rwa [World.size_alloc] at this
 have hD1:W1.heap[w.heap.size]? = some (.deferred (some [])):=(jU (by simp)).trans (World.alloc_heap_new w _)
 have hCN:CN w W1:=(CN.alloc w _).trans (CN.alloc _ _)
 have abC:∀ b,b<w.heap.size→W1.heap[b]? = w.heap[b]?:=fun b hb=>(jU (by simp; omega)).trans (jU hb)
 let xL:Nat→Nat→Option Nat:=fun o n=>if o=s.af.length∧n=0 then some (w.heap.size+1) else ι o n
 have hfree:∀ n,ι s.af.length n=none:=by
  have h0:=S.store.rep s.af.length
  have hf:s.obj s.af.length=.free:=cv (Nat.le_refl _)
  rw [hf] at h0; exact h0
 have hi1:∀ o n b,ι o n=some b→xL o n=some b:=fun o n b hb=>by
  simp only [xL]
  rw [if_neg]
  ·exact hb
  ·rintro ⟨rfl,rfl⟩; rw [hfree] at hb; cases hb
 have X4:∀ o,au (s.af++[none]) o=.dead∨(au (s.af++[none]) o=s.obj o∧∀ n,xL o n=ι o n):=fun o=>by
  rcases Nat.lt_trichotomy o s.af.length with ho | ho | ho
  ·refine .inr ⟨?_,fun n=>?_⟩
   ·simp only [au,St.obj,List.getElem?_append_left ho]
   ·simp only [xL]; rw [if_neg (fun h=>by omega)]
  ·subst ho; left; simp [au]
  ·refine .inr ⟨?_,fun n=>?_⟩
   ·rw [cv (by simp; omega)]; exact (cv (by omega)).symm
   ·simp only [xL]; rw [if_neg (fun h=>by omega)]
 have S1:aF G J W1 xL (au (s.af++[none])):=S.store.cn hCN hi1 X4
 have rX:∀ b,Own xL s.obj b↔Own ι s.obj b:=fun b=>by
  constructor
  ·rintro ⟨o,ho⟩
   by_cases hol:o=s.af.length
   ·subst hol
    have hf:s.obj s.af.length=.free:=cv (Nat.le_refl _)
    rw [hf] at ho; exact ho.elim
   ·exact ⟨o,(b_.j6 (fun n=>by simp only [xL]; rw [if_neg (fun h=>hol h.1)])).1 ho⟩
  ·rintro ⟨o,ho⟩
   by_cases hol:o=s.af.length
   ·subst hol
    have hf:s.obj s.af.length=.free:=cv (Nat.le_refl _)
    rw [hf] at ho; exact ho.elim
   ·exact ⟨o,(b_.j6 (fun n=>by simp only [xL]; rw [if_neg (fun h=>hol h.1)])).2 ho⟩
 have E1:Ext s.obj (au (s.af++[none])) J J xL xL w W1:=by
  refine ⟨⟨rfl,rfl,rfl,by omega,fun b hb _=>abC b hb,fun b hb=>?_,fun _ h=>h,fun _ h=>.inl h,fun _ _ _ h=>h⟩,fun b hb=>?_⟩
  ·unfold World.shape?; rw [abC b hb]
  ·obtain ⟨o,ho⟩:=hb
   rcases X4 o with h1 | ⟨h1,h2⟩
   ·rw [h1] at ho; exact ho.elim
   ·rw [h1] at ho; exact .inl ⟨o,ho⟩
 -- from the acy aao on
 have back:∀ {o':Nat→b_} {J':Nat→Prop} {ι':Nat→Nat→Option Nat} {w':World},Ext s.obj o' J J' xL ι' w w'→Ext s.obj o' J J' ι ι' w w':=fun e=>
  ⟨⟨e.ev.os,e.ev.tape,e.ev.output,e.ev.size,fun b hb hn=>e.ev.same b hb (fun h=>hn ((rX b).1 h)),e.ev.shape,e.ev.gP,fun b hb=>(e.ev.vQ b hb).imp id (fun h=>h.imp id (fun h=>(rX b).1 h)),fun o n b hb=>e.ev.gQ o n b (hi1 o n b hb)⟩,fun b hb=>(e.own b hb).imp (fun h=>(rX b).1 h) id⟩
 refine ⟨w.heap.size+1,[{ target:=.collected w.heap.size,args:=#[] }],W1,{ target:=.fn (.func k) cs',args:=fs'++#[.func (.yield (w.heap.size+1)) #[] #[]] },W1,k,fs'++#[.func (.yield (w.heap.size+1)) #[] #[]]++cs',W1,run_enterLoop_outer _ _ _ _ _,?_,fun _ _=>trivial,?_,(fun hh=>by cases hh),?_⟩
 ·simp only [resolve,hval,Deferred.ofValue,Sem.run_pure]; simp [Act.eval]
 ·simp only [invoke]; exact nK hent _ _
 have hargs:ck J W1 xL (fs++[.yl s.af.length]++cs) (fs'++#[Value.func (.yield (w.heap.size+1)) #[] #[]]++cs').toList:=by
  simp only [Array.toList_append]
  have hy1:ck J W1 xL [.yl s.af.length] [Value.func (.yield (w.heap.size+1)) #[] #[]]:=⟨⟨w.heap.size+1,by simp [xL],rfl⟩,trivial⟩
  exact ((UA.cn S.store hCN hi1).append hy1).append (hcs.cn S.store hCN hi1)
 have abm:Ro (w.heap.size+1) w.heap.size rc jm ia W1:=⟨(fun _=>hL1),(fun h=>by cases h),(fun _=>hD1),rfl⟩
 have ZI:=hit (Rp (w.heap.size+1) w.heap.size rc jm) s.obj J xL w J xL W1 (fs'++#[.func (.yield (w.heap.size+1)) #[] #[]]++cs') rfl rfl S1 hargs E1 abm
 clear hit
 have Dp:∀ N_1,oO P G none (pX P G jm ps.toList xa xb s) (Rp (w.heap.size+1) w.heap.size rc jm) N_1 s.obj J xL w:=by
  clear ZI
  intro Nit oy as af ys K' hYv get a2 w2 hA2 hys y vs dN
  obtain ⟨acB,hhd,hlen,hv⟩:=hYv
  simp only [List.head?_cons,Option.some.injEq,LV.yl.injEq] at hhd
  subst hhd
  simp only [List.tail_cons] at hlen hv
  obtain ⟨J2,xK,S2,E2,kI,Us⟩:=dN
  obtain ⟨b,hb,rfl⟩:=kI
  have AQ:b=w.heap.size+1:=by
   have:=E2.ev.gQ s.af.length 0 (w.heap.size+1) (by simp [xL])
   rw [this] at hb; cases hb; rfl
  subst AQ
  refine ⟨_,rfl,fun n2=>?_⟩
  have sU:Ro (w.heap.size+1) w.heap.size rc jm ia w2:=by
   have:=S2.ys
   rw [hys,acB] at this; exact this
  have hL2:=sU.1 rfl
  have hD2:=sU.2.2.1 (by simp [ia])
  have E2':=back E2
  have hvl:vs.length=ps.size:=by rw [← Us.length]; simpa using hlen
  refine ⟨fn,_,ca,cb,run_yield (P:=P) (args:=vs.toArray) hL2 (by simpa using hvl),?_⟩
  refine roundIn_of_wpIn (F:=fz none) trivial ?_
  have X0:(ps.zip vs.toArray).foldl (fun (tmps:Array Value) (p:Tmp×Value)=>tmps.setIfInBounds p.1 p.2) a.tmps=(ps.toList.zip vs).foldl (fun t (p:Nat×Value)=>t.setIfInBounds p.1 p.2) a.tmps:=by
   rw [← Array.foldl_toList]; simp [Array.toList_zip]
  have hA3:nR G (Dk.plain [] false) N (au af) J2 xK w2 ⟨su ps.toList as s.env,af⟩ ⟨(ps.zip vs.toArray).foldl (fun (tmps:Array Value) (p:Tmp×Value)=>tmps.setIfInBounds p.1 p.2) a.tmps,[]⟩ w2:=by
   refine ⟨J2,xK,⟨S2.store,fun t=>?_,?_,Marks.plain _ _,trivial,S.lim⟩,Ext.refl ..⟩
   ·rw [X0]
    exact Cn ps.toList as vs s.env a.tmps N S.size Zt (by simpa using hlen) Us (fun q=>(S.env q).ev S.store E2'.ev) t
   ·rw [X0]; simp only [Ag]; exact S.size
  refine wpIn_mono (iha (ro:=some (w.heap.size+1)) _ _ hv oO.no (MT.no _) _ _ hA3) ?_
  rintro e a3 w3 hq
  cases e with
  | normal=>
    obtain ⟨s1,hA4,hvb⟩:=hq
    obtain ⟨J3,Yo,S3,E3⟩:=hA4.ex
    have nc3:=E3.nc S2.store
    have UD:=nc3 _ _ hL2 rfl
    have hD3:=nc3 _ _ hD2 rfl
    refine ⟨_,run_beginRound (P:=P) UD rfl,?_⟩
    have S4:=S3.store.put (.loop { rc .ready none with state:=.busy }) UD rfl
    have hL4:(w3.putObj (w.heap.size+1) (.loop { rc .ready none with state:=.busy })).heap[w.heap.size+1]? = some (.loop (rc .busy none)):=World.putObj_heap_same (Array.getElem?_eq_some_iff.1 UD).1
    have hD4:(w3.putObj (w.heap.size+1) (.loop { rc .ready none with state:=.busy })).heap[w.heap.size]? = some (.deferred (some [])):=(World.putObj_heap_other (by omega)).trans hD3
    have CN3:=CN.put (.loop { rc .ready none with state:=.busy }) UD rfl
    have hA5:nR G (Dk.plain [] false) N s1.obj J3 Yo (w3.putObj (w.heap.size+1) (.loop { rc .ready none with state:=.busy })) s1 a3 (w3.putObj (w.heap.size+1) (.loop { rc .ready none with state:=.busy })):=by
     refine ⟨J3,Yo,⟨S4,fun t=>(S3.env t).cn S3.store CN3 (fun _ _ _ h=>h),S3.size,?_,trivial,S3.lim⟩,Ext.refl ..⟩
     have:=S3.defers.none rfl
     rw [this]; exact Marks.plain _ _
    have E4:Ext s.obj s1.obj J J3 xL Yo w (w3.putObj (w.heap.size+1) (.loop { rc .ready none with state:=.busy })):=(E2.trans E3).put _ UD rfl (by omega) rfl
    refine wpIn_mono (ihb (ro:=some (w.heap.size+1)) _ _ hvb oO.no (MT.no _) a3 _ hA5) ?_
    rintro e a5 w5 hq
    have close:∀ (s5:St) (pe:Option Code) (yv:LV) (bb:Bool),nR G (Dk.plain [] false) N s1.obj J3 Yo (w3.putObj (w.heap.size+1) (.loop { rc .ready none with state:=.busy })) s5 a5 w5→K' yv bb s5.af→bb=pe.isNone→(∀ (J:Nat→Prop) w ι,cT J w ι yv Go.undef)→
      (∀ w6:World,w6.heap[w.heap.size+1]? = some (.loop (rc (if pe.isNone then .ready else .done) pe))→w6.heap[w.heap.size]? = some (.deferred (some []))→Ro (w.heap.size+1) w.heap.size rc jm yv w6)→
      ∃ v w6,(Instr.endRound (w.heap.size+1) pe).run P w5=.ok v w6∧(fun (e:Ending) w'=>∃ ys' b ay,e=.returned (.bool b)∧K' ys' b ay∧∀ dst,(∀ d,dst=some d→d<Nit)→At G (Rp (w.heap.size+1) w.heap.size rc jm) Nit s.obj J xL w (gx dst (.bool b) (fun t=>if YS=t then ys' else get t)) (au ay) (a2.put dst (.bool b)) w') (.returned v) w6:=by
     intro s5 pe yv bb ZT hk hbb abj hrecv
     obtain ⟨J5,ι5,S5,E5⟩:=ZT.ex
     have nc5:=E5.nc S4
     have hL5:=nc5 _ _ hL4 rfl
     have hD5:=nc5 _ _ hD4 rfl
     have CN5:=CN.put (.loop { rc .busy none with state:=if pe.isNone then .ready else .done,pending:=pe }) hL5 rfl
     refine ⟨_,_,run_endRound (P:=P) pe hL5,yv,bb,s5.af,by rw [hbb],hk,fun dst hd=>?_⟩
     refine ⟨J5,ι5,⟨S5.store.put _ hL5 rfl,fun t=>?_,?_,?_,?_,S2.lim⟩,(E4.trans E5).put _ hL5 rfl (by omega) rfl⟩
     ·have hold:∀ t,cT J5 (w5.putObj (w.heap.size+1) (.loop { rc .busy none with state:=if pe.isNone then .ready else .done,pending:=pe })) ι5 (if YS=t then yv else get t) (a2.tmps.getD t Go.undef):=by
       intro t
       by_cases ht:YS=t
       ·rw [if_pos ht]
        have:a2.tmps.getD t Go.undef=Go.undef:=by
         have h1:=S2.size
         have h2:=S2.lim
         rw [Array.getD_eq_getD_getElem?,Array.getElem?_eq_none (by omega)]; rfl
        rw [this]; exact abj _ _ _
       ·rw [if_neg ht]
        exact ((((S2.env t).ev S2.store E3.ev).cn S3.store CN3 (fun _ _ _ h=>h)).ev S4 E5.ev).cn S5.store CN5 (fun _ _ _ h=>h)
      cases dst with
      | none=>simpa [gx,Act.put] using hold t
      | some d=>
        have UB:=hd d rfl
        simp only [gx,Act.put,Option.some.injEq]
        by_cases ht:d=t
        ·subst ht
         rw [if_pos rfl]
         have:(a2.tmps.setIfInBounds d (.bool bb)).getD d Go.undef=.bool bb:=by simp [Array.getD_eq_getD_getElem?,S2.size,UB]
         rw [this]; rfl
        ·rw [if_neg ht]
         have:(a2.tmps.setIfInBounds d (.bool bb)).getD t Go.undef=a2.tmps.getD t Go.undef:=by
          simp [Array.getD_eq_getD_getElem?,Array.getElem?_setIfInBounds_ne ht]
         rw [this]; exact hold t
     ·cases dst <;> simp [Act.put,S2.size]
     ·have h1:=S2.defers.none rfl
      have h2:(a2.put dst (.bool bb)).defers=a2.defers:=by cases dst <;> rfl
      rw [h2,h1]; exact Marks.plain (Rp (w.heap.size+1) w.heap.size rc jm) _
     ·have h2:gx dst (.bool bb) (fun t=>if YS=t then yv else get t) YS=yv:=by
       unfold gx
       rw [if_neg]
       ·simp
       ·intro h
        have h3:=hd YS h
        have:=S2.lim
        omega
      rw [h2]
      exact hrecv _ (World.putObj_heap_same (Array.getElem?_eq_some_iff.1 hL5).1) ((World.putObj_heap_other (by omega)).trans hD5)
    cases e with
    | normal=>
      obtain ⟨s5,ZT,hk⟩:=hq
      exact close s5 none ia true ZT hk rfl (fun _ _ _=>rfl) (fun w6 h1 h2=>⟨(fun _=>h1),(fun h=>by cases h),(fun _=>h2),rfl⟩)
    | exit i=>
      obtain ⟨QN,s5,ZT,_,hjm,hk⟩:=hq
      subst hjm
      exact close s5 (some (.exit i)) jv false ZT hk rfl (fun _ _ _=>⟨#[],rfl,trivial⟩) (fun w6 h1 h2=>⟨(fun h=>by cases h),(fun _=>h1),(fun _=>h2),rfl⟩)
    | ret=>
      obtain ⟨s5,ZT,hjm,hk⟩:=hq
      subst hjm
      exact close s5 (some .ret) jv false ZT hk rfl (fun _ _ _=>⟨#[],rfl,trivial⟩) (fun w6 h1 h2=>⟨(fun h=>by cases h),(fun _=>h1),(fun _=>h2),rfl⟩)
    | goto l=>exact hq.elim
    | panic ch=>
      obtain ⟨v,s',_,_,_,hx,_⟩:=hq
      exact (hx rfl).elim
    | outgrown=>exact hq.elim
  | exit i=>exact hq.2.elim (fun _ h=>h.2)
  | ret=>exact hq.elim (fun _ h=>h.2)
  | goto l=>exact hq.elim
  | panic ch=>
    obtain ⟨v,s',_,_,_,hx⟩:=hq
    exact hx.elim
  | outgrown=>exact hq.elim
 refine nI.2 (Calls.mono (ZI Dp) ?_)
 clear ZI Dp
 rintro e w3 ⟨v,rfl,yv,ay,J3,Yo,hR,sU,S3,E3⟩
 have E3':=back E3
 have fin:∀ (st:LoopState) (pe:Option Code),w3.heap[w.heap.size+1]? = some (.loop (rc st pe))→w3.heap[w.heap.size]? = some (.deferred (some []))→
   nR G D N bf J0 bV w0 ⟨s.env,ay⟩ { a with defers:=[{ target:=.collected w.heap.size,args:=#[] }]++a.defers } (w3.putObj (w.heap.size+1) (.loop { rc st pe with state:=.exhausted })):=by
  intro st pe UD hD3
  have CN3:=CN.put (.loop { rc st pe with state:=.exhausted }) UD rfl
  have E4:=E3'.put (.loop { rc st pe with state:=.exhausted }) UD rfl (by omega) rfl
  have nc:jV w (w3.putObj (w.heap.size+1) (.loop { rc st pe with state:=.exhausted })):=E4.nc S.store
  refine ⟨J3,Yo,⟨S3.put _ UD rfl,fun t=>((S.env t).ev S.store E3'.ev).cn S3 CN3 (fun _ _ _ h=>h),S.size,?_,D.keep _ _ _ nc S.ys,S.lim⟩,E.trans E4⟩
  obtain ⟨Bs,h1,h2,h3,h4⟩:=S.defers
  refine ⟨w.heap.size::Bs,(fun h=>by rw [hmk] at h; cases h),List.nodup_cons.2 ⟨fun h=>?_,h2⟩,by simp [h3],fun b hb=>?_⟩
  ·have:=(Array.getElem?_eq_some_iff.1 (h4 _ h).2).1
   omega
  ·rcases List.mem_cons.1 hb with rfl | hb
   ·exact ⟨by omega,(World.putObj_heap_other (by omega)).trans hD3⟩
   ·exact ⟨(h4 b hb).1,nc _ _ (h4 b hb).2 rfl⟩
 rcases hend yv ay hR with ⟨rfl,hk⟩ | ⟨rfl,hk⟩
 ·exact ⟨none,_,run_endLoop (P:=P) (sU.1 rfl) (by simp [rc]),_,fin _ _ (sU.1 rfl) (sU.2.2.1 (by simp [ia])),hk⟩
 ·refine ⟨some (Vy jm),_,run_endLoop (P:=P) (sU.2.1 rfl) (by simp [rc]),?_⟩
  have hf:=fin _ _ (sU.2.1 rfl) (sU.2.2.1 (by simp [jv]))
  cases jm with
  | none=>exact wpIn_ret ⟨_,hf,hk⟩
  | some i=>exact wpIn_exit ⟨hk.1,_,hf,hk.2⟩
theorem eL:∀ (code:Code) (c:C) {N:Nat},eD P N code=some c→∀ {ro:Option Nat} {nn:Nat} {D:Dk} {bf:Nat→b_} {J0:Nat→Prop} {bV:Nat→Nat→Option Nat} {w0:World} (hrf:j7 c=true∨(ro=none∧D.wN=true∧D.lo≤w0.heap.size)) (s:St) (K:wo),vc P G c s K→oO P G ro K.y D N bf J0 bV w0→MT K.b bV→∀ a w,nR G D N bf J0 bV w0 s a w→code.wpIn (fz ro) nn P (KQ G D N bf J0 bV w0 K) a w
 | .skip,c,N,hc,ro,nn,D,bf,J0,bV,w0,hrf,s,K,h,hY,hB,a,w,hA=>by
   simp only [eD] at hc; cases hc
   exact wpIn_skip ⟨s,hA,h⟩
 | .region rid ops draw,c,N,hc,ro,nn,D,bf,J0,bV,w0,hrf,s,K,h,hY,hB,a,w,hA=>by
   simp only [eD] at hc
   split at hc
   ·rename_i fF A3
    cases hc
    cases draw with
    | false=>
      simp only [Bool.false_eq_true,if_false,vc] at h
      simp only [mI,Bool.false_eq_true,if_false] at A3
      obtain ⟨h1,h2⟩:=mJ A3
      exact wpIn_region_list (vD hY (K:=K.n) (fun s a w hA hK=>⟨s,hA,hK⟩) (fun v s a w hd hO hX=>⟨v,s,rfl,hd,hO,hX⟩) _ _ _ _ _ h1 h2 h hA)
    | true=>
      simp only [if_true] at h
      unfold GG at h
      split at h
      ·rename_i p hp
       split at h
       ·rename_i io oW
        simp only [vc] at h
        exact Qe hY (K:=K.n) (fun s a w hA hK=>⟨s,hA,hK⟩) (fun v s a w hd hO hX=>⟨v,s,rfl,hd,hO,hX⟩) A3 oW (List.find?_some hp) h hA
       ·simp only [vc] at h
        exact Am (K:=K.n) (fun s a w hA hK=>⟨s,hA,hK⟩) (fun v s a w hd hO hX=>⟨v,s,rfl,hd,hO,hX⟩) A3 h hA
      ·simp only [vc] at h
       exact Am (K:=K.n) (fun s a w hA hK=>⟨s,hA,hK⟩) (fun v s a w hd hO hX=>⟨v,s,rfl,hd,hO,hX⟩) A3 h hA
   ·cases hc
 | .seq x y,c,N,hc,ro,nn,D,bf,J0,bV,w0,hrf,s,K,h,hY,hB,a,w,hA=>by
   simp only [eD] at hc
   split at hc
   ·rename_i cx cy h1 h2
    cases hc
    have bU:j7 cx=true∨(ro=none∧D.wN=true∧D.lo≤w0.heap.size):=hrf.imp (fun h=>by simp only [j7,Bool.and_eq_true] at h; exact h.1) id
    have kI:j7 cy=true∨(ro=none∧D.wN=true∧D.lo≤w0.heap.size):=hrf.imp (fun h=>by simp only [j7,Bool.and_eq_true] at h; exact h.2) id
    refine wpIn_seq (wpIn_mono (eL x cx h1 bU s _ h hY hB a w hA) (fun e a' w' hq=>?_))
    cases e with
    | normal=>obtain ⟨s',uH,hk⟩:=hq; exact eL y cy h2 kI s' K hk hY hB a' w' uH
    | exit i=>exact hq
    | ret=>exact hq
    | goto l=>exact hq.elim
    | panic ch=>exact hq
    | outgrown=>exact hq.elim
   ·cases hc
 | .cond x y z,c,N,hc,ro,nn,D,bf,J0,bV,w0,hrf,s,K,h,hY,hB,a,w,hA=>by
   simp only [eD] at hc
   split at hc
   ·rename_i cx cy cz h1 h2 h3
    cases hc
    have kI:j7 cy=true∨(ro=none∧D.wN=true∧D.lo≤w0.heap.size):=hrf.imp (fun h=>by simp only [j7,Bool.and_eq_true] at h; exact h.1) id
    have hrz:j7 cz=true∨(ro=none∧D.wN=true∧D.lo≤w0.heap.size):=hrf.imp (fun h=>by simp only [j7,Bool.and_eq_true] at h; exact h.2) id
    simp only [vc] at h
    split at h
    ·rename_i t ht
     have hv:a.eval x=.bool t:=by
      obtain ⟨J,ι,S,E⟩:=hA.ex
      have hr:=aT S.store S.env h1
      rw [ht] at hr
      exact hr
     exact wpIn_cond_split hv (fun hh=>eL y cy h2 kI s K (by rw [if_pos hh] at h; exact h) hY hB a w hA) (fun hh=>eL z cz h3 hrz s K (by rw [if_neg (by simp [hh])] at h; exact h) hY hB a w hA)
    ·rename_i ht
     obtain ⟨t,hv⟩:∃ t,a.eval x=.bool t:=by
      obtain ⟨J,ι,S,E⟩:=hA.ex
      have hr:=aT S.store S.env h1
      rw [ht] at hr
      exact hr
     exact wpIn_cond_split hv (fun hh=>eL y cy h2 kI s K h.1 hY hB a w hA) (fun hh=>eL z cz h3 hrz s K h.2 hY hB a w hA)
    ·exact h.elim
   ·cases hc
 | .block i x,c,N,hc,ro,nn,D,bf,J0,bV,w0,hrf,s,K,h,hY,hB,a,w,hA=>by
   simp only [eD] at hc
   split at hc
   ·rename_i cx h1
    by_cases QN:i=gN
    ·rw [if_pos QN] at hc; cases hc
    rw [if_neg QN] at hc
    cases hc
    refine wpIn_block (wpIn_mono (eL x cx h1 hrf s _ h hY hB a w hA) (fun e a' w' hq=>?_))
    cases e with
    | normal=>exact hq
    | exit j=>
      obtain ⟨hjP,s',uH,hk⟩:=hq
      simp only [Exit.inBlock]
      dsimp only at hk
      by_cases hj:j=i
      ·rw [if_pos hj] at hk ⊢; exact ⟨s',uH,hk⟩
      ·rw [if_neg hj] at hk ⊢; exact ⟨hjP,s',uH,hk⟩
    | ret=>exact hq
    | goto l=>exact hq.elim
    | panic ch=>
      obtain ⟨v,s',h1,h2,h3,hk⟩:=hq
      dsimp only at hk
      rw [if_neg (fun e=>QN e.symm)] at hk
      exact ⟨v,s',h1,h2,h3,hk⟩
    | outgrown=>exact hq.elim
   ·cases hc
 | .loop x,c,N,hc,ro,nn,D,bf,J0,bV,w0,hrf,s,K,h,hY,hB,a,w,hA=>by
   simp only [eD] at hc
   split at hc
   ·rename_i cx h1
    cases hc
    simp only [vc] at h
    obtain ⟨ts,I,M,ad,hI,hstep⟩:=h
    replace hA:=hA.c_ ad
    have hm:∀ o n b,bV o n=some b→o<(c_ ad s).af.length:=fun o n b hb=>hA.bound hb
    have key:∀ n k s' a w,k<n→I k s'→nR G D N bf J0 bV w0 s' a w→Code.roundsIn (fz ro) nn P x (KQ G D N bf J0 bV w0 K) n a w:=by
     intro n
     induction n with
     | zero=>intro k _ _ _ hk; omega
     | succ n ih=>
       intro k s' a w hk hIk uH
       rw [roundsIn_succ]
       refine wpIn_mono (eL x cx h1 hrf s' _ (hstep k s' hIk) hY hB a w uH) (fun e a' w' hq=>?_)
       cases e with
       | normal=>
         obtain ⟨s'',ac8,j,hj,s3,hIj,himp⟩:=hq
         exact ih j _ a' w' (by omega) hIj (himp _ _ _ _ _ _ _ _ (hB.lt hm) ac8)
       | exit i=>exact hq
       | ret=>exact hq
       | goto l=>exact hq.elim
       | panic ch=>exact hq
       | outgrown=>exact hq.elim
    exact wpIn_loop_rounds (M+1) (key (M+1) M _ a w (by omega) hI (hA.aaI ts))
   ·cases hc
 | .exit i,c,N,hc,ro,nn,D,bf,J0,bV,w0,hrf,s,K,h,hY,hB,a,w,hA=>by
   simp only [eD] at hc
   by_cases QN:i=gN
   ·rw [if_pos QN] at hc; cases hc
   rw [if_neg QN] at hc
   cases hc
   exact wpIn_exit ⟨QN,s,hA,h⟩
 | .scope x,c,N,hc,ro,nn,D,bf,J0,bV,w0,hrf,s,K,h,hY,hB,a,w,hA=>by
   simp only [eD] at hc
   split at hc
   ·rename_i cx h1
    cases hc
    refine rG (wpIn_mono (eL x cx h1 hrf s K h hY hB a w hA) (fun e a' w' hq=>?_))
    cases e with
    | normal=>exact hq
    | exit i=>exact hq
    | ret=>exact hq
    | goto l=>exact hq.elim
    | panic ch=>exact hq
    | outgrown=>exact hq.elim
   ·cases hc
 | .ret,c,N,hc,ro,nn,D,bf,J0,bV,w0,hrf,s,K,h,hY,hB,a,w,hA=>by
   simp only [eD] at hc; cases hc
   exact wpIn_ret ⟨s,hA,h⟩
 | .label _,c,N,hc,ro,nn,D,bf,J0,bV,w0,hrf,s,K,h,hY,hB,a,w,hA=>by
   simp only [eD] at hc; cases hc
   exact wpIn_label ⟨s,hA,h⟩
 | .goto _,c,N,hc,_,_,_,_,_,_,_,_,_,_,_,_,_,_,_,_=>by simp [eD] at hc
 | .refuse _,c,N,hc,_,_,_,_,_,_,_,_,_,_,_,_,_,_,_,_=>by simp [eD] at hc
 | .rangeFunc g ps ca cb,c,N,hc,ro,nn,D,bf,J0,bV,w0,hrf,s,K,h,hY,hB,a,w,hA=>by
   simp only [eD] at hc
   split at hc
   ·rename_i cg xa xb h1 h2 h3
    split at hc
    ·rename_i hok
     cases hc
     simp only [Bool.and_eq_true,List.all_eq_true,decide_eq_true_eq] at hok
     obtain ⟨⟨hna,hnb⟩,Zt⟩:=hok
     obtain ⟨hro,hmk,hlo⟩:ro=none∧D.wN=true∧D.lo≤w0.heap.size:=hrf.resolve_left (by simp [j7])
     subst hro
     simp only [vc] at h
     split at h
     ·rename_i k fs cs iY
      exact KW h1 Zt hmk hlo (fun s K h hY hB a w hA=>eL ca xa h2 (.inl hna) s K h hY hB a w hA) (fun s K h hY hB a w hA=>eL cb xb h3 (.inl hnb) s K h hY hB a w hA) iY h a w hA
     ·exact h.elim
    ·cases hc
   ·cases hc
end
def RV.of (s:St):RV→Option LV
 | .t n=>some (s.get n)
 | .c1 n=>match s.get n with
   | .ptr o col=>match s.obj o with
     | .live (.box _ cells)=>cells[col]?
     | _=>none
   | _=>none
 | .cn n size=>match s.get n with
   | .ptr o col=>match s.obj o with
     | .live (.box _ cells)=>if ((cells.drop col).take size).length=size then some (.agg ((cells.drop col).take size)) else none
     | _=>none
   | _=>none
def yf.of (s:St):List RV→Option (List LV)
 | []=>some []
 | x::xs=>match x.of s,yf.of s xs with
   | some v,some vs=>some (v::vs)
   | _,_=>none
def aP:List LV→LV
 | [x]=>x
 | xs=>.dH xs
def DG (P:Program):ResultVar→Option RV
 | .tmp t=>some (.t t)
 | .cell a T=>match nO P T,dP P T with
   | some true,some n=>some (.cn a n)
   | some false,some _=>some (.c1 a)
   | _,_=>none
def oI (P:Program):List ResultVar→Option (List RV)
 | []=>some []
 | x::xs=>match DG P x,oI P xs with
   | some y,some ys=>some (y::ys)
   | _,_=>none
def aj (P:Program) (fn:Func):Option (Nat×C×List RV):=match fn.body with
 | some code=>match eD P fn.ntmps code,oI P fn.results.toList with
   | some c,some rv=>if fn.ntmps≤YS then some (fn.ntmps,c,rv) else none
   | _,_=>none
 | none=>none
def fm:Nat→List LV→List (Nat×LV)
 | _,[]=>[]
 | k,x::xs=>(k,x)::fm (k+1) xs
def acm (rv:List RV) (k:Nat) (r:LV) (aq:List aC) (s:St):Prop:=
 ∃ vs ρ Z,yf.of s rv=some vs∧ρ.take k=List.range k∧ρ.Nodup∧(∀ z∈Z,z∉ρ)∧(∀ z∈Z,∃ et e rows,s.obj z=.live (.dat et e rows)∨s.obj z=.live (.kK et e rows))∧aq.length=ρ.length∧
   (∀ (i o:Nat),ρ[i]? = some o→∃ ob,aq[i]? = some ob∧s.obj o=.live (ff (bu ρ 0) ob))∧aq.all (dV ρ.length)=true∧ah s.obj ρ Z (aP vs) r
def vh (rv:List RV) (k:Nat) (r:LV) (aq:List aC) (s:St):Prop:=∃ ad,acm rv k r aq (c_ ad s)
def EA (tmps:Array Value):ResultVar→Sem Value
 | .tmp q=>pure (tmps.getD q Go.undef)
 | .cell p T=>do loadVar T (← asAddr (tmps.getD p Go.undef))
theorem sH (fn:Func) (tmps:Array Value):results fn tmps=(do let vs ← fn.results.mapM (EA tmps); pure (if h:vs.size=1 then vs[0] else .tuple vs)):=rfl
section
variable {P:Program} {G:Nat→Option (List DV)} {N:Nat} {J:Nat→Prop} {w:World} {ι:Nat→Nat→Option Nat}
theorem RV.sound {s:St} {a:Act} (S:aF G J w ι s.obj) (he:∀ t,cT J w ι (s.get t) (a.tmps.getD t Go.undef)) {x:ResultVar} {y:RV} (hc:DG P x=some y) {r:LV} (hr:y.of s=some r) :
  ∃ v,(EA a.tmps x).run P w=.ok v w∧cT J w ι r v:=by
 cases x with
 | tmp q=>
   simp only [DG] at hc; cases hc
   simp only [RV.of] at hr; cases hr
   exact ⟨_,rfl,he q⟩
 | cell p T=>
   simp only [DG] at hc
   split at hc
   ·rename_i n ha hs
    cases hc
    simp only [RV.of] at hr
    split at hr
    ·rename_i o col hg
     split at hr
     ·rename_i et cells ho
      split at hr
      ·rename_i hl
       cases hr
       have hp:=he p
       rw [hg] at hp
       obtain ⟨b,hb,hv⟩:=hp
       have h0:=S.rep o
       rw [ho] at h0
       obtain ⟨⟨b',Cc,h1,h2,h3⟩,_⟩:=h0
       rw [hb] at h1; cases h1
       have h4:=(h3.drop col).take n
       have hrun:=xR (P:=P) ha hs (iV h2 col n) (by rw [← h4.length,hl])
       refine ⟨_,?_,⟨_,rfl,by simpa using h4⟩⟩
       simp only [EA]
       rw [hv]
       simpa [Instr.loadAt,Instr.sureAddr,asAddr] using hrun
      ·cases hr
     ·cases hr
    ·cases hr
   ·rename_i n ha hs
    cases hc
    simp only [RV.of] at hr
    split at hr
    ·rename_i o col hg
     split at hr
     ·rename_i et cells ho
      have hp:=he p
      rw [hg] at hp
      obtain ⟨b,hb,hv⟩:=hp
      have h0:=S.rep o
      rw [ho] at h0
      obtain ⟨⟨b',Cc,h1,h2,h3⟩,_⟩:=h0
      rw [hb] at h1; cases h1
      obtain ⟨u,hu,_,Dn⟩:=h3.get hr
      have hrun:=qT (P:=P) (w:=w) ha (b:=b) (o:=col) (v:=u) (by rw [cell_of_row w b col Cc et _ h2]; simpa using hu)
      refine ⟨u,?_,Dn⟩
      simp only [EA]
      rw [hv]
      simpa [Instr.loadAt,Instr.sureAddr,asAddr] using hrun
     ·cases hr
    ·cases hr
   ·cases hc
theorem yf.sound {s:St} {a:Act} (S:aF G J w ι s.obj) (he:∀ t,cT J w ι (s.get t) (a.tmps.getD t Go.undef)):∀ {xs:List ResultVar} {ys:List RV},oI P xs=some ys→∀ {rs:List LV},yf.of s ys=some rs→
  ∃ vs,(xs.mapM (EA a.tmps)).run P w=.ok vs w∧ck J w ι rs vs
 | [],ys,hc,rs,hr=>by
   simp only [oI] at hc; cases hc
   simp only [yf.of] at hr; cases hr
   exact ⟨[],rfl,trivial⟩
 | x::xs,ys,hc,rs,hr=>by
   simp only [oI] at hc
   split at hc
   ·rename_i y ys' h1 h2
    cases hc
    simp only [yf.of] at hr
    split at hr
    ·rename_i v vs h3 h4
     cases hr
     obtain ⟨u,hu,Dn⟩:=RV.sound S he h1 h3
     obtain ⟨us,XZ,AZ⟩:=yf.sound S he h2 h4
     refine ⟨u::us,?_,Dn,AZ⟩
     rw [List.mapM_cons,Sem.run_bind,hu]
     simp only [Result.andThen_ok,Sem.run_bind,XZ,Sem.run_pure]
    ·cases hr
   ·cases hc
theorem lT:∀ (xs:List LV) (vs:List Value) (k t:Nat),ck J w ι xs vs→cT J w ι (aW (fm k xs) t) (if k≤t then (vs[t-k]?).getD Go.undef else Go.undef)
 | [],[],k,t,_=>trivial
 | x::xs,v::vs,k,t,h=>by
   simp only [fm,aW]
   by_cases hk:k=t
   ·subst hk; simpa using h.1
   ·rw [if_neg hk]
    have:=lT xs vs (k+1) t h.2
    by_cases hlt:k≤t
    ·rw [if_pos (by omega)] at this
     rw [if_pos hlt]
     have e:t-k=(t-(k+1))+1:=by omega
     rw [e]; simpa using this
    ·rw [if_neg (by omega)] at this
     rw [if_neg hlt]; exact this
 | [],_::_,_,_,h=>h.elim
 | _::_,[],_,_,h=>h.elim
theorem ux {n:Nat} {fn:Func} {tmps:Array Value} {R:Ending→World→Prop} {obj bf:Nat→b_} {J0:Nat→Prop} {bV:Nat→Nat→Option Nat} {w0:World} {get:Nat→LV}
  (fin:∀ w,aF G J w ι obj→(∀ t,cT J w ι (get t) (tmps.getD t Go.undef))→Ext bf obj J0 J bV ι w0 w→∃ v,(results fn tmps).run P w=.ok v w∧R (.returned v) w) :
  ∀ (Bs:List Nat) (w:World),Bs.Nodup→(∀ b∈Bs,w0.heap.size≤b∧w.heap[b]? = some (.deferred (some [])))→aF G J w ι obj→(∀ t,cT J w ι (get t) (tmps.getD t Go.undef))→Ext bf obj J0 J bV ι w0 w→
    LeavesInM (fz none) n P fn tmps R (Bs.map fun b=>{ target:=.collected b,args:=#[] }) .returning w
 | [],w,_,_,S,he,E=>fin w S he E
 | b::Bs,w,hn,hb,S,he,E=>by
   obtain ⟨h1,h2⟩:=hb b (by simp)
   have hn':=List.nodup_cons.1 hn
   have CN3:=CN.put (.deferred none) h2 rfl
   refine ⟨by simp,.inl ⟨b,_,rfl,run_takeDeferred (P:=P) h2,?_⟩⟩
   refine ux fin Bs _ hn'.2 (fun b' hb'=>?_) (S.put _ h2 rfl) (fun t=>(he t).cn S CN3 (fun _ _ _ h=>h)) (E.put _ h2 rfl h1 rfl)
   have hne:b'≠b:=fun e=>hn'.1 (e ▸ hb')
   exact ⟨(hb b' (by simp [hb'])).1,(World.putObj_heap_other hne).trans (hb b' (by simp [hb'])).2⟩
theorem Q8 {f:Nat} {fn:Func} {c:C} {rv:List RV} {args:List LV} {aH aq:List aC} {r:LV} (hf:P.funcs[f]? = some fn) (hn:fn.name≠ "runtime.NumGoroutine") (gR:aj P fn=some (N,c,rv)) (hl:args.length≤N) (bb:Option Nat)
  (h:vc P G c ⟨fm 0 args,aH.map some⟩ ⟨vh rv aH.length r aq,fun _ _=>False,vh rv aH.length r aq,qZ,bb⟩) (hbb:∀ B,bb=some B→aH.length≤B):bh P G f args aH r aq:=by
 unfold aj at gR
 split at gR
 ·rename_i code hbody
  split at gR
  ·rename_i c' rv' hc LM
   split at gR
   case isFalse=>cases gR
   rename_i hlim
   cases gR
   refine ⟨by simp [mG,hf,hn,hbody],fun J0 bV w0 vs S0 hargs=>?_⟩
   have hvl:vs.size=args.length:=by have:=hargs.length; simpa using this.symm
   refine (nI (ro:=none) (n:=0)).1 (callsIn_of_wp_marks hf hbody trivial (wpIn_mono (eL (N:=fn.ntmps) (D:=Dk.plain [] true w0.heap.size) (bf:=au (aH.map some)) (J0:=J0) (bV:=bV) (w0:=w0) code c hc (.inr ⟨rfl,rfl,Nat.le_refl _⟩) _ _ h oO.no (fun B hB o n x hx=>Nat.lt_of_not_le (fun ho=>by
    have:=S0.rep o
    rw [cv (by have:=hbb B hB; simp; omega)] at this
    rw [this n] at hx; cases hx)) _ w0 ⟨J0,bV,⟨S0,fun t=>?_,?_,Marks.plain _ _,trivial,hlim⟩,Ext.refl ..⟩) (fun e a w hq=>?_)))
   ·have h1:=lT args vs.toList 0 t hargs
    simp only [Nat.zero_le,if_true,Nat.sub_zero] at h1
    have h2:(vs++Array.replicate (fn.ntmps-vs.size) Go.undef).getD t Go.undef=(vs.toList[t]?).getD Go.undef:=by
     simp only [Array.getD_eq_getD_getElem?,Array.getElem?_append,Array.getElem?_toList]
     by_cases ht:t<vs.size
     ·rw [if_pos ht]
     ·rw [if_neg ht,Array.getElem?_eq_none (Nat.le_of_not_lt ht),Array.getElem?_replicate]
      split <;> rfl
    rw [h2]; exact h1
   ·simp; omega
   ·have fin:∀ s,nR G (Dk.plain [] true w0.heap.size) fn.ntmps (au (aH.map some)) J0 bV w0 s a w→vh rv aH.length r aq s→
     LeavesInM (fz none) 0 P fn a.tmps (fun e w'=>∃ v,e=.returned v∧aN G (au (aH.map some)) (au (aq.map some)) J0 bV w0 r v w') a.defers .returning w:=by
     intro s hA hB
     obtain ⟨ad,hB⟩:=hB
     replace hA:=hA.c_ ad
     generalize c_ ad s=s at hA hB
     obtain ⟨J,ι,S,E⟩:=hA.ex
     obtain ⟨rs,ρ,Z,zP,hk,hnd,hz,Ds,hlen,en,hid,hR⟩:=hB
     obtain ⟨Bs,_,hBn,hBd,hBm⟩:=S.defers
     have abV:a.defers=Bs.map (fun b=>{ target:=.collected b,args:=#[] }):=by rw [hBd]; simp [Dk.plain]
     rw [abV]
     refine ux (get:=s.get) ?_ Bs w hBn hBm S.store S.env E
     clear hA hBm
     have acg:=S.env
     have Sst:=S.store
     clear S E hBd abV
     intro w Sst acg E
     obtain ⟨us,XZ,AZ⟩:=yf.sound Sst acg LM zP
     have hm:(fn.results.mapM (EA a.tmps)).run P w=.ok us.toArray w:=by
      rw [Array.mapM_eq_mapM_toList,Sem.run_map,XZ]; rfl
     have hv:∃ v,(results fn a.tmps).run P w=.ok v w∧cT J w ι (aP rs) v:=by
      refine ⟨if h:us.toArray.size=1 then us.toArray[0] else .tuple us.toArray,?_,?_⟩
      ·rw [sH,Sem.run_bind,hm]
       rfl
      ·have O7:=AZ.length
       cases rs with
       | nil=>
         cases us with
         | nil=>exact ⟨#[],rfl,trivial⟩
         | cons _ _=>simp at O7
       | cons x xs=>
         cases us with
         | nil=>simp at O7
         | cons u us=>
           cases xs with
           | nil=>
             cases us with
             | nil=>exact AZ.1
             | cons _ _=>simp at O7
           | cons y ys=>
             cases us with
             | nil=>simp at O7
             | cons u2 us=>exact ⟨_,by simp,AZ⟩
     obtain ⟨v,hv1,HF⟩:=hv
     refine ⟨v,hv1,v,rfl,?_⟩
     obtain ⟨S',hown⟩:=Sst.sub (base:=0) hnd hz hlen en hid (fun z hz=>.inl (Ds z hz))
     refine ⟨_,_,S',oN Sst _ _ v hR HF,⟨E.ev.os,E.ev.tape,E.ev.output,E.ev.size,E.ev.same,E.ev.shape,fun b hb=>.inl (E.ev.gP b hb),fun b hb=>?_,fun o n b hb=>?_⟩,?_⟩
     ·rcases hb with hb | ⟨z,Zn,MV⟩
      ·exact E.ev.vQ b hb
      ·rcases E.own b ⟨z,MV⟩ with h1 | h1
       ·exact .inr (.inr h1)
       ·exact .inr (.inl h1)
     ·have ho:o<aH.length:=by
       rcases Nat.lt_or_ge o aH.length with h1 | h1
       ·exact h1
       ·have:=S0.rep o
        rw [cv (by simpa using h1)] at this
        rw [this n] at hb; cases hb
      have acA:ρ[o]? = some o:=by
       have h1:(ρ.take aH.length)[o]? = some o:=by rw [hk]; simp [ho]
       rwa [List.getElem?_take_of_lt ho] at h1
      exact kZ acA (E.ev.gQ o n b hb)
     ·rintro b ⟨i,hb⟩
      obtain ⟨o,_,h2⟩:=hown i b hb
      exact E.own b ⟨o,h2⟩
    cases e with
    | normal=>obtain ⟨s,hA,hB⟩:=hq; exact fin s hA hB
    | ret=>obtain ⟨s,hA,hB⟩:=hq; exact fin s hA hB
    | exit i=>obtain ⟨_,s,hA,hB⟩:=hq; exact hB.elim
    | goto l=>exact hq.elim
    | panic ch=>obtain ⟨v,s,h1,h2,h3,hk⟩:=hq; exact hk.elim
    | outgrown=>exact hq.elim
  ·cases gR
 ·cases gR
theorem yx {f:Nat} {fn:Func} {c:C} {rv:List RV} {args:List LV} {aH aq:List aC} {r:LV} (hf:P.funcs[f]? = some fn) (hn:fn.name≠ "runtime.NumGoroutine") (gR:aj P fn=some (N,c,rv)) (hl:args.length≤N)
  (h:vc P G c ⟨fm 0 args,aH.map some⟩ ⟨vh rv aH.length r aq,fun _ _=>False,vh rv aH.length r aq,qZ,none⟩):bh P G f args aH r aq:=
 Q8 hf hn gR hl none h (fun _ h=>by cases h)
theorem JA {f:Nat} {fn:Func} {c:C} {rv:List RV} {args:List LV} {af:List (Option aC)} {Y:YO} {R:LV→List (Option aC)→Prop} (hf:P.funcs[f]? = some fn) (hn:fn.name≠ "runtime.NumGoroutine") (gR:aj P fn=some (N,c,rv)) (hl:args.length≤N) (HM:j7 c=true)
  (h:vc P G c ⟨(YS,ia)::fm 0 args,af⟩ ⟨fun s=>R (s.get YS) s.af∧rv=[],fun _ _=>False,fun s=>R (s.get YS) s.af∧rv=[],Y,none⟩):Gf P G f args af Y R:=by
 unfold aj at gR
 split at gR
 ·rename_i code hbody
  split at gR
  ·rename_i c' rv' hc LM
   split at gR
   case isFalse=>cases gR
   rename_i hlim
   cases gR
   refine ⟨by simp [mG,hf,hn,hbody],fun D bf J0 bV w0 J ι w vs hds hmk S0 hargs E0 hys hY=>?_⟩
   have hvl:vs.size=args.length:=by have:=hargs.length; simpa using this.symm
   refine (nI (ro:=none) (n:=0)).1 (callsIn_of_wp hf hbody trivial (wpIn_mono (eL (N:=fn.ntmps) (D:=D) (bf:=bf) (J0:=J0) (bV:=bV) (w0:=w0) code c hc (.inl HM) _ _ h (hY _) (MT.no _) _ w ⟨J,ι,⟨S0,fun t=>?_,?_,?_,?_,hlim⟩,E0⟩) (fun e a w hq=>?_)))
   ·have hsz:(vs++Array.replicate (fn.ntmps-vs.size) Go.undef).size=fn.ntmps:=by simp; omega
    show cT J w ι (if YS=t then ia else aW (fm 0 args) t) _
    by_cases ht:YS=t
    ·rw [if_pos ht]
     have:(vs++Array.replicate (fn.ntmps-vs.size) Go.undef).getD t Go.undef=Go.undef:=by
      rw [Array.getD_eq_getD_getElem?,Array.getElem?_eq_none (by omega)]; rfl
     rw [this]; rfl
    rw [if_neg ht]
    have h1:=lT args vs.toList 0 t hargs
    simp only [Nat.zero_le,if_true,Nat.sub_zero] at h1
    have h2:(vs++Array.replicate (fn.ntmps-vs.size) Go.undef).getD t Go.undef=(vs.toList[t]?).getD Go.undef:=by
     simp only [Array.getD_eq_getD_getElem?,Array.getElem?_append,Array.getElem?_toList]
     by_cases ht:t<vs.size
     ·rw [if_pos ht]
     ·rw [if_neg ht,Array.getElem?_eq_none (Nat.le_of_not_lt ht),Array.getElem?_replicate]
      split <;> rfl
    rw [h2]; exact h1
   ·simp; omega
   ·show Marks D [] _
    rw [← hds]; exact Marks.plain _ _
   ·exact hys
   ·have fin:∀ s,nR G D fn.ntmps bf J0 bV w0 s a w→R (s.get YS) s.af∧rv=[]→
     a.defers=[]∧∃ v,(results fn a.tmps).run P w=.ok v w∧(fun (e:Ending) w'=>∃ v,e=.returned v∧∃ yv ay J' ι',R yv ay∧D.ys yv w'∧aF G J' w' ι' (au ay)∧Ext bf (au ay) J0 J' bV ι' w0 w') (.returned v) w:=by
     intro s hA hB
     obtain ⟨J,ι,S,E⟩:=hA.ex
     have hd:a.defers=[]:=by rw [S.defers.none hmk,hds]
     refine ⟨hd,?_⟩
     obtain ⟨hR,rfl⟩:=hB
     obtain ⟨us,XZ,AZ⟩:=yf.sound S.store S.env LM (rs:=[]) rfl
     have hm:(fn.results.mapM (EA a.tmps)).run P w=.ok us.toArray w:=by
      rw [Array.mapM_eq_mapM_toList,Sem.run_map,XZ]; rfl
     refine ⟨if h:us.toArray.size=1 then us.toArray[0] else .tuple us.toArray,?_,_,rfl,_,_,J,ι,hR,S.ys,S.store,E⟩
     rw [sH,Sem.run_bind,hm]
     rfl
    cases e with
    | normal=>obtain ⟨s,hA,hB⟩:=hq; exact fin s hA hB
    | ret=>obtain ⟨s,hA,hB⟩:=hq; exact fin s hA hB
    | exit i=>obtain ⟨_,s,hA,hB⟩:=hq; exact hB.elim
    | goto l=>exact hq.elim
    | panic ch=>obtain ⟨v,s,h1,h2,h3,hk⟩:=hq; exact hk.elim
    | outgrown=>exact hq.elim
  ·cases gR
 ·cases gR
end
end Dv
