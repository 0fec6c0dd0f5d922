/- part -/
import Derived.Test.YtkalnfkokkjliaaGreatDoorVB
import Derived.Laws.BytesString
import Derived.OwnWalk
import Derived.MapKept
import Derived.Laws.LoneSync
import Derived.LoopN
import Derived.OwnWalkIn
import Derived.RangeFuncCalls
import Derived.RangeFuncIn
import Derived.RangeFuncNested
import Derived.RangeFuncBound
import Derived.Scope
import Derived.Below
import Derived.LoopNIn
import Derived.RangeFuncLeaves
set_option linter.all false
set_option maxHeartbeats 400000
namespace Dv
open Go
def Dp:Operand→Operand→Bool
 | .tmp i,.tmp j=>i==j
 | .const (.int k a),.const (.int k' b)=>k==k'&&a==b
 | _,_=>false
theorem EW {x y:Operand} (h:Dp x y=true) (a:Act):a.eval x=a.eval y:=by
 unfold Dp at h
 split at h
 ·rename_i i j
  have:i=j:=by simpa using h
  rw [this]
 ·simp only [Bool.and_eq_true,beq_iff_eq] at h
  rw [h.1,h.2]
 ·cases h
def zZ (P:Program) (t:TypeId):Bool:=match P.underlying t with
 | some (.int .i64)=>true
 | _=>false
theorem FR {P:Program} {t:TypeId} (h:zZ P t=true):P.underlying t=some (.int .i64):=by
 unfold zZ at h
 split at h
 ·assumption
 ·cases h
def iG (P:Program):Op→Option M
 | .slice T x lo hi none=>match aM x,fJ lo,fJ hi,P.underlying T with
   | some x,some lo,some hi,some (.array n e)=>if dS P e=some 1 then some (.sla n x lo hi) else none
   | _,_,_,_=>none
 | .call ⟨.builtin .copy,args,ts⟩=>match args.toList,ts.toList with
   | [x,y],[tx,ty]=>match aM x,aM y,P.underlying tx with
     | some x,some y,some (.slice e)=>if dS P e=some 1∧NR P ty=true then some (.cpy x y) else none
     | _,_,_=>none
   | _,_=>none
 | .makeSlice T l c=>match aM l,P.underlying T with
   | some n,some (.slice e)=>match pT P e,xD P e with
     | some z,some (size,bytes)=>if Dp l c=true∧z.length=size then some (.xm e size bytes z n) else none
     | _,_=>none
   | _,_=>none
 | .convert S T x=>match aM x,P.underlying S,P.underlying T with
   | some x,some (.slice e),some .string=>match P.underlying e with
     | some (.int .u8)=>some (.b2s x)
     | _=>none
   | _,_,_=>none
 | .unOp .xor _ x=>match aM x with
   | some x=>some (.cpl x)
   | none=>none
 | .call ⟨.builtin .clear,args,ts⟩=>match args.toList,ts.toList with
   | [x],[tx]=>match aM x,P.underlying tx with
     | some x,some (.slice e)=>match pT P e,dS P e with
       | some z,some n=>if z.length=n then some (.clr n z x) else none
       | _,_=>none
     | _,_=>none
   | _,_=>none
 | .makeMap _ none=>some .mkm
 | .mapUpdate T m k x=>match aM m,aM k,aM x,P.underlying T with
   | some m,some k,some x,some (.map kt _)=>if zZ P kt=true then some (.mup m k x) else none
   | _,_,_,_=>none
 | .insert T m k x=>match aM m,aM k,aM x,P.underlying T with
   | some m,some k,some x,some (.map kt _)=>if zZ P kt=true then some (.mup m k x) else none
   | _,_,_,_=>none
 | .lookup T m k ok=>match aM m,aM k,P.underlying T with
   | some m,some k,some (.map kt et)=>match P.info? et with
     | some i=>match i.zero with
       | some z=>if zZ P kt=true then some (.mlk z ok m k) else none
       | none=>none
     | none=>none
   | _,_,_=>none
 | _=>none
def AG (P:Program):Op→Option M
 | .call ⟨.value (.func f),args,_⟩=>match P.funcs[f]? with
   | some fn=>if fn.body.isNone=true∧fn.origin = "" then
     (if fn.name = "sync/atomic.LoadInt64" then (match args.toList with
      | [x]=>match aM x with
        | some x=>some (.atl x)
        | none=>none
      | _=>none)
     else if fn.name = "sync/atomic.AddInt64" then (match args.toList with
      | [x,y]=>match aM x,aM y with
        | some x,some y=>some (.ata x y)
        | _,_=>none
      | _=>none)
     else none) else none
   | none=>none
 | _=>none
def mW (P:Program) (op:Op):Option I:=match AG P op with
 | some m=>some (.more m)
 | none=>match cN P op with
   | some i=>some i
   | none=>match iG P op with
     | some m=>some (.more m)
     | none=>some (.more .stk)
theorem xG {P:Program} {op:Op} {i:I} (h:mW P op=some i):cN P op=some i∨∃ m,i=.more m∧(iG P op=some m∨AG P op=some m∨m=.stk):=by
 unfold mW at h
 split at h
 ·rename_i m hm; cases h; exact .inr ⟨m,rfl,.inr (.inl hm)⟩
 ·split at h
  ·rename_i j hj; cases h; exact .inl hj
  ·split at h
   ·rename_i m hm; cases h; exact .inr ⟨m,rfl,.inl hm⟩
   ·cases h; exact .inr ⟨_,rfl,.inr (.inr rfl)⟩
theorem tD {P:Program} {op:Op} {f:bU} {as:List bU} (h:mW P op=some (.call f as)):cN P op=some (.call f as):=by
 rcases xG h with h | ⟨m,h,_⟩
 ·exact h
 ·cases h
theorem QF {fn:Func} (h:fn.name = "sync/atomic.AddInt64"):Extern.find fn=some (Extern.Atomic.update (Op.intArith .add) .i64 true):=by
 unfold Extern.find
 rw [h]
 kernel_rfl
theorem MF {fn:Func} (h:fn.name = "sync/atomic.LoadInt64"):Extern.find fn=some (Extern.Atomic.loadT (.int .i64)):=by
 unfold Extern.find
 rw [h]
 kernel_rfl
theorem OZ {fn:Func} (h:fn.name = "sync/atomic.AddInt64") (h2:fn.origin = ""):Extern.findNext fn=none:=by
 unfold Extern.findNext
 rw [h2,h]
 kernel_rfl
theorem LO {fn:Func} (h:fn.name = "sync/atomic.LoadInt64") (h2:fn.origin = ""):Extern.findNext fn=none:=by
 unfold Extern.findNext
 rw [h2,h]
 kernel_rfl
section
variable {P:Program} {G:Nat→Option (List DV)} {J:Nat→Prop} {w w':World} {ι:Nat→Nat→Option Nat} {obj:Nat→cF} {a:Act} {get:Nat→LV} {base:Nat}
theorem RO {T e:TypeId} {n:Nat} (hu:P.underlying T=some (.array n e)) (hs:dS P e=some 1) {b col l h:Nat} {lo hi:Option Value} (h1:BV lo 0 l) (h2:BV hi n h) (k1:l≤h) (k2:h≤n) (w:World) :
  (Instr.sliceAt T (.pointer (some ⟨b,col,none⟩)) lo hi none).run P w=.ok (.slice (some ⟨b,if n=l then col else col+l,none⟩) (h-l) (n-l)) w:=by
 obtain ⟨i,hi',hn⟩:=cr hs
 obtain ⟨m',p1,p2,hrun⟩:=kz (P:=P) (b:=false) (mx:=none) (cap:=n) h1 h2 (.inl ⟨rfl,rfl⟩) k1 k2 (Nat.le_refl _) (Nat.le_refl _) (.inl rfl) w
 have hm:m'=n:=by omega
 subst hm
 have hsz:(Go.sizeOf e).run P w=.ok 1 w:=by simp [Go.sizeOf,typeInfo,hi',hn]
 simp only [Instr.sliceAt,Sem.run_bind,run_underlying hu w,Result.andThen_ok,Instr.sureAddr,Sem.run_pure,hrun,hsz]
 split <;> simp [Addr.add_mid]
theorem VA {m:M} {e:fu} (h:fO G get obj base m=some e):∀ p∈e.wr,∃ ob,obj p.1=.live ob:=by
 intro p hp
 cases m <;> simp only [fO] at h <;> (repeat' split at h) <;> (try (cases h; done)) <;> cases h <;> first
  | (cases hp; done)
  | (simp only [List.mem_singleton] at hp; subst hp; exact ⟨_,by assumption⟩)
theorem Lp (S:aI G J w ι obj) (he:∀ t,dm J w ι (get t) (a.tmps.getD t Go.undef)) {X:Operand} {x:bU} (hx:aM X=some x) {lo hi:Option Operand} {lo' hi':Option bU} (hl:fJ lo=some lo') (hh:fJ hi=some hi')
  {T el:TypeId} {n:Nat} (hu:P.underlying T=some (.array n el)) (hs:dS P el=some 1) {e:fu} (hE:fO G get obj base (.sla n x lo' hi')=some e) :
  ∃ v,(Instr.sliceAt T (a.eval X) (lo.map a.eval) (hi.map a.eval) none).run P w=.ok v w∧dm J w ι e.r v∧e.nw=[]∧e.wr=[]:=by
 have cv:=bf S he hx
 simp only [fO] at hE
 split at hE
 ·rename_i o col ej
  rw [ej] at cv
  obtain ⟨b,hb,hv⟩:=cv
  split at hE
  ·rename_i et cells ho
   split at hE
   ·rename_i l h b1 b2
    split at hE
    ·rename_i hc
     obtain ⟨k1,k2,k3⟩:=hc
     cases hE
     have hrun:=RO (P:=P) hu hs (b:=b) (col:=col) (kM S he hl b1) (kM S he hh b2) k1 k2 w
     refine ⟨_,by rw [hv]; exact hrun,?_,rfl,rfl⟩
     have h0:=S.rep o
     rw [ho] at h0
     obtain ⟨⟨b',C,m1,m2,m3⟩,_⟩:=h0
     rw [hb] at m1; cases m1
     by_cases hz:n=l
     ·left
      rw [show n-l=0 by omega,show h-l=0 by omega]
      exact ⟨rfl,_,rfl⟩
     ·right
      refine ⟨b,n-l,et,C.size,hb,by rw [if_neg hz,Nat.mul_one],by omega,by simp [World.shape?,m2],?_⟩
      have:=m3.length
      simp at this; omega
    ·cases hE
   ·cases hE
  ·cases hE
 ·cases hE
theorem wR {α:Type} {rows news:List (List α)} {aS lo:Nat} (h1:∀ r∈rows,r.length=aS) (h2:∀ r∈news,r.length=aS):(splice rows lo news).flatten=splice rows.flatten (lo*aS) news.flatten:=by
 have key:∀ (l:List (List α)) (n:Nat),(∀ r∈l,r.length=aS)→(l.take n).flatten=l.flatten.take (n*aS)∧(l.drop n).flatten=l.flatten.drop (n*aS):=by
  intro l
  induction l with
  | nil=>intro n _; simp
  | cons r l ih=>
    intro n hl
    have hr:=hl r (by simp)
    cases n with
    | zero=>simp
    | succ n=>
      obtain ⟨i1,i2⟩:=ih n (fun x hx=>hl x (by simp [hx]))
      rw [List.take_succ_cons,List.drop_succ_cons,List.flatten_cons,List.flatten_cons,i1,i2,Nat.add_mul,Nat.one_mul,List.take_append,List.drop_append]
      rw [show n*aS+aS-r.length=n*aS by omega,List.take_of_length_le (l:=r) (by omega),List.drop_eq_nil_of_le (as:=r) (by omega)]
      simp
 have hlen:news.flatten.length=news.length*aS:=by
  clear key
  induction news with
  | nil=>simp
  | cons r l ih=>
    have hr:=h2 r (by simp)
    rw [List.flatten_cons,List.length_append,ih (fun x hx=>h2 x (by simp [hx])),hr,List.length_cons,Nat.add_mul]; omega
 unfold splice
 rw [List.flatten_append,List.flatten_append,(key rows lo h1).1,(key rows (lo+news.length) h1).2,hlen,Nat.add_mul]
theorem bg.setRows (S:aI G J w ι obj) {o:Nat} {et:TypeId} {aS:Nat} {rows news:List (List DV)} {lo:Nat} {vs:List Value} (ho:obj o=.live (.dat et aS rows))
  (h:bA J w news.flatten vs) (yC:∀ v∈vs,v.oneCell'=true) (hn:∀ r∈news,r.length=aS) (hl:lo+news.length≤rows.length) (hne:rows≠[]) :
  ∃ b,ι o rows.length=some b∧w.there b (lo*aS) vs.length∧
    bg G obj (fun k=>if k=o then .live (.dat et aS (splice rows lo news)) else obj k) J ι w .undef Go.undef (w.setCells b (lo*aS) vs):=by
 have h0:=S.rep o
 rw [ho] at h0
 obtain ⟨⟨hsome,F3⟩,hkey⟩:=h0
 obtain ⟨b,h1⟩:=Option.isSome_iff_exists.1 (hsome.resolve_left hne)
 obtain ⟨⟨C,h2⟩,h3⟩:=F3 b h1
 have hown:Own ι obj b:=⟨o,by rw [ho]; exact h1⟩
 have E:Ev (Own ι obj) J J ι ι w (w.setCells b (lo*aS) vs):=Ev.setCells J w b _ vs hown (fun _ _ _ h=>h)
 obtain ⟨ab2,hfl⟩:=h3.flat
 have hrl:∀ r∈rows,r.length=aS:=fun r hr=>by
  obtain ⟨i,hi⟩:=List.getElem?_of_mem hr
  exact (h3.get hi).1
 obtain ⟨us,u1,u2,u3⟩:=ab2.vals
 have PL:us.length=rows.length*aS:=by rw [← hfl]; exact u1.length.symm
 have hnl:news.flatten.length=news.length*aS:=by
  have:=wR (rows:=([]:List (List DV))) (news:=news) (lo:=0) (by simp) hn
  clear this
  clear h hl
  induction news with
  | nil=>simp
  | cons r l ih=>
    have hr:=hn r (by simp)
    rw [List.flatten_cons,List.length_append,ih (fun x hx=>hn x (by simp [hx])),hr,List.length_cons,Nat.add_mul]; omega
 have hvl:vs.length=news.length*aS:=by rw [← hnl]; exact h.length.symm
 have hroom:lo*aS+vs.length≤us.length:=by
  rw [hvl,PL,← Nat.add_mul]; exact Nat.mul_le_mul_right _ hl
 have tj:w.there b (lo*aS) vs.length:=fun j hj=>by
  have hj2:lo*aS+j<us.length:=by omega
  have:=u3 (lo*aS+j) us[lo*aS+j] (List.getElem?_eq_getElem hj2)
  rw [Nat.zero_add] at this
  refine ⟨by rw [this]; rfl,?_⟩
  simp [World.frozen?,h2]
 have hout:∀ x:Addr,x.block=b→(x.off<lo*aS∨lo*aS+vs.length≤x.off)→(w.setCells b (lo*aS) vs).cell? x=w.cell? x:=fun x hx hj=>
  World.cell?_setCells_out b vs _ w x (fun _ _=>hj)
 have hin:=World.rangeAt_setCells_same w b (lo*aS) vs tj
 have hrows:bF J (w.setCells b (lo*aS) vs) aS (splice rows lo news) b 0:=by
  refine bF.Da (fun r hr=>?_) ?_
  ·simp only [splice,List.mem_append] at hr
   rcases hr with (hr | hr) | hr
   ·exact hrl r (List.mem_of_mem_take hr)
   ·exact hn r hr
   ·exact hrl r (List.mem_of_mem_drop hr)
  ·rw [wR hrl hn]
   have e1:bM J w ι (splice (rows.flatten.map .d) (lo*aS) (news.flatten.map .d)) (splice us (lo*aS) vs):=bM.splice _ (bA.xT u1 u2) (bA.xT h yC)
   have e2:splice (rows.flatten.map LV.d) (lo*aS) (news.flatten.map LV.d)=(splice rows.flatten (lo*aS) news.flatten).map .d:=by simp only [splice,List.map_append,List.map_take,List.map_drop,List.length_map]
   rw [e2] at e1
   have e3:=(e1.ev S E).A_
   have back:∀ {w0:World} (xs:List DV) (ys:List Value),cu J w0 ι (xs.map .d) ys→bA J w0 xs ys:=fun {w0} xs=>by
    induction xs with
    | nil=>intro ys h; cases ys with
      | nil=>trivial
      | cons _ _=>exact h.elim
    | cons x xs ih=>intro ys h; cases ys with
      | nil=>exact h.elim
      | cons y ys=>exact ⟨h.1,ih ys h.2⟩
   refine dI.of (vs:=splice us (lo*aS) vs) (back _ _ e3) (fun v hv=>e1.one v hv) (fun j v hv=>?_)
   rw [Nat.zero_add]
   by_cases hj1:j<lo*aS
   ·rw [hout _ rfl (.inl hj1)]
    have:=u3 j v (by
     rw [← hv]
     simp only [splice,List.append_assoc]
     rw [List.getElem?_append_left (by simp; omega),List.getElem?_take_of_lt hj1])
    rwa [Nat.zero_add] at this
   ·by_cases hj2:j<lo*aS+vs.length
    ·have:=hin (j-lo*aS) v (by
      rw [← hv]
      simp only [splice]
      rw [List.getElem?_append_left (by simp; omega),List.getElem?_append_right (by simp; omega)]
      congr 1; simp; omega)
     rwa [show lo*aS+(j-lo*aS)=j by omega] at this
    ·rw [hout _ rfl (.inr (by show _≤j; omega))]
     have:=u3 j v (by
      rw [← hv]
      simp only [splice]
      rw [List.getElem?_append_right (by simp; omega),List.getElem?_drop]
      congr 1; simp; omega)
     rwa [Nat.zero_add] at this
 obtain ⟨C',k1,k2⟩:∃ C',(w.setCells b (lo*aS) vs).heap[b]? = some (.cells C' et (0,0))∧True:=by
  have hs:lo*aS+vs.length≤C.size∨vs.length=0:=by
   rcases Nat.eq_zero_or_pos vs.length with hz | hz
   ·exact .inr hz
   ·left
    have:=(tj (vs.length-1) (by omega)).1
    simp only [World.cell?,h2] at this
    simp at this
    omega
  rcases hs with hs | hs
  ·obtain ⟨C',k1,_⟩:=iD vs _ w C h2 hs; exact ⟨C',k1,trivial⟩
  ·have:vs=[]:=by simpa using hs
   subst this; exact ⟨C,h2,trivial⟩
 have yA:(splice rows lo news).length=rows.length:=jX _ _ _ (by omega)
 refine ⟨b,h1,tj,?_⟩
 have hT:=aI.tV S o (.live (.dat et aS (splice rows lo news))) E (fun _ _ _=>rfl) (fun k hk hn=>heap_setCells_other (fun e=>hn (by rw [ho,e]; exact h1)) vs _ w)
  ⟨⟨.inr (by rw [yA]; simp [h1]),fun k hk=>by
    rw [yA,h1] at hk; cases hk
    exact ⟨⟨C',k1⟩,hrows⟩⟩,fun n hn=>by rw [yA] at hn; exact hkey n hn⟩
  (fun k hk=>.inl (by
   rw [ho]
   simp only [cF.own,aH.own,yA] at hk ⊢
   exact hk))
 exact ⟨J,ι,hT.1,rfl,hT.2⟩
theorem M0 (S:aI G J w ι obj) (he:∀ t,dm J w ι (get t) (a.tmps.getD t Go.undef)) {X Y:Operand} {x y:bU} (hx:aM X=some x) (hy:aM Y=some y) {tx ty rt el:TypeId} (hu:P.underlying tx=some (.slice el)) (hs:dS P el=some 1)
  (hty:NR P ty=true) {e:fu} (hE:fO G get obj base (.cpy x y)=some e) :
  ∃ v w',(Builtin.copy_ #[tx,ty] rt #[a.eval X,a.eval Y]).run P w=.ok v w'∧bg G obj (bL obj base e) J ι w e.r v w':=by
 have cv:=bf S he hx
 have lE:=bf S he hy
 have hk:(∃ e',P.underlying ty=some (.slice e'))∨P.underlying ty=some .string:=by
  unfold NR at hty
  split at hty
  ·rename_i e' h; exact .inl ⟨_,h⟩
  ·rename_i h; exact .inr h
  ·cases hty
 simp only [fO] at hE
 split at hE
 ·rename_i new rd hsrc
  obtain ⟨news,hS,hD,hrl⟩:=vJ S hk hsrc lE
  split at hE
  ·rename_i o lo len ej
   rw [ej] at cv
   split at hE
   ·rename_i et cells ho
    split at hE
    ·rename_i hc
     obtain ⟨hc,hnl⟩:=hc
     cases hE
     have hnews:=hS.newsLen
     rw [Nat.mul_one] at hnews
     have hfl:(new.flatten.map LV.d).length=new.length:=by rw [List.length_map,hD.length,hnews]
     obtain ⟨b,hb,Nw,hA⟩:=bg.y9 S (col:=lo) (cs:=new.flatten.map LV.d) (vs:=news) ho (hD.xT hS.one) (by rw [hfl]; omega)
     refine ⟨.int .i64 new.length,w.setCells b lo news,?_,?_⟩
     ·obtain ⟨i,hi',hn⟩:=cr hs
      have hsz:∀ w:World,(Go.sizeOf el).run P w=.ok 1 w:=fun w=>by simp [Go.sizeOf,typeInfo,hi',hn]
      have hst:=run_storeCells_cells (P:=P) b lo news 0 w (fun j hj=>by simpa using (Nw j hj).1) (fun j hj=>by simpa using (Nw j hj).2) hS.one
      simp only [Nat.add_zero] at hst
      rcases cv with ⟨hz,sa,hv⟩ | ⟨b',cap,et',C,hb',hv,hcap,_,_⟩
      ·have hn0:news=[]:=List.eq_nil_of_length_eq_zero (by omega)
       have hl0:new.length=0:=by omega
       subst hn0
       have hcl:=hS.cells
       rw [hl0] at hcl
       cases sa with
       | none=>simp [Builtin.copy_,run_underlying hu,hv,hS.len,hl0,hsz,hcl,goInt,World.setCells]
       | some sa=>simp [Builtin.copy_,run_underlying hu,hv,hS.len,hl0,hsz,hcl,goInt,storeCells,World.setCells]
      ·rw [hb] at hb'; cases hb'
       simp [Builtin.copy_,run_underlying hu,hv,hS.len,hsz,hS.cells,goInt,Nat.min_eq_left hnl,hst]
     ·have e1:bL obj base { r:=.int new.length,rd:=o::rd,wr:=[(o,.box et (splice cells lo (new.flatten.map .d)))] } = fun k=>if k=o then .live (.box et (splice cells lo (new.flatten.map .d))) else obj k:=by
       funext k; simp only [bL,qN,cV]
      rw [e1]
      obtain ⟨J',ι',h1,_,h3⟩:=hA
      exact ⟨J',ι',h1,rfl,h3⟩
    ·cases hE
   ·cases hE
  ·rename_i o n lo len _ ej
   rw [ej] at cv
   split at hE
   ·rename_i et rows ho
    split at hE
    ·rename_i hc
     obtain ⟨hn,hc,hnl,hne⟩:=hc
     subst hn
     cases hE
     have hnews:=hS.newsLen
     rw [Nat.mul_one] at hnews
     obtain ⟨b,hb,Nw,hA⟩:=bg.setRows S (lo:=lo) (news:=new) (vs:=news) ho hD hS.one hrl (by omega) hne
     rw [Nat.mul_one] at Nw hA
     refine ⟨.int .i64 new.length,w.setCells b lo news,?_,?_⟩
     ·obtain ⟨i,hi',hn⟩:=cr hs
      have hsz:∀ w:World,(Go.sizeOf el).run P w=.ok 1 w:=fun w=>by simp [Go.sizeOf,typeInfo,hi',hn]
      have hst:=run_storeCells_cells (P:=P) b lo news 0 w (fun j hj=>by simpa using (Nw j hj).1) (fun j hj=>by simpa using (Nw j hj).2) hS.one
      simp only [Nat.add_zero] at hst
      rcases cv with ⟨hz,sa,hv⟩ | ⟨b',cap,et',C,hb',hv,hcap,_,_⟩
      ·have hn0:news=[]:=List.eq_nil_of_length_eq_zero (by omega)
       have hl0:new.length=0:=by omega
       subst hn0
       have hcl:=hS.cells
       rw [hl0] at hcl
       cases sa with
       | none=>simp [Builtin.copy_,run_underlying hu,hv,hS.len,hl0,hsz,hcl,goInt,World.setCells]
       | some sa=>simp [Builtin.copy_,run_underlying hu,hv,hS.len,hl0,hsz,hcl,goInt,storeCells,World.setCells]
      ·rw [hb] at hb'; cases hb'
       rw [Nat.mul_one] at hv
       simp [Builtin.copy_,run_underlying hu,hv,hS.len,hsz,hS.cells,goInt,Nat.min_eq_left hnl,hst]
     ·have e1:bL obj base { r:=.int new.length,rd:=o::rd,wr:=[(o,.dat et 1 (splice rows lo new))] } = fun k=>if k=o then .live (.dat et 1 (splice rows lo new)) else obj k:=by
       funext k; simp only [bL,qN,cV]
      rw [e1]
      obtain ⟨J',ι',h1,_,h3⟩:=hA
      exact ⟨J',ι',h1,rfl,h3⟩
    ·cases hE
   ·cases hE
  ·cases hE
 ·cases hE
theorem RP {T e:TypeId} {size bytes:Nat} (hu:P.underlying T=some (.slice e)) (hel:xD P e=some (size,bytes)) {k:IntKind} {n:Nat} (hn:n*bytes≤70368744177664) (h63:(n:Int)≤9223372036854775807) (w:World) :
  ∃ z:Value,(zeroValue e).run P w=.ok z w∧z.cells.size=size∧(Instr.makeSlice T (.int k n) (.int k n)).run P w=.ok (.slice (some ⟨w.heap.size,0,none⟩) n n) (w.alloc (.cells ((Array.range (n*size)).map ((if n*size=0 then #[] else z.cells)[· % (if n*size=0 then #[] else z.cells).size]!)) e)):=by
 obtain ⟨i,z,hi,hz,hsz,hby,hzc,_,hpos⟩:=mg hel
 have Yt:∀ w:World,(zeroValue e).run P w=.ok z w:=fun w=>by simp [zeroValue,typeInfo,hi,hz]
 refine ⟨z,Yt w,by rw [hzc,hsz],?_⟩
 have Ku:∀ w:World,(Go.sizeOf e).run P w=.ok size w:=fun w=>by simp [Go.sizeOf,typeInfo,hi,hsz]
 have wn:IntKind.i64.wrap (n:Int)=n:=by rw [IntKind.wrap_i64]; omega
 have n1:¬ (n:Int)<0:=by omega
 have hb':(bytes:Int)*(n:Int)≤70368744177664:=by
  have:((n*bytes:Nat):Int)≤70368744177664:=by omega
  rw [Int.mul_comm,← Int.natCast_mul]; exact this
 have n2:¬ (281474976710656<(bytes:Int)*n):=by omega
 have n3:¬ (n:Int)<(n:Int):=by omega
 by_cases h0:n*size=0
 ·simp [Instr.makeSlice,run_underlying hu,typeInfo,hi,hby,asInt,asIntOf,wn,n1,n2,n3,Ku,h0,newRow,askRoom]
 ·simp [Instr.makeSlice,run_underlying hu,typeInfo,hi,hby,asInt,asIntOf,wn,n1,n2,n3,Ku,h0,Yt,newRow,askRoom]
theorem Au {α:Type} (l:List α):∀ (n j:Nat),j<n*l.length→((List.replicate n l).flatten)[j]? = l[j % l.length]?
 | 0,j,h=>by simp at h
 | n+1,j,h=>by
   rw [List.replicate_succ,List.flatten_cons]
   by_cases hj:j<l.length
   ·rw [List.getElem?_append_left hj,Nat.mod_eq_of_lt hj]
   ·have h2:j-l.length<n*l.length:=by rw [Nat.add_mul] at h; omega
    rw [List.getElem?_append_right (by omega),Au l n (j-l.length) h2]
    congr 1
    rw [Nat.mod_eq_sub_mod (by omega:l.length≤j)]
theorem Gi {α:Type} (l:List α) (n:Nat):(List.replicate n l).flatten.length=n*l.length:=by
 induction n with
 | zero=>simp
 | succ n ih=>rw [List.replicate_succ,List.flatten_cons,List.length_append,ih,Nat.add_mul]; omega
theorem s7 (J:Nat→Prop) (w:World):∀ l:List Value,bA J w (l.map .val) l
 | []=>trivial
 | v::l=>⟨rfl,s7 J w l⟩
theorem vP {J:Nat→Prop} {w:World} {z:List DV} {vs:List Value} (h:bA J w z vs):∀ n,bA J w (List.replicate n z).flatten (List.replicate n vs).flatten
 | 0=>trivial
 | n+1=>by rw [List.replicate_succ,List.replicate_succ,List.flatten_cons,List.flatten_cons]; exact bA.append h (vP h n)
theorem LW (S:aI G J w ι obj) (he:∀ t,dm J w ι (get t) (a.tmps.getD t Go.undef)) {X Y:Operand} {x:bU} (hx:aM X=some x) (hXY:Dp X Y=true) {T el:TypeId} {size bytes:Nat} {z:List DV} (hu:P.underlying T=some (.slice el)) (hel:xD P el=some (size,bytes))
  (hz:pT P el=some z) (hzl:z.length=size) (hb:obj base=.free) {e:fu} (hE:fO G get obj base (.xm el size bytes z x)=some e) :
  ∃ v w',(Instr.makeSlice T (a.eval X) (a.eval Y)).run P w=.ok v w'∧bg G obj (bL obj base e) J ι w e.r v w':=by
 have cv:=bf S he hx
 simp only [fO] at hE
 split at hE
 ·rename_i k n ej
  rw [ej] at cv
  have hX:a.eval X=.int k n:=cv
  split at hE
  ·rename_i hc
   obtain ⟨k1,k2,k3⟩:=hc
   cases hE
   obtain ⟨n,rfl⟩:=Int.eq_ofNat_of_zero_le k1
   rw [Int.toNat_natCast] at k2
   obtain ⟨zv,h1,h2,h3⟩:=RP (P:=P) hu hel (k:=k) k2 k3 w
   have hzz:z=zv.cells.toList.map .val∧∀ u∈zv.cells.toList,u.oneCell'=true:=by
    unfold pT at hz
    split at hz
    ·rename_i i hi
     split at hz
     ·rename_i v hv
      split at hz
      ·rename_i hall
       cases hz
       have Yt:(zeroValue el).run P w=.ok v w:=by simp [zeroValue,typeInfo,hi,hv]
       rw [Yt] at h1
       cases h1
       exact ⟨rfl,fun u hu=>by
        rw [Array.all_eq_true_iff_forall_mem] at hall
        exact hall u (by simpa using hu)⟩
      ·cases hz
     ·cases hz
    ·cases hz
   refine ⟨_,_,by rw [hX,← EW hXY a,hX]; exact h3,?_⟩
   have hcl:zv.cells.toList.length=size:=by rw [Array.length_toList,h2]
   generalize hC:((Array.range (n*size)).map ((if n*size=0 then #[] else zv.cells)[· % (if n*size=0 then #[] else zv.cells).size]!))=C
   have hCs:C.size=n*size:=by rw [← hC]; simp
   have:=bg.dat (G:=G) (J:=J) (w:=w) (ι:=ι) S hb el size (List.replicate n z) C w.drawn n (by simp) (by rw [hCs]; exact Nat.le_refl _) (fun ι' E=>by
    refine bF.uy (vs:=(List.replicate n zv.cells.toList).flatten) (vP (by rw [hzz.1]; exact s7 _ _ _) n) (fun u hu=>?_) (fun r hr=>by rw [List.eq_of_mem_replicate hr]; exact hzl) (ee { w with drawn:=w.drawn } _) (fun j u hu=>?_)
    ·obtain ⟨l,hl,hm⟩:=List.mem_flatten.1 hu
     rw [List.eq_of_mem_replicate hl] at hm
     exact hzz.2 u hm
    ·have hj:j<n*size:=by
      have:=(List.getElem?_eq_some_iff.1 hu).1
      rw [Gi,hcl] at this; exact this
     rw [Au _ _ _ (by rw [hcl]; exact hj),hcl] at hu
     have hpos:0<size:=Nat.pos_of_ne_zero (fun h0=>by rw [h0] at hj; simp at hj)
     have hm:j % size<zv.cells.size:=by rw [h2]; exact Nat.mod_lt _ hpos
     rw [← hC]
     simp [show ¬ (n*size=0) by omega,h2,hj]
     rw [Array.getElem?_toList] at hu
     rw [getElem!_pos zv.cells (j % size) hm]
     rw [Array.getElem?_eq_getElem hm] at hu
     exact (Option.some.inj hu))
   simp only [List.length_replicate] at this
   exact this
  ·cases hE
 ·cases hE
theorem Ll (S:aI G J w ι obj) {aS:Nat} {y:LV} {v:Value} {new:List (List DV)} {rd:List Nat} (h:bn obj aS y=some (new,rd)) (hy:dm J w ι y v) (hs:∀ s,y≠.d (.val (.string s))) :
  ∃ sa cap,v=.slice sa new.length cap∧(sa=none→new=[]):=by
 cases y with
 | d x=>
   cases x with
   | dH e rows=>
     simp only [bn] at h
     split at h
     ·cases h
      obtain ⟨a,n,cap,rfl,hn,hc,hr⟩:=hy
      subst hn
      refine ⟨a,cap,rfl,fun ha=>?_⟩
      rcases hr with hr | ⟨b,off,hb,_⟩
      ·exact hr
      ·rw [ha] at hb; cases hb
     ·cases h
   | val u=>
     have hvu:v=u:=hy
     subst hvu
     cases v with
     | slice sa n c=>
       cases sa with
       | some _=>simp [bn] at h
       | none=>
         cases n with
         | succ _=>simp [bn] at h
         | zero=>
           cases c with
           | succ _=>simp [bn] at h
           | zero=>simp [bn] at h; exact ⟨none,0,by rw [h.1]; rfl,fun _=>h.1⟩
     | string s=>exact absurd rfl (hs s)
     | _=>simp [bn] at h
   | fn f a b=>simp [bn] at h
   | fW t y=>simp [bn] at h
   | agg cs=>simp [bn] at h
 | sl o n e lo len=>
   have hlen:new.length=len:=by
    simp only [bn] at h
    split at h
    ·split at h
     ·rename_i hc; cases h; simp; omega
     ·cases h
    ·split at h
     ·rename_i hc; cases h; simp; omega
     ·cases h
    ·split at h
     ·rename_i hc
      split at h
      ·rename_i ds hds; cases h; rw [List.length_map,yR hds]; simp; omega
      ·cases h
     ·cases h
    ·cases h
   rcases hy with ⟨hz,a,rfl⟩ | ⟨b,cap,et',C,hb,rfl,hcap,_,_⟩
   ·exact ⟨a,0,by rw [hlen,hz],fun _=>List.eq_nil_of_length_eq_zero (by omega)⟩
   ·exact ⟨_,cap,by rw [hlen],fun h=>by cases h⟩
 | top=>simp [bn] at h
 | dQ=>simp [bn] at h
 | ptr o c=>simp [bn] at h
 | rp o n e r c=>simp [bn] at h
 | ip r c=>simp [bn] at h
 | fn f a b=>simp [bn] at h
 | agg cs=>simp [bn] at h
 | dJ cs=>simp [bn] at h
 | fW t y=>simp [bn] at h
 | yl o=>simp [bn] at h
 | mr o=>simp [bn] at h
theorem vg:∀ {rows:List (List DV)} {bs:List UInt8} {vs:List Value},bytesOf rows=some bs→bA J w rows.flatten vs→∃ ns:List Int,vs=ns.map (Value.int .u8)∧bs=ns.map fun n=>UInt8.ofNat n.toNat
 | [],bs,vs,h,hv=>by
   simp only [bytesOf] at h; cases h
   cases vs with
   | nil=>exact ⟨[],rfl,rfl⟩
   | cons _ _=>exact hv.elim
 | r::rows,bs,vs,h,hv=>by
   unfold bytesOf at h
   split at h
   ·cases ‹_::_=[]›
   ·rename_i n r' heq
    cases heq
    split at h
    ·rename_i bs' Rx
     cases h
     simp only [List.flatten_cons,List.cons_append,List.nil_append] at hv
     cases vs with
     | nil=>exact hv.elim
     | cons v vs=>
       obtain ⟨h1,h2⟩:=hv
       obtain ⟨ns,e1,e2⟩:=vg Rx h2
       have h1:v=.int .u8 n:=h1
       exact ⟨n::ns,by rw [h1,e1]; rfl,by rw [e2]; rfl⟩
    ·cases h
   ·cases h
theorem foldl_push:∀ (ns:List Int) (s:ByteArray),ns.foldl (fun r n=>r.push (UInt8.ofNat n.toNat)) s=⟨(s.data.toList++ns.map fun n=>UInt8.ofNat n.toNat).toArray⟩
 | [],s=>by cases s; simp
 | n::ns,s=>by
   rw [List.foldl_cons,foldl_push ns]
   cases s
   simp [ByteArray.push]
theorem Na (S:aI G J w ι obj) (he:∀ t,dm J w ι (get t) (a.tmps.getD t Go.undef)) {X:Operand} {x:bU} (hx:aM X=some x) {T T2 el:TypeId} (hu:P.underlying T=some (.slice el)) (hel:P.underlying el=some (.int .u8)) (hs:P.underlying T2=some .string)
  {e:fu} (hE:fO G get obj base (.b2s x)=some e) :
  ∃ v,(convert T T2 (a.eval X)).run P w=.ok v w∧dm J w ι e.r v∧e.nw=[]∧e.wr=[]:=by
 have cv:=bf S he hx
 simp only [fO] at hE
 split at hE
 ·cases hE
 ·rename_i hns
  split at hE
  ·rename_i rows rd hsrc
   split at hE
   ·rename_i bs Rx
    cases hE
    obtain ⟨news,hS,hD,_⟩:=vJ S (.inl ⟨_,hu⟩) hsrc cv
    obtain ⟨sa,cap,hv,nD⟩:=Ll S hsrc cv (fun s h=>hns s h)
    obtain ⟨ns,e1,e2⟩:=vg Rx hD
    refine ⟨.string ⟨bs.toArray⟩,?_,rfl,rfl,rfl⟩
    rw [hv,run_convert_bytes_string w T T2 el sa _ cap hu hel hs]
    cases sa with
    | none=>
      have h0:=nD rfl
      subst h0
      simp only [bytesOf] at Rx
      cases Rx
      simp [Conv.bytesToString]
      rfl
    | some sa=>
      have hc:=hS.cells
      rw [hv,e1] at hc
      have Ru:(loadCells sa rows.length).run P w=.ok (ns.map (Value.int .u8)).toArray w:=by
       simpa [Builtin.firstCells] using hc
      rw [run_bytesToString w sa _ cap ns Ru,foldl_push,e2]
      rfl
   ·cases hE
  ·cases hE
theorem KZ (z:Array Value) (n:Nat):(Builtin.zeroCells z n).toList=(List.replicate n z.toList).flatten:=by
 apply List.ext_getElem?
 intro j
 by_cases hj:j<n*z.size
 ·rw [Au _ _ _ (by simpa using hj),Array.length_toList]
  have hpos:0<z.size:=Nat.pos_of_ne_zero (fun h0=>by rw [h0] at hj; simp at hj)
  have hm:j % z.size<z.size:=Nat.mod_lt _ hpos
  unfold Builtin.zeroCells
  simp only [Array.toList_map,Array.toList_range,List.getElem?_map,List.getElem?_range hj,Option.map_some]
  rw [getElem!_pos z (j % z.size) hm,Array.getElem?_toList,Array.getElem?_eq_getElem hm]
 ·rw [List.getElem?_eq_none (by rw [Array.length_toList,size_zeroCells]; omega),List.getElem?_eq_none (by rw [Gi,Array.length_toList]; omega)]
theorem G3 {el:TypeId} {z:List DV} (hz:pT P el=some z):∃ zv:Value,z=zv.cells.toList.map .val∧(∀ u∈zv.cells.toList,u.oneCell'=true)∧∀ w:World,(zeroValue el).run P w=.ok zv w:=by
 unfold pT at hz
 split at hz
 ·rename_i i hi
  split at hz
  ·rename_i v hv
   split at hz
   ·rename_i hall
    cases hz
    exact ⟨v,rfl,fun u hu=>by
     rw [Array.all_eq_true_iff_forall_mem] at hall
     exact hall u (by simpa using hu),fun w=>by simp [zeroValue,typeInfo,hi,hv]⟩
   ·cases hz
  ·cases hz
 ·cases hz
theorem M5 (S:aI G J w ι obj) (he:∀ t,dm J w ι (get t) (a.tmps.getD t Go.undef)) {X:Operand} {x:bU} (hx:aM X=some x) {tx rt el:TypeId} {n:Nat} {z:List DV} (hu:P.underlying tx=some (.slice el)) (hz:pT P el=some z) (hzl:z.length=n)
  {e:fu} (hE:fO G get obj base (.clr n z x)=some e) :
  ∃ v w',(Builtin.clear_ #[tx] rt #[a.eval X]).run P w=.ok v w'∧bg G obj (bL obj base e) J ι w e.r v w':=by
 have cv:=bf S he hx
 simp only [fO] at hE
 split at hE
 ·rename_i o m e0 lo len ej
  rw [ej] at cv
  split at hE
  ·rename_i et e' rows ho
   split at hE
   ·rename_i hc
    obtain ⟨rfl,rfl,rfl,hl,hpos⟩:=hc
    cases hE
    obtain ⟨zv,hzz,hone,hzr⟩:=G3 hz
    have hcl:zv.cells.toList.length=e':=by rw [← hzl,hzz,List.length_map]
    have hne:rows≠[]:=by intro h0; rw [h0] at hl; simp at hl; omega
    obtain ⟨b,hb,Nw,hA⟩:=bg.setRows S (lo:=lo) (news:=List.replicate len z) (vs:=(List.replicate len zv.cells.toList).flatten) ho (vP (by rw [hzz]; exact s7 _ _ _) len)
     (fun u hu=>by
      obtain ⟨l,hl,hm⟩:=List.mem_flatten.1 hu
      rw [List.eq_of_mem_replicate hl] at hm
      exact hone u hm) (fun r hr=>by rw [List.eq_of_mem_replicate hr]; exact hzl) (by rw [List.length_replicate]; exact hl) hne
    refine ⟨.tuple #[],w.setCells b (lo*e') (List.replicate len zv.cells.toList).flatten,?_,?_⟩
    ·have hst:=run_storeCells_cells (P:=P) b (lo*e') (List.replicate len zv.cells.toList).flatten 0 w (fun j hj=>by simpa using (Nw j hj).1) (fun j hj=>by simpa using (Nw j hj).2) (fun u hu=>by
      obtain ⟨l,hl,hm⟩:=List.mem_flatten.1 hu
      rw [List.eq_of_mem_replicate hl] at hm
      exact hone u hm)
     simp only [Nat.add_zero] at hst
     rcases cv with ⟨hz0,_⟩ | ⟨b',cap,et',C,hb',hv,hcap,_,_⟩
     ·omega
     ·rw [hb] at hb'; cases hb'
      obtain ⟨k,rfl⟩:∃ k,len=k+1:=⟨len-1,by omega⟩
      simp [Builtin.clear_,run_underlying hu,hv,hzr,KZ,hst]
    ·have e1:bL obj base { r:=.undef,rd:=[o],wr:=[(o,.dat et e' (splice rows lo (List.replicate len z)))] } = fun k=>if k=o then .live (.dat et e' (splice rows lo (List.replicate len z))) else obj k:=by
      funext k; simp only [bL,qN,cV]
     rw [e1]
     exact hA
   ·cases hE
  ·cases hE
 ·rename_i e0 ej
  cases hE
  rw [ej] at cv
  obtain ⟨ad,n,cap,hv,hn,_⟩:=cv
  have hn0:n=0:=hn
  subst hn0
  have e1:bL obj base { r:=.undef } = obj:=by funext k; simp [bL,qN,cV]
  rw [e1]
  refine ⟨.tuple #[],w,?_,bg.stay S rfl⟩
  rw [hv]
  cases ad <;> simp [Builtin.clear_,run_underlying hu]
 ·cases hE
theorem Nb (S:aI G J w ι obj) (he:∀ t,dm J w ι (get t) (a.tmps.getD t Go.undef)) {X:Operand} {x:bU} (hx:aM X=some x) {e:fu} (hE:fO G get obj base (.atl x)=some e) :
  ∃ ad n,a.eval X=.pointer (some ad)∧w.cell? ad=some (.int .i64 n)∧e.r=.int n∧e.nw=[]∧e.wr=[]:=by
 have cv:=bf S he hx
 simp only [fO] at hE
 split at hE
 ·rename_i o c ej
  rw [ej] at cv
  obtain ⟨b,hb,hv⟩:=cv
  split at hE
  ·rename_i et cells ho
   split at hE
   ·rename_i n hc
    cases hE
    have h0:=S.rep o
    rw [ho] at h0
    obtain ⟨⟨b',C,m1,m2,m3⟩,_⟩:=h0
    rw [hb] at m1; cases m1
    obtain ⟨v,Il,_,hr⟩:=m3.get hc
    have hr:v=.int .i64 n:=hr
    subst hr
    refine ⟨_,n,hv,?_,rfl,rfl,rfl⟩
    simp only [World.cell?,m2]
    simpa using Il
   ·cases hE
  ·cases hE
 ·cases hE
theorem Nc (S:aI G J w ι obj) (he:∀ t,dm J w ι (get t) (a.tmps.getD t Go.undef)) {X Y:Operand} {x y:bU} (hx:aM X=some x) (hy:aM Y=some y) {e:fu} (hE:fO G get obj base (.ata x y)=some e) :
  ∃ ad n d,a.eval X=.pointer (some ad)∧a.eval Y=.int .i64 d∧w.cell? ad=some (.int .i64 n)∧w.frozen? ad=false∧bg G obj (bL obj base e) J ι w e.r (.int .i64 (IntKind.i64.wrap (n+d))) (w.setCell ad (.int .i64 (IntKind.i64.wrap (n+d)))):=by
 have cv:=bf S he hx
 have lE:=bf S he hy
 simp only [fO] at hE
 split at hE
 ·rename_i o c d ej Qg
  rw [ej] at cv
  rw [Qg] at lE
  obtain ⟨b,hb,hv⟩:=cv
  have hY:a.eval Y=.int .i64 d:=lE
  split at hE
  ·rename_i et cells ho
   split at hE
   ·rename_i n hc
    cases hE
    have adU:c<cells.length:=(List.getElem?_eq_some_iff.1 hc).1
    have h0:=S.rep o
    rw [ho] at h0
    obtain ⟨⟨b',C,m1,m2,m3⟩,_⟩:=h0
    rw [hb] at m1; cases m1
    obtain ⟨v,Il,_,hr⟩:=m3.get hc
    have hr:v=.int .i64 n:=hr
    subst hr
    obtain ⟨b2,hb2,Nw,hA⟩:=bg.y9 S (col:=c) (cs:=[.int (IntKind.i64.wrap (n+d))]) (vs:=[.int .i64 (IntKind.i64.wrap (n+d))]) ho ⟨rfl,rfl,trivial⟩ (by simp; omega)
    rw [hb] at hb2; cases hb2
    refine ⟨⟨b,c,none⟩,n,d,hv,hY,?_,by simp [World.frozen?,m2],?_⟩
    ·simp only [World.cell?,m2]
     simpa using Il
    ·have e1:bL obj base { r:=.int (IntKind.i64.wrap (n+d)),rd:=[o],wr:=[(o,.box et (splice cells c [.int (IntKind.i64.wrap (n+d))]))] } = fun k=>if k=o then .live (.box et (splice cells c [.int (IntKind.i64.wrap (n+d))])) else obj k:=by
      funext k; simp only [bL,qN,cV]
     rw [e1]
     have e2:w.setCell ⟨b,c,none⟩ (.int .i64 (IntKind.i64.wrap (n+d)))=w.setCells b c [.int .i64 (IntKind.i64.wrap (n+d))]:=by simp only [World.setCells]
     rw [e2]
     obtain ⟨J',ι',h1,_,h3⟩:=hA
     exact ⟨J',ι',h1,rfl,h3⟩
   ·cases hE
  ·cases hE
 ·cases hE
theorem IZ (S:aI G J w ι obj) (he:∀ t,dm J w ι (get t) (a.tmps.getD t Go.undef)) {m:M} {e:fu} (hE:fO G get obj base m=some e) {o:Oper} (hc:AG P o.op=some m) :
  cM P o a w (bg G obj (bL obj base e) J ι w e.r):=by
 obtain ⟨dst,op,type,pos,after,guard⟩:=o
 dsimp only at hc
 unfold AG at hc
 split at hc
 ·rename_i f args ts
  split at hc
  ·rename_i fn hf
   split at hc
   ·rename_i hfn
    obtain ⟨hb,abN⟩:=hfn
    have ex:∀ vs:Array Value,args.map a.eval=vs→execOp a.eval { dst:=dst,op:=Op.call { callee:=Callee.value (.func f),args:=args,argTypes:=ts },type:=type,pos:=pos,after:=after,guard:=guard } = callFunc f vs:=by
     intro vs hvs
     have ef:a.eval (.func f)=.func (.func f) #[] #[]:=rfl
     unfold execOp
     simp [resolve,Deferred.ofValue,invoke,ef,hvs]
    split at hc
    ·rename_i hn
     split at hc
     ·rename_i x hargs
      have ha:args=#[x]:=by apply Array.ext'; simpa using hargs
      subst ha
      split at hc
      ·rename_i x' h1
       cases hc
       obtain ⟨ad,n,hX,hcell,hr,h6,h7⟩:=Nb S he h1 hE
       refine cM.of_run (v:=.int .i64 n) (w':=w) ?_ ?_
       ·rw [ex #[a.eval x] (by simp),hX]
        exact run_call_load hf (by rw [hn]; rfl) hb (LO hn abN) .i64 (MF hn) hcell
       ·simp only [bL,h6,h7,qN,cV]
        exact bg.stay S (by rw [hr]; rfl)
      ·cases hc
     ·cases hc
    ·split at hc
     ·rename_i hn
      split at hc
      ·rename_i x y hargs
       have ha:args=#[x,y]:=by apply Array.ext'; simpa using hargs
       subst ha
       split at hc
       ·rename_i x' y' h1 h2
        cases hc
        obtain ⟨ad,n,d,hX,hY,hcell,hz,hA⟩:=Nc S he h1 h2 hE
        refine cM.of_run ?_ hA
        rw [ex #[a.eval x,a.eval y] (by simp),hX,hY]
        exact run_call_add hf (by rw [hn]; rfl) hb (OZ hn abN) .i64 (QF hn) hcell hz rfl
       ·cases hc
      ·cases hc
     ·cases hc
   ·cases hc
  ·cases hc
 ·cases hc
theorem vO:∀ (es:List (Int×LV)) (E:List MapEntry) (n:Int) (i:Nat),iV J w ι es E→
  (getM es n=none∧Instr.findNow (.int .i64) (.int .i64 n) E i=some none∧∀ y v c,dm J w ι y v→iV J w ι (Be es n y) (E++[⟨.int .i64 n,v,c⟩]))∨
  ∃ y j e,getM es n=some y∧Instr.findNow (.int .i64) (.int .i64 n) E i=some (some (i+j,e.val))∧E[j]? = some e∧e.key=.int .i64 n∧dm J w ι y e.val∧∀ y v,dm J w ι y v→iV J w ι (Be es n y) (E.set j ⟨.int .i64 n,v,e.born⟩)
 | [],[],n,i,_=>.inl ⟨rfl,rfl,fun y v c h=>⟨rfl,h,trivial⟩⟩
 | (k,x)::r,e::E,n,i,h=>by
   obtain ⟨h1,h2,h3⟩:=h
   by_cases hk:n=k
   ·subst hk
    refine .inr ⟨x,0,e,by simp [getM],by simp [Instr.findNow,Instr.sameNow,h1],rfl,h1,h2,fun y v hy=>?_⟩
    simp only [Be,if_true,List.set_cons_zero]
    exact ⟨rfl,hy,h3⟩
   ·have hf:Instr.findNow (.int .i64) (.int .i64 n) (e::E) i=Instr.findNow (.int .i64) (.int .i64 n) E (i+1):=by
     simp [Instr.findNow,Instr.sameNow,h1,show (n==k)=false from beq_eq_false_iff_ne.2 hk]
    rcases vO r E n (i+1) h3 with ⟨q1,q2,q3⟩ | ⟨y,j,e',q1,q2,q3,q4,q5,q6⟩
    ·refine .inl ⟨by simp [getM,hk,q1],by rw [hf,q2],fun y v c hy=>?_⟩
     simp only [Be,if_neg hk]
     exact ⟨h1,h2,q3 y v c hy⟩
    ·refine .inr ⟨y,j+1,e',by simp [getM,hk,q1],by rw [hf,q2]; simp; omega,by simpa using q3,q4,q5,fun y v hy=>?_⟩
     simp only [Be,if_neg hk,List.set_cons_succ]
     exact ⟨h1,h2,q6 y v hy⟩
 | [],_::_,_,_,h=>h.elim
 | _::_,[],_,_,h=>h.elim
theorem bg.mkm (S:aI G J w ι obj) (hb:obj base=.free):bg G obj (fun o=>if o=base then .live (.mp []) else obj o) J ι w (.mr base) (.map (some w.heap.size)) (w.alloc (.map #[] 0)):=by
 have hfree:∀ n,ι base n=none:=by have:=S.rep base; rw [hb] at this; exact this
 let ι':Nat→Nat→Option Nat:=fun o n=>if o=base then (if n=0 then some w.heap.size else none) else ι o n
 have hi:∀ o n b,ι o n=some b→ι' o n=some b:=fun o n b eX=>by
  by_cases ho:o=base
  ·subst ho; rw [hfree] at eX; cases eX
  ·simp only [ι',if_neg ho]; exact eX
 have E:Ev (Own ι obj) J J ι ι' w (w.alloc (.map #[] 0)):=Ev.alloc _ _ w w.drawn _ hi
 have hT:=aI.tV S base (.live (.mp [])) E (fun o ho n=>by simp only [ι',if_neg ho]) (fun b hlt _=>fH w _ b hlt)
  ⟨⟨w.heap.size,#[],0,by simp [ι'],ee w _,trivial⟩,trivial⟩ (fun b eX=>by
    have:ι' base 0=some b:=eX
    simp [ι'] at this; exact .inr (by omega))
 exact ⟨J,ι',hT.1,⟨w.heap.size,by simp [ι'],rfl⟩,hT.2⟩
theorem bg.NX (S:aI G J w ι obj) {o b:Nat} {es es':List (Int×LV)} {E E':Array MapEntry} {c c':Nat} (ho:obj o=.live (.mp es)) (h1:ι o 0=some b) (h2:w.heap[b]? = some (.map E c)) (h3:iV J w ι es' E'.toList) :
  bg G obj (fun k=>if k=o then .live (.mp es') else obj k) J ι w .undef Go.undef { w with heap:=w.heap.setIfInBounds b (.map E' c') }:=by
 have hown:Own ι obj b:=⟨o,by rw [ho]; exact h1⟩
 obtain ⟨k1,k2⟩:=MapKept.heap_set (o':=.map E' c') h2
 have E1:Ev (Own ι obj) J J ι ι w { w with heap:=w.heap.setIfInBounds b (.map E' c') }:=⟨rfl,rfl,rfl,by simp,fun k _ hn=>k2 k (fun e=>hn (by rw [e]; exact hown)),fun k _=>by
  by_cases e:k=b
  ·subst e; simp only [World.shape?,k1,h2]
  ·exact bJ (k2 k e),fun _ h=>h,fun _ h=>.inl h,fun _ _ _ h=>h⟩
 have hT:=aI.tV S o (.live (.mp es')) E1 (fun _ _ _=>rfl) (fun k _ hn=>k2 k (fun e=>hn (by rw [ho,e]; exact h1)))
  ⟨⟨b,E',c',h1,k1,h3.ev S E1⟩,trivial⟩ (fun k hk=>.inl (by rw [ho]; exact hk))
 exact ⟨J,ι,hT.1,rfl,hT.2⟩
theorem Ch (S:aI G J w ι obj) (he:∀ t,dm J w ι (get t) (a.tmps.getD t Go.undef)) {X K Y:Operand} {x k y:bU} (hx:aM X=some x) (hk:aM K=some k) (hy:aM Y=some y) {T kt et:TypeId} (hu:P.underlying T=some (.map kt et)) (hi:zZ P kt=true) {e:fu} (hE:fO G get obj base (.mup x k y)=some e) :
  ∃ w',(Instr.mapUpdate T (a.eval X) (a.eval K) (a.eval Y)).run P w=.ok () w'∧bg G obj (bL obj base e) J ι w e.r Go.undef w':=by
 have cv:=bf S he hx
 have hrk:=bf S he hk
 have lE:=bf S he hy
 have hd:=FR hi
 simp only [fO] at hE
 split at hE
 ·rename_i o n ej Qg
  rw [ej] at cv
  rw [Qg] at hrk
  obtain ⟨b,hb,hX⟩:=cv
  have hK:a.eval K=.int .i64 n:=hrk
  split at hE
  ·rename_i es ho
   cases hE
   have h0:=S.rep o
   rw [ho] at h0
   obtain ⟨⟨b',C,c,m1,m2,m3⟩,_⟩:=h0
   rw [hb] at m1; cases m1
   have e1:bL obj base { r:=.undef,rd:=[o],wr:=[(o,.mp (Be es n (y.ev G get)))] } = fun k=>if k=o then .live (.mp (Be es n (y.ev G get))) else obj k:=by
    funext k; simp only [bL,qN,cV]
   rw [e1,hX,hK]
   have hck:=MapKept.run_checkKey (w:=w) (k:=.int .i64 n) hd (by simp [MapKept.IsKey]) false 9999
   rcases vO es C.toList n 0 m3 with ⟨_,q2,q3⟩ | ⟨_,j,e',_,q2,q3,q4,_,q6⟩
   ·refine ⟨_,?_,bg.NX S ho hb m2 (E':=C.push ⟨.int .i64 n,a.eval Y,c⟩) (c':=c+1) (by simpa using q3 _ (a.eval Y) c lE)⟩
    simp [Instr.mapUpdate,run_underlying hu,Result.andThen,MapKept.run_getObj_map m2,hck,MapKept.run_findKey hd q2,MapKept.run_setObj_map _ m2]
   ·have hj:C[j]? = some e':=by simpa using q3
    obtain ⟨key,val,born⟩:=e'
    dsimp only at q4
    subst q4
    have hmod:(C.modify j fun e=>{ e with key:=.int .i64 n,val:=a.eval Y }).toList=C.toList.set j ⟨.int .i64 n,a.eval Y,born⟩:=by
     apply List.ext_getElem?
     intro i
     simp only [Array.getElem?_toList,Array.getElem?_modify,List.getElem?_set]
     by_cases hij:j=i
     ·subst hij
      have hlt:j<C.size:=(Array.getElem?_eq_some_iff.1 hj).1
      have:=(Array.getElem?_eq_some_iff.1 hj).2
      simp [hlt,this]
     ·simp [hij]
    refine ⟨_,?_,bg.NX S ho hb m2 (E':=C.modify j fun e=>{ e with key:=.int .i64 n,val:=a.eval Y }) (c':=c) (by rw [hmod]; exact q6 _ _ lE)⟩
    simp [Instr.mapUpdate,run_underlying hu,Result.andThen,MapKept.run_getObj_map m2,hck,MapKept.run_findKey hd q2,hj,MapKept.run_keyThatStays (k:=.int .i64 n) (d:=.int .i64) (by simp [MapKept.IsKey]),MapKept.run_setObj_map _ m2]
  ·cases hE
 ·cases hE
theorem LU (S:aI G J w ι obj) (he:∀ t,dm J w ι (get t) (a.tmps.getD t Go.undef)) {X K:Operand} {x k:bU} (hx:aM X=some x) (hk:aM K=some k) {T kt et:TypeId} {ok:Bool} {i:TypeInfo} {z:Value} (hu:P.underlying T=some (.map kt et)) (hi:zZ P kt=true) (hin:P.info? et=some i) (hz:i.zero=some z) {e:fu} (hE:fO G get obj base (.mlk z ok x k)=some e) :
  ∃ v,(Instr.lookup T (a.eval X) (a.eval K) ok).run P w=.ok v w∧dm J w ι e.r v∧e.nw=[]∧e.wr=[]:=by
 have cv:=bf S he hx
 have hrk:=bf S he hk
 have hd:=FR hi
 have hzr:(zeroValue et).run P w=.ok z w:=by simp [zeroValue,typeInfo,hin,hz]
 simp only [fO] at hE
 split at hE
 ·rename_i o n ej Qg
  rw [ej] at cv
  rw [Qg] at hrk
  obtain ⟨b,hb,hX⟩:=cv
  have hK:a.eval K=.int .i64 n:=hrk
  split at hE
  ·rename_i es ho
   have h0:=S.rep o
   rw [ho] at h0
   obtain ⟨⟨b',C,c,m1,m2,m3⟩,_⟩:=h0
   rw [hb] at m1; cases m1
   have hck:=fun e=>MapKept.run_checkKey (w:=w) (k:=.int .i64 n) hd (by simp [MapKept.IsKey]) e 9999
   rw [hX,hK]
   rcases vO es C.toList n 0 m3 with ⟨q1,q2,q3⟩ | ⟨y,j,e',q1,q2,q3,q4,q5,_⟩
   ·rw [q1] at hE; cases hE
    refine ⟨if ok=true then .tuple #[z,.bool false] else z,?_,?_,rfl,rfl⟩
    ·simp [Instr.lookup,run_underlying hu,Result.andThen,MapKept.run_getObj_map m2,hck,MapKept.run_findKey hd q2,hzr]
    ·cases ok
     ·exact rfl
     ·exact ⟨_,rfl,rfl,rfl,trivial⟩
   ·rw [q1] at hE; cases hE
    refine ⟨if ok=true then .tuple #[e'.val,.bool true] else e'.val,?_,?_,rfl,rfl⟩
    ·simp [Instr.lookup,run_underlying hu,Result.andThen,MapKept.run_getObj_map m2,hck,MapKept.run_findKey hd q2]
    ·cases ok
     ·exact q5
     ·exact ⟨_,rfl,q5,rfl,trivial⟩
  ·cases hE
 ·cases hE
theorem IX (S:aI G J w ι obj) (he:∀ t,dm J w ι (get t) (a.tmps.getD t Go.undef)) {m:M} {e:fu} (hE:fO G get obj base m=some e) (hfree:∀ j,j<e.nw.length→obj (base+j)=.free) {o:Oper} (hc:iG P o.op=some m) :
  cM P o a w (bg G obj (bL obj base e) J ι w e.r):=by
 obtain ⟨dst,op,type,pos,after,guard⟩:=o
 dsimp only at hc
 have stay:∀ {e:fu} {v:Value},e.nw=[]→e.wr=[]→dm J w ι e.r v→bg G obj (bL obj base e) J ι w e.r v w:=by
  intro e v h1 h2 h3
  simp only [bL,h1,h2,qN,cV]
  exact bg.stay S h3
 cases op with
 | slice T x lo hi mx=>
   cases mx with
   | some _=>simp [iG] at hc
   | none=>
     simp only [iG] at hc
     split at hc
     ·rename_i x' lo' hi' n el h1 h2 h3 hu
      split at hc
      ·rename_i hs
       cases hc
       obtain ⟨v,hv,hr,h6,h7⟩:=Lp S he h1 h2 h3 hu hs hE
       exact cM.value (s:=Instr.sliceAt T (a.eval x) (lo.map a.eval) (hi.map a.eval) none) rfl hv (stay h6 h7 hr)
      ·cases hc
     ·cases hc
 | makeSlice T l c=>
   simp only [iG] at hc
   split at hc
   ·rename_i n el h1 hu
    split at hc
    ·rename_i z size bytes h2 h3
     split at hc
     ·rename_i nX
      cases hc
      have hb:obj base=.free:=by
       have hlen:0<e.nw.length:=by
        have Ry:=hE
        simp only [fO] at Ry
        split at Ry
        ·split at Ry
         ·cases Ry; simp
         ·cases Ry
        ·cases Ry
       simpa using hfree 0 hlen
      obtain ⟨v,w',hv,hA⟩:=LW S he h1 nX.1 hu h3 h2 nX.2 hb hE
      exact cM.value (s:=Instr.makeSlice T (a.eval l) (a.eval c)) rfl hv hA
     ·cases hc
    ·cases hc
   ·cases hc
 | convert S' T x=>
   simp only [iG] at hc
   split at hc
   ·rename_i y el h1 h2 h3
    split at hc
    ·rename_i h4
     cases hc
     obtain ⟨v,hv,hr,h6,h7⟩:=Na S he h1 h2 h4 h3 hE
     exact cM.value (s:=Go.convert S' T (a.eval x)) rfl hv (stay h6 h7 hr)
    ·cases hc
   ·cases hc
 | call c=>
   obtain ⟨callee,args,ts⟩:=c
   cases callee with
   | value f=>simp [iG] at hc
   | invoke r m=>simp [iG] at hc
   | builtin b=>
     cases b with
     | copy=>
       simp only [iG] at hc
       split at hc
       ·rename_i x y tx ty hargs hT
        have ha:args=#[x,y]:=by apply Array.ext'; simpa using hargs
        have ht:ts=#[tx,ty]:=by apply Array.ext'; simpa using hT
        subst ha ht
        split at hc
        ·rename_i x' y' el h1 h2 h3
         split at hc
         ·rename_i nX
          cases hc
          obtain ⟨v,w',hv,hA⟩:=M0 (rt:=type) S he h1 h2 h3 nX.1 nX.2 hE
          exact cM.value (s:=Builtin.copy_ #[tx,ty] type #[a.eval x,a.eval y]) (by simp [execOp,resolve,invoke,builtin]) hv hA
         ·cases hc
        ·cases hc
       ·cases hc
     | clear=>
       simp only [iG] at hc
       split at hc
       ·rename_i x tx hargs hT
        have ha:args=#[x]:=by apply Array.ext'; simpa using hargs
        have ht:ts=#[tx]:=by apply Array.ext'; simpa using hT
        subst ha ht
        split at hc
        ·rename_i x' el h1 h2
         split at hc
         ·rename_i z n h3 h4
          split at hc
          ·rename_i nX
           cases hc
           obtain ⟨v,w',hv,hA⟩:=M5 (rt:=type) S he h1 h2 h3 nX hE
           exact cM.value (s:=Builtin.clear_ #[tx] type #[a.eval x]) (by simp [execOp,resolve,invoke,builtin]) hv hA
          ·cases hc
         ·cases hc
        ·cases hc
       ·cases hc
     | _=>simp [iG] at hc
 | unOp u T x=>
   cases u with
   | xor=>
     simp only [iG] at hc
     split at hc
     ·rename_i y h1
      cases hc
      have cv:=bf S he h1
      simp only [fO] at hE
      split at hE
      ·rename_i k n ej
       rw [ej] at cv
       have hX:a.eval x=.int k n:=cv
       cases hE
       exact cM.value (s:=Op.unary .xor (a.eval x)) rfl (by rw [hX]; rfl) (stay rfl rfl rfl)
      ·cases hE
     ·cases hc
   | _=>simp [iG] at hc
 | makeMap T r=>
   cases r with
   | some _=>simp [iG] at hc
   | none=>
     simp only [iG,Option.some.injEq] at hc
     subst hc
     simp only [fO,Option.some.injEq] at hE
     subst hE
     have hb:obj base=.free:=by simpa using hfree 0 (by simp)
     refine cM.value (s:=Instr.makeMap T none) rfl rfl ?_
     have e1:bL obj base { r:=.mr base,nw:=[.mp []] } = fun o=>if o=base then .live (.mp []) else obj o:=by funext k; simp [bL,qN,cV]
     rw [e1]
     exact bg.mkm S hb
 | mapUpdate T m k x=>
   simp only [iG] at hc
   split at hc
   ·rename_i h1 h2 h3 h4
    split at hc
    ·rename_i h5
     cases hc
     obtain ⟨w',hv,hA⟩:=Ch S he h1 h2 h3 h4 h5 hE
     refine cM.yq (w':=w') ?_ hA
     simp [execOp,hv,Result.andThen]
    ·cases hc
   ·cases hc
 | insert T m k x=>
   simp only [iG] at hc
   split at hc
   ·rename_i h1 h2 h3 h4
    split at hc
    ·rename_i h5
     cases hc
     obtain ⟨w',hv,hA⟩:=Ch S he h1 h2 h3 h4 h5 hE
     refine cM.yq (w':=w') ?_ hA
     simp [execOp,hv,Result.andThen]
    ·cases hc
   ·cases hc
 | lookup T m k ok=>
   simp only [iG] at hc
   split at hc
   ·rename_i h1 h2 h3
    split at hc
    ·rename_i i h4
     split at hc
     ·rename_i z h5
      split at hc
      ·rename_i h6
       cases hc
       obtain ⟨v,hv,hr,h7,h8⟩:=LU S he h1 h2 h3 h6 h4 h5 hE
       exact cM.value (s:=Instr.lookup T (a.eval m) (a.eval k) ok) rfl hv (stay h7 h8 hr)
      ·cases hc
     ·cases hc
    ·cases hc
   ·cases hc
 | _=>simp [iG] at hc
theorem IY (S:aI G J w ι obj) (he:∀ t,dm J w ι (get t) (a.tmps.getD t Go.undef)) {i:I} {e:fu} (hE:cI G get obj base i=some e) (hfree:∀ j,j<e.nw.length→obj (base+j)=.free) {o:Oper} (hc:mW P o.op=some i) :
  cM P o a w (bg G obj (bL obj base e) J ι w e.r):=by
 rcases xG hc with h | ⟨m,rfl,h⟩
 ·exact MQ S he hE hfree h
 ·have Ry:fO G get obj base m=some e:=by simpa only [cI] using hE
  rcases h with h | h | rfl
  ·exact IX S he Ry hfree h
  ·exact IZ S he Ry h
  ·cases Ry
end
end Dv
namespace Dv
open Go
def fz (ro:Option Nat):Fence:={ fn:=fun _=>True,depth:=none,alive:=false,round:=ro }
theorem nZ {ro:Option Nat} {n:Nat} {P:Program} {f:FuncId} {args:Array Value} {w:World} {R:Ending→World→Prop} : CallsIn (fz ro) n P f args w R↔Calls P f args w R:=by
 have:CallsIn (fz ro) n P f args w R=CallsIn Fence.wide n P f args w R:=rfl
 rw [this]; exact callsIn_wide
theorem Vp {ro:Option Nat} {n:Nat} {P:Program} {row:String} {args:Array Value} {w:World} {R:Value→World→Prop} (h:Rows P row args w R):RowsIn (fz ro) n P row args w R:=by
 intro b cs _
 obtain ⟨v,w',h1,h2⟩:=h b cs
 exact ⟨v,w',h1,stepsIn_wide.2 h2⟩
theorem YL {ro:Option Nat} {n:Nat} {P:Program} {o:Oper} {a:Act} {w:World} {next:Act→World→Prop} {Q:Exit→Act→World→Prop} (hd:∀ c,o.op≠.defer c) (h:o.wp P a w next Q):o.wpIn (fz ro) n P a w next Q:=by
 refine ⟨fun _ _=>trivial,?_⟩
 rw [Oper.semAt_eq _ _ _ hd]
 unfold Oper.wp at h
 generalize (execOp a.eval o).run P w=r at h
 unfold Oper.upon at h
 unfold Oper.uponIn
 split at h
 ·exact h
 ·exact h
 ·exact h
 ·exact ⟨(fun hh=>by cases hh),nZ.2 (Calls.mono h (fun e w' q=>by cases e <;> exact q))⟩
 ·exact ⟨(fun hh=>by cases hh),Vp h⟩
 ·exact h
 ·exact h.elim
structure St where
 env:List (Nat×LV)
 af:List (Option aH)
def aZ:List (Nat×LV)→Nat→LV
 | [],_=>.top
 | (k,v)::r,t=>if k=t then v else aZ r t
def dY (dst:Option Nat) (r:LV) (env:List (Nat×LV)):List (Nat×LV):=match dst with
 | some d=>(d,r)::env
 | none=>env
def St.get (s:St) (t:Nat):LV:=aZ s.env t
def St.obj (s:St) (o:Nat):cF:=aD s.af o
def fQ:List (Nat×aH)→List (Option aH)→List (Option aH)
 | [],l=>l
 | (k,ob)::r,l=>(fQ r l).set k (some ob)
def St.app (s:St) (dst:Option Nat) (e:fu):St:={ env:=dY dst e.r s.env,af:=fQ e.wr s.af++e.nw.map some }
def St.put (s:St) (dst:Option Nat) (r:LV):St:={ s with env:=dY dst r s.env }
def callee:LV→Option (Nat×List LV×List LV)
 | .d (.fn (.func k) fs cs)=>some (k,fs.map .d,cs.map .d)
 | .fn (.func k) fs cs=>some (k,fs,cs)
 | _=>none
def k9 (P:Program) (G:Nat→Option (List DV)) (get:Nat→LV) (obj:Nat→cF) (base:Nat) (i:I) (e:fu):Prop:=
 match i with
 | .call f args=>match callee (f.ev G get) with
   | some (k,fs,cs)=>cw P G k (fs++args.map (·.ev G get)++cs) obj base e
   | none=>False
 | i=>cI G get obj base i=some e
section
variable {P:Program} {G:Nat→Option (List DV)} {J:Nat→Prop} {w w':World} {ι:Nat→Nat→Option Nat} {obj:Nat→cF} {a:Act} {get:Nat→LV} {base:Nat}
theorem cu.append:∀ {xs ys:List LV} {vs us:List Value},cu J w ι xs vs→cu J w ι ys us→cu J w ι (xs++ys) (vs++us)
 | [],ys,[],us,_,h=>h
 | x::xs,ys,v::vs,us,h,k=>⟨h.1,cu.append h.2 k⟩
 | [],_,_::_,_,h,_=>h.elim
 | _::_,_,[],_,h,_=>h.elim
theorem wP (keep:Nat→Bool):∀ (l:List (Nat×aH)) (obj:Nat→cF),(l.map (·.1)).Nodup→(∀ p∈l,keep p.1=false→obj p.1=.live p.2)→cV (l.filter fun p=>keep p.1) obj=cV l obj
 | [],_,_,_=>rfl
 | (k,ob)::r,obj,hn,h=>by
   simp only [List.map_cons,List.nodup_cons] at hn
   have ih:=wP keep r obj hn.2 (fun p hp=>h p (by simp [hp]))
   cases hk:keep k with
   | true=>rw [List.filter_cons_of_pos (by simpa using hk)]; simp only [cV,ih]
   | false=>
     rw [List.filter_cons_of_neg (by simp [hk]),ih]
     funext o
     simp only [cV]
     split
     ·rename_i ho
      subst ho
      have hout:∀ (l:List (Nat×aH)) (o:Nat),o∉l.map (·.1)→cV l obj o=obj o:=by
       intro l
       induction l with
       | nil=>intro o _; rfl
       | cons p l ihl=>
         intro o ho
         obtain ⟨a,b⟩:=p
         simp only [List.map_cons,List.mem_cons,not_or] at ho
         simp only [cV]; rw [if_neg ho.1]; exact ihl o ho.2
      rw [hout r _ hn.1]
      exact h (o,ob) (by simp) hk
     ·rfl
theorem Ee (obj:Nat→cF):∀ (Z:List Nat),∀ p∈gE obj Z,p.1∈Z
 | [],p,h=>by cases h
 | z::Z,p,h=>by
   simp only [gE] at h
   split at h
   ·rcases List.mem_cons.1 h with rfl | h
    ·simp
    ·exact List.mem_cons_of_mem _ (Ee obj Z p h)
   ·exact List.mem_cons_of_mem _ (Ee obj Z p h)
theorem GI {ρ Z:List Nat} {tmp:Bool} {aK ax:List aH} {base:Nat} {r:LV} (hn:ρ.Nodup) (hz:∀ z∈Z,z∉ρ) {obj:Nat→cF}
  (ho:∀ (i o:Nat),ρ[i]? = some o→∃ ob,aK[i]? = some ob∧obj o=.live (fB (bB ρ base) ob)) {keep:Nat→Bool} (hk:∀ (i o:Nat),ρ[i]? = some o→keep o=false→ax[i]? = aK[i]?) (nw:List aH) :
  bL obj base { r:=rn (bB ρ base) r,rd:=ρ++Z,wr:=((ρ.zip (ax.map (fB (bB ρ base)))).filter fun p=>keep p.1)++(if tmp then [] else gE obj Z),nw:=nw } =
   bL obj base { r:=rn (bB ρ base) r,rd:=ρ++Z,wr:=(ρ.zip (ax.map (fB (bB ρ base))))++(if tmp then [] else gE obj Z),nw:=nw }:=by
 unfold bL
 dsimp only
 have hap:∀ (l m:List (Nat×aH)) (obj:Nat→cF),cV (l++m) obj=cV l (cV m obj):=by
  intro l m obj
  induction l with
  | nil=>rfl
  | cons p l ih=>obtain ⟨a,b⟩:=p; simp only [List.cons_append,cV,ih]
 rw [hap,hap,wP]
 ·have sub:∀ (ρ:List Nat) (l:List aH),((ρ.zip l).map (·.1)).Sublist ρ:=by
   intro ρ
   induction ρ with
   | nil=>intro l; simp
   | cons a r ih=>
     intro l
     cases l with
     | nil=>simp
     | cons b l=>simpa using ih l
  exact hn.sublist (sub _ _)
 ·intro p hp hkp
  obtain ⟨i,hi⟩:=List.mem_iff_getElem?.1 hp
  rw [List.getElem?_zip_eq_some] at hi
  obtain ⟨h1,h2⟩:=hi
  have h3:=hk i p.1 h1 hkp
  obtain ⟨ob,h4,h5⟩:=ho i p.1 h1
  rw [List.getElem?_map,h3,h4] at h2
  simp only [Option.map_some,Option.some.injEq] at h2
  have hout:∀ (l:List (Nat×aH)) (o:Nat),o∉l.map (·.1)→cV l obj o=obj o:=by
   intro l
   induction l with
   | nil=>intro o _; rfl
   | cons p l ihl=>
     intro o ho
     obtain ⟨a,b⟩:=p
     simp only [List.map_cons,List.mem_cons,not_or] at ho
     simp only [cV]; rw [if_neg ho.1]; exact ihl o ho.2
  rw [hout _ _ ?_,h5,← h2]
  intro hm
  obtain ⟨q,hq,Ir⟩:=List.mem_map.1 hm
  split at hq
  ·cases hq
  ·exact hz _ (Ee obj Z q hq) (Ir ▸ List.mem_of_getElem? h1)
theorem Jl (S:aI G J w ι obj) (he:∀ t,dm J w ι (get t) (a.tmps.getD t Go.undef)) {f:bU} {args:List bU} {e:fu} (hE:k9 P G get obj base (.call f args) e) (hfree:∀ j,j<e.nw.length→obj (base+j)=.free) {o:Oper} (hc:mW P o.op=some (.call f args)) :
  cM P o a w (bg G obj (bL obj base e) J ι w e.r):=by
 replace hc:=tD hc
 obtain ⟨dst,op,type,pos,after,guard⟩:=o
 dsimp only at hc
 obtain ⟨F,as,ts,rfl,hF,hargs⟩:∃ F as ts,op=.call ⟨.value F,as,ts⟩∧aM F=some f∧dU as.toList=some args:=by
  cases op with
  | call c=>
    obtain ⟨callee,as,ts⟩:=c
    cases callee with
    | value F=>
      simp only [cN] at hc
      split at hc
      ·rename_i f' args' h1 h2; cases hc; exact ⟨F,as,ts,rfl,h1,h2⟩
      ·cases hc
    | invoke r m=>simp [cN] at hc
    | builtin b=>
      exfalso
      cases b <;> simp only [cN] at hc <;> (repeat' split at hc) <;> cases hc
  | unOp u T x=>exfalso; cases u <;> simp only [cN] at hc <;> (try (cases hc; done)) <;> (repeat' split at hc) <;> cases hc
  | _=>
    exfalso
    simp only [cN] at hc <;> (repeat' split at hc) <;> cases hc
 simp only [k9] at hE
 split at hE
 ·rename_i k fs cs jq
  have Ac:=bf S he hF
  have hrA:=rJ S he hargs
  obtain ⟨fs',cs',hval,Rw,hcs⟩:∃ fs' cs',a.eval F=.func (.func k) fs' cs'∧cu J w ι fs fs'.toList∧cu J w ι cs cs'.toList:=by
   generalize f.ev G get=x at jq Ac
   unfold callee at jq
   split at jq
   ·cases jq
    obtain ⟨fs',cs',h1,h2,h3⟩:=Ac
    exact ⟨fs',cs',h1,h2.A_,h3.A_⟩
   ·cases jq
    obtain ⟨fs',cs',h1,h2,h3⟩:=Ac
    exact ⟨fs',cs',h1,h2,h3⟩
   ·cases jq
  obtain ⟨ρ,Z,tmp,aX,aK,r,ax,keep,hkeep,hn,hz,Bt,hl,eX,hid,uP,FX,hle,D_,rfl⟩:=hE.ex
  obtain ⟨hent,IB⟩:=D_
  obtain ⟨SF,_⟩:=S.sub (base:=base) hn hz hl eX hid Bt
  have Iq:cu J w ι (fs++args.map (·.ev G get)++cs) (fs'++as.map a.eval++cs').toList:=by
   simp only [Array.toList_append,Array.toList_map]
   exact (Rw.append hrA).append hcs
  have F5:=IB _ _ w (fs'++as.map a.eval++cs') SF (gL S _ _ _ uP Iq)
  have hrun:(execOp a.eval ⟨dst,.call ⟨.value F,as,ts⟩,type,pos,after,guard⟩).run P w=.ok (.enter k (fs'++as.map a.eval++cs')) w:=by
   simp only [execOp,resolve,Sem.run_bind,hval,Deferred.ofValue,Sem.run_pure,Result.andThen_ok,invoke]
   exact oa hent _ w
  intro next Q hnext
  unfold Oper.wp
  rw [hrun,Oper.upon_enter]
  refine Calls.mono F5 (fun e w'' ⟨v,ej,hA⟩=>?_)
  subst ej
  refine hnext v w'' ?_
  simp only [List.length_map,List.length_drop] at hfree
  rw [GI hn hz eX hkeep]
  exact bg.call S hn hz hl eX hid Bt FX hle hfree hA
 ·exact hE.elim
theorem Q9 (S:aI G J w ι obj) (he:∀ t,dm J w ι (get t) (a.tmps.getD t Go.undef)) {f:bU} {args:List bU} {e:fu} {p:Value} {k:Nat} {fs cs:List LV} (jq:callee (f.ev G get)=some (k,fs,cs)) (hE:fA P G k (fs++args.map (·.ev G get)++cs) obj base p e) (hfree:∀ j,j<e.nw.length→obj (base+j)=.free) {o:Oper} (hc:mW P o.op=some (.call f args))
  (next:Act→World→Prop) (Q:Exit→Act→World→Prop) (hQ:∀ w',bg G obj (bL obj base e) J ι w .top Go.undef w'→Q (.panic [{ v:=p,recovered:=false }]) a w'):o.wp P a w next Q:=by
 replace hc:=tD hc
 obtain ⟨dst,op,type,pos,after,guard⟩:=o
 dsimp only at hc
 obtain ⟨F,as,ts,rfl,hF,hargs⟩:∃ F as ts,op=.call ⟨.value F,as,ts⟩∧aM F=some f∧dU as.toList=some args:=by
  cases op with
  | call c=>
    obtain ⟨callee,as,ts⟩:=c
    cases callee with
    | value F=>
      simp only [cN] at hc
      split at hc
      ·rename_i f' args' h1 h2; cases hc; exact ⟨F,as,ts,rfl,h1,h2⟩
      ·cases hc
    | invoke r m=>simp [cN] at hc
    | builtin b=>
      exfalso
      cases b <;> simp only [cN] at hc <;> (repeat' split at hc) <;> cases hc
  | unOp u T x=>exfalso; cases u <;> simp only [cN] at hc <;> (try (cases hc; done)) <;> (repeat' split at hc) <;> cases hc
  | _=>
    exfalso
    simp only [cN] at hc <;> (repeat' split at hc) <;> cases hc
 have Ac:=bf S he hF
 have hrA:=rJ S he hargs
 obtain ⟨fs',cs',hval,Rw,hcs⟩:∃ fs' cs',a.eval F=.func (.func k) fs' cs'∧cu J w ι fs fs'.toList∧cu J w ι cs cs'.toList:=by
  generalize f.ev G get=x at jq Ac
  unfold callee at jq
  split at jq
  ·cases jq
   obtain ⟨fs',cs',h1,h2,h3⟩:=Ac
   exact ⟨fs',cs',h1,h2.A_,h3.A_⟩
  ·cases jq
   obtain ⟨fs',cs',h1,h2,h3⟩:=Ac
   exact ⟨fs',cs',h1,h2,h3⟩
  ·cases jq
 obtain ⟨ρ,Z,aX,aK,ax,hn,hz,Bt,hl,eX,hid,uP,hle,D_,rfl⟩:=hE.ex
 obtain ⟨hent,IB⟩:=D_
 obtain ⟨SF,_⟩:=S.sub (base:=base) hn hz hl eX hid Bt
 have Iq:cu J w ι (fs++args.map (·.ev G get)++cs) (fs'++as.map a.eval++cs').toList:=by
  simp only [Array.toList_append,Array.toList_map]
  exact (Rw.append hrA).append hcs
 have F5:=IB _ _ w (fs'++as.map a.eval++cs') SF (gL S _ _ _ uP Iq)
 have hrun:(execOp a.eval ⟨dst,.call ⟨.value F,as,ts⟩,type,pos,after,guard⟩).run P w=.ok (.enter k (fs'++as.map a.eval++cs')) w:=by
  simp only [execOp,resolve,Sem.run_bind,hval,Deferred.ofValue,Sem.run_pure,Result.andThen_ok,invoke]
  exact oa hent _ w
 unfold Oper.wp
 rw [hrun,Oper.upon_enter]
 refine Calls.mono F5 (fun e w'' ⟨ej,hA⟩=>?_)
 subst ej
 refine hQ w'' ?_
 simp only [List.length_map,List.length_drop] at hfree
 have:=bg.call (tmp:=false) S hn hz hl eX hid Bt (fun h=>by cases h) hle hfree hA
 simpa [rn] using this
theorem JD (S:aI G J w ι obj) (he:∀ t,dm J w ι (get t) (a.tmps.getD t Go.undef)) {i:I} {e:fu} (hE:k9 P G get obj base i e) (hfree:∀ j,j<e.nw.length→obj (base+j)=.free) {o:Oper} (hc:mW P o.op=some i) :
  cM P o a w (bg G obj (bL obj base e) J ι w e.r):=by
 by_cases h:∃ f args,i=.call f args
 ·obtain ⟨f,args,rfl⟩:=h
  exact Jl S he hE hfree hc
 ·have:k9 P G get obj base i e=(cI G get obj base i=some e):=by
   cases i <;> first | rfl | (exfalso; exact h ⟨_,_,rfl⟩)
  rw [this] at hE
  exact IY S he hE hfree hc
end
theorem yt {l:List (Option aH)} {o:Nat} {ob:aH} (h:aD l o=.live ob):o<l.length:=by
 unfold aD at h
 split at h
 ·cases h
 ·cases h
 ·rename_i hh; exact (List.getElem?_eq_some_iff.1 hh).1
theorem cR {l:List (Option aH)} {o:Nat} (h:l.length≤o):aD l o=.free:=by
 unfold aD; rw [List.getElem?_eq_none h]
theorem pY:∀ (wr:List (Nat×aH)) (l:List (Option aH)),(fQ wr l).length=l.length
 | [],_=>rfl
 | (k,ob)::r,l=>by simp only [fQ,List.length_set,pY r l]
theorem yN:∀ (wr:List (Nat×aH)) (l:List (Option aH)),(∀ p∈wr,p.1<l.length)→∀ o,aD (fQ wr l) o=cV wr (aD l) o
 | [],_,_,_=>rfl
 | (k,ob)::r,l,h,o=>by
   have hk:k<(fQ r l).length:=by rw [pY]; exact h (k,ob) (by simp)
   simp only [fQ,cV]
   unfold aD
   by_cases ho:o=k
   ·subst ho
    rw [List.getElem?_set_self hk]; simp
   ·rw [List.getElem?_set_ne (fun e=>ho e.symm),if_neg ho]
    exact yN r l (fun p hp=>h p (by simp [hp])) o
theorem KR (l:List (Option aH)) (e:fu) (h:∀ p∈e.wr,p.1<l.length):aD (fQ e.wr l++e.nw.map some)=bL (aD l) l.length e:=by
 funext o
 simp only [bL,uE]
 have hl:=pY e.wr l
 by_cases ho:l.length≤o
 ·rw [if_pos ho]
  have:aD (fQ e.wr l++e.nw.map some) o=(match e.nw[o-l.length]? with | some ob=>.live ob | none=>.free):=by
   unfold aD
   rw [List.getElem?_append_right (by omega),hl,List.getElem?_map]
   cases e.nw[o-l.length]? <;> rfl
  rw [this]
  cases e.nw[o-l.length]? with
  | some ob=>rfl
  | none=>
    show cF.free=cV e.wr (aD l) o
    rw [← yN e.wr l h o,cR (by omega)]
 ·rw [if_neg ho,← yN e.wr l h o]
  unfold aD
  rw [List.getElem?_append_left (by omega)]
theorem Gg {obj:Nat→cF} {x:LV} {o:Nat} {ob:aH} {d:DV} (h:qV obj x=some (o,ob,d)):∃ ob',obj o=.live ob':=by
 unfold qV at h
 split at h
 ·split at h
  ·rename_i ho
   split at h
   ·cases h; exact ⟨_,ho⟩
   ·cases h
  ·cases h
 ·cases h
theorem tS {G:Nat→Option (List DV)} {get:Nat→LV} {obj:Nat→cF} {base:Nat} {i:I} {e:fu} (h:cI G get obj base i=some e):∀ p∈e.wr,∃ ob,obj p.1=.live ob:=by
 intro p hp
 by_cases hm:∃ m,i=.more m
 ·obtain ⟨m,rfl⟩:=hm
  exact VA (by simpa only [cI] using h) p hp
 cases i <;> (try (exfalso; exact hm ⟨_,rfl⟩; done)) <;> simp only [cI] at h <;> (repeat' split at h) <;> (try (cases h; done)) <;> cases h <;> first
  | (cases hp; done)
  | (simp only [List.mem_singleton] at hp; subst hp; exact ⟨_,by assumption⟩)
  | (simp only [List.mem_singleton] at hp; subst hp; rename_i hf; exact Gg hf)
theorem rR (obj:Nat→cF):∀ (Z:List Nat),∀ p∈gE obj Z,∃ ob,obj p.1=.live ob
 | [],p,h=>by cases h
 | z::Z,p,h=>by
   simp only [gE] at h
   split at h
   ·rename_i et e rows hz
    rcases List.mem_cons.1 h with rfl | h
    ·exact ⟨_,hz⟩
    ·exact rR obj Z p h
   ·exact rR obj Z p h
theorem k9.tS {P:Program} {G:Nat→Option (List DV)} {get:Nat→LV} {obj:Nat→cF} {base:Nat} {i:I} {e:fu} (h:k9 P G get obj base i e):∀ p∈e.wr,∃ ob,obj p.1=.live ob:=by
 by_cases hi:∃ f args,i=.call f args
 ·obtain ⟨f,args,rfl⟩:=hi
  simp only [k9] at h
  split at h
  ·obtain ⟨ρ,Z,tmp,aX,aK,r,ax,keep,hkeep,hn,hz,Bt,hl,eX,hid,uP,FX,hle,D_,rfl⟩:=h.ex
   intro p hp
   simp only [List.mem_append] at hp
   rcases hp with hp | hp
   ·have:p.1∈ρ:=(List.of_mem_zip (List.mem_filter.1 hp).1).1
    obtain ⟨i,hi⟩:=List.mem_iff_getElem?.1 this
    obtain ⟨ob,_,k⟩:=eX i _ hi
    exact ⟨_,k⟩
   ·split at hp
    ·cases hp
    ·exact rR obj Z p hp
  ·exact h.elim
 ·have:k9 P G get obj base i e=(cI G get obj base i=some e):=by
   cases i <;> first | rfl | (exfalso; exact hi ⟨_,_,rfl⟩)
  rw [this] at h
  exact Dv.tS h
theorem fA.tS {P:Program} {G:Nat→Option (List DV)} {f:Nat} {args:List LV} {obj:Nat→cF} {base:Nat} {p:Value} {e:fu} (h:fA P G f args obj base p e):∀ q∈e.wr,∃ ob,obj q.1=.live ob:=by
 obtain ⟨ρ,Z,aX,aK,ax,hn,hz,Bt,hl,eX,hid,uP,hle,D_,rfl⟩:=h.ex
 intro q hq
 simp only [List.mem_append] at hq
 rcases hq with hq | hq
 ·have:q.1∈ρ:=(List.of_mem_zip hq).1
  obtain ⟨i,hi⟩:=List.mem_iff_getElem?.1 this
  obtain ⟨ob,_,k⟩:=eX i _ hi
  exact ⟨_,k⟩
 ·exact rR obj Z q hq
def j4 (w w':World):Prop:=∀ (b:Nat) (ob:Obj),w.heap[b]? = some ob→ob.nU=false→w'.heap[b]? = some ob
theorem j4.refl (w:World):j4 w w:=fun _ _ h _=>h
theorem j4.trans {w w' w'':World} (h:j4 w w') (k:j4 w' w''):j4 w w'':=fun b ob hb hc=>k b ob (h b ob hb hc) hc
theorem Ext.nc {G:Nat→Option (List DV)} {J J':Nat→Prop} {w w':World} {ι ι':Nat→Nat→Option Nat} {obj obj':Nat→cF} (S:aI G J w ι obj) (E:Ext obj obj' J J' ι ι' w w'):j4 w w':=by
 intro b ob hb hc
 rw [E.ev.same b (Array.getElem?_eq_some_iff.1 hb).1 (fun ho=>?_)]
 ·exact hb
 ·obtain ⟨x,h,hx⟩:=S.vQ ho
  rw [hb] at h; cases h; rw [hc] at hx; cases hx
def YS:Nat:=4294967294
def isNil:LV→Bool
 | .d (.val (.slice none 0 0))=>true
 | _=>false
structure Dk where
 ds:List Deferred
 xm:Bool
 lo:Nat
 ys:LV→World→Prop
 keep:∀ v w w',j4 w w'→ys v w→ys v w'
 top:∀ w,ys .top w
 tot:∀ v w,isNil v=true→ys v w→∀ u,ys u w
def Dk.plain (ds:List Deferred) (mk:Bool) (lo:Nat:=0):Dk:=⟨ds,mk,lo,fun _ _=>True,fun _ _ _ _ _=>trivial,fun _=>trivial,fun _ _ _ _ _=>trivial⟩
def Marks (D:Dk) (ds:List Deferred) (w:World):Prop:=∃ Bs:List Nat,(D.xm=false→Bs=[])∧Bs.Nodup∧ds=Bs.map (fun b=>{ target:=.collected b,args:=#[] })++D.ds∧∀ b∈Bs,D.lo≤b∧w.heap[b]? = some (.deferred (some []))
theorem Marks.keep {D:Dk} {ds:List Deferred} {w w':World} (h:Marks D ds w) (k:j4 w w'):Marks D ds w':=by
 obtain ⟨Bs,h1,h2,h3,h4⟩:=h
 exact ⟨Bs,h1,h2,h3,fun b hb=>⟨(h4 b hb).1,k b _ (h4 b hb).2 rfl⟩⟩
theorem Marks.plain (D:Dk) (w:World):Marks D D.ds w:=⟨[],fun _=>rfl,List.nodup_nil,rfl,fun _ h=>by cases h⟩
theorem Marks.none {D:Dk} {ds:List Deferred} {w:World} (h:Marks D ds w) (k:D.xm=false):ds=D.ds:=by
 obtain ⟨Bs,h1,h2,h3,h4⟩:=h
 rw [h1 k] at h3; simpa using h3
structure Sim (G:Nat→Option (List DV)) (D:Dk) (N:Nat) (J:Nat→Prop) (w:World) (ι:Nat→Nat→Option Nat) (a:Act) (get:Nat→LV) (obj:Nat→cF):Prop where
 store:aI G J w ι obj
 env:∀ t,dm J w ι (get t) (a.tmps.getD t Go.undef)
 size:a.tmps.size=N
 defers:Marks D a.defers w
 ys:D.ys (get YS) w
 lim:N≤YS
def gD (dst:Option Nat) (r:LV) (get:Nat→LV) (t:Nat):LV:=if dst=some t then r else get t
theorem Am (dst:Option Nat) (r:LV) (env:List (Nat×LV)):aZ (dY dst r env)=gD dst r (aZ env):=by
 funext t
 cases dst with
 | none=>simp [dY,gD]
 | some d=>simp [dY,aZ,gD]
theorem Sim.step {G:Nat→Option (List DV)} {D:Dk} {N:Nat} {J:Nat→Prop} {w w':World} {ι:Nat→Nat→Option Nat} {a:Act} {get:Nat→LV} {obj obj':Nat→cF} (S:Sim G D N J w ι a get obj) {dst:Option Nat} (hd:∀ d,dst=some d→d<N) {r:LV} {v:Value}
  (h:bg G obj obj' J ι w r v w'):∃ J' ι',Sim G D N J' w' ι' (a.put dst v) (gD dst r get) obj'∧Ext obj obj' J J' ι ι' w w':=by
 obtain ⟨J',ι',S',hr,E⟩:=h
 have hnc:=E.nc S.store
 refine ⟨J',ι',⟨S',fun t=>?_,?_,?_,?_,S.lim⟩,E⟩
 ·cases dst with
  | none=>simpa [gD,Act.put] using (S.env t).ev S.store E.ev
  | some d=>
    have Vc:=hd d rfl
    simp only [gD,Act.put,Option.some.injEq]
    by_cases ht:d=t
    ·subst ht
     rw [if_pos rfl]
     have:(a.tmps.setIfInBounds d v).getD d Go.undef=v:=by simp [Array.getD_eq_getD_getElem?,S.size,Vc]
     rw [this]; exact hr
    ·rw [if_neg ht]
     have:(a.tmps.setIfInBounds d v).getD t Go.undef=a.tmps.getD t Go.undef:=by
      simp [Array.getD_eq_getD_getElem?,Array.getElem?_setIfInBounds_ne ht]
     rw [this]; exact (S.env t).ev S.store E.ev
 ·cases dst <;> simp [Act.put,S.size]
 ·have h1:=S.defers.keep hnc
  cases dst <;> exact h1
 ·have h1:=D.keep _ _ _ hnc S.ys
  have h2:gD dst r get YS=get YS:=by
   unfold gD
   rw [if_neg]
   intro h
   have h3:=hd YS h
   have:=S.lim
   omega
  rw [h2]; exact h1
end Dv
namespace Dv
open Go
structure rA where
 tr:List Nat
 td:Option Nat
 r:LV
 rd:List Nat
 ow:List (Nat×aH)
def rA.wr (e:rA):List Nat:=e.ow.map (·.1)
theorem tT:∀ (l:List (Nat×aH)) (obj:Nat→cF) (o:Nat),o∉l.map (·.1)→cV l obj o=obj o
 | [],_,_,_=>rfl
 | (k,ob)::r,obj,o,h=>by
   simp only [List.map_cons,List.mem_cons,not_or] at h
   simp only [cV]; rw [if_neg h.1]; exact tT r obj o h.2
theorem C_:∀ (l:List (Nat×aH)) (obj obj':Nat→cF) (o:Nat),o∈l.map (·.1)→cV l obj o=cV l obj' o
 | [],_,_,_,h=>by cases h
 | (k,ob)::r,obj,obj',o,h=>by
   simp only [cV]
   by_cases ho:o=k
   ·rw [if_pos ho,if_pos ho]
   ·rw [if_neg ho,if_neg ho]
    exact C_ r obj obj' o (by simpa [ho] using h)
section
variable (E:Nat→rA) (g0:Nat→LV) (o0:Nat→cF)
def jW (D:Nat→Bool):Nat→(Nat→LV)×(Nat→cF)
 | 0=>(g0,o0)
 | k+1=>if D k then (gD (E k).td (E k).r (jW D k).1,cV (E k).ow (jW D k).2) else jW D k
variable {E g0 o0}
theorem Dg {D D':Nat→Bool} {t:Nat} : ∀ k,(∀ j,j<k→(E j).td=some t→D j=D' j)→(jW E g0 o0 D k).1 t=(jW E g0 o0 D' k).1 t
 | 0,_=>rfl
 | k+1,h=>by
   have ih:=Dg k (fun j hj=>h j (by omega))
   simp only [jW]
   by_cases ht:(E k).td=some t
   ·have:=h k (by omega) ht
    rw [this]
    split
    ·simp [gD,ht]
    ·exact ih
   ·have key:∀ D:Nat→Bool,(if D k=true then (gD (E k).td (E k).r (jW E g0 o0 D k).1,cV (E k).ow (jW E g0 o0 D k).2) else jW E g0 o0 D k).1 t=(jW E g0 o0 D k).1 t:=fun D=>by
     split
     ·simp [gD,ht]
     ·rfl
    rw [key,key]; exact ih
theorem ya {D D':Nat→Bool} {o:Nat} : ∀ k,(∀ j,j<k→o∈(E j).wr→D j=D' j)→(jW E g0 o0 D k).2 o=(jW E g0 o0 D' k).2 o
 | 0,_=>rfl
 | k+1,h=>by
   have ih:=ya k (fun j hj=>h j (by omega))
   simp only [jW]
   by_cases ht:o∈(E k).wr
   ·have:=h k (by omega) ht
    rw [this]
    split
    ·exact C_ _ _ _ _ ht
    ·exact ih
   ·have key:∀ D:Nat→Bool,(if D k=true then (gD (E k).td (E k).r (jW E g0 o0 D k).1,cV (E k).ow (jW E g0 o0 D k).2) else jW E g0 o0 D k).2 o=(jW E g0 o0 D k).2 o:=fun D=>by
     split
     ·exact tT _ _ _ ht
     ·rfl
    rw [key,key]; exact ih
theorem BM {D:Nat→Bool} {t i:Nat} (hD:D i=true) (ht:(E i).td=some t):∀ k,i<k→(∀ j,i<j→j<k→(E j).td=some t→D j=false)→(jW E g0 o0 D k).1 t=(E i).r
 | 0,h,_=>by omega
 | k+1,h,hl=>by
   simp only [jW]
   by_cases hk:k=i
   ·subst hk; rw [if_pos hD]; simp [gD,ht]
   ·have ih:=BM hD ht k (by omega) (fun j h1 h2=>hl j h1 (by omega))
    by_cases hkt:(E k).td=some t
    ·have:=hl k (by omega) (by omega) hkt
     rw [if_neg (by simp [this])]; exact ih
    ·split
     ·simpa [gD,hkt] using ih
     ·exact ih
theorem BL {D:Nat→Bool} {o i:Nat} (hD:D i=true) (ht:o∈(E i).wr):∀ k,i<k→(∀ j,i<j→j<k→o∈(E j).wr→D j=false)→∀ obj,(jW E g0 o0 D k).2 o=cV (E i).ow obj o
 | 0,h,_,_=>by omega
 | k+1,h,hl,obj=>by
   simp only [jW]
   by_cases hk:k=i
   ·subst hk; rw [if_pos hD]; exact C_ _ _ _ _ ht
   ·have ih:=BL hD ht k (by omega) (fun j h1 h2=>hl j h1 (by omega)) obj
    by_cases hkt:o∈(E k).wr
    ·have:=hl k (by omega) (by omega) hkt
     rw [if_neg (by simp [this])]; exact ih
    ·split
     ·exact (tT _ _ _ hkt).trans ih
     ·exact ih
def vu (x y:rA):Prop:=
 (∃ t,x.td=some t∧(t∈y.tr∨y.td=some t))∨(∃ t,y.td=some t∧t∈x.tr)∨(∃ o,o∈x.wr∧(o∈y.rd∨o∈y.wr))∨(∃ o,o∈y.wr∧o∈x.rd)
variable {n:Nat} {R:Nat→Nat→Prop} (hR:∀ i j,i<j→j<n→vu (E i) (E j)→R i j)
include hR
theorem vI {D:Nat→Bool} (kK:∀ j,j<n→D j=true→∀ i,R i j→D i=true) {i:Nat} (hi:i<n) (Ai:D i=false) (jS:∀ k,R k i→D k=true) {t:Nat} (ht:t∈(E i).tr∨(E i).td=some t) :
  (jW E g0 o0 D n).1 t=(jW E g0 o0 (fun j=>decide (j<i)) n).1 t:=by
 refine Dg n (fun j hj hjt=>?_)
 rcases Nat.lt_trichotomy j i with h | h | h
 ·rw [jS j (hR j i h hi (.inl ⟨t,hjt,ht⟩))]; simp [h]
 ·subst h; simp [Ai]
 ·have:D j=false:=by
   cases Vh:D j with
   | false=>rfl
   | true=>
     have hc:vu (E i) (E j):=by
      rcases ht with ht | ht
      ·exact .inr (.inl ⟨t,hjt,ht⟩)
      ·exact .inl ⟨t,ht,.inr hjt⟩
     have:=kK j hj Vh i (hR i j h hj hc)
     rw [Ai] at this; cases this
  rw [this]; simp; omega
theorem BK {D:Nat→Bool} (kK:∀ j,j<n→D j=true→∀ i,R i j→D i=true) {i:Nat} (hi:i<n) (Ai:D i=false) (jS:∀ k,R k i→D k=true) {o:Nat} (ho:o∈(E i).rd∨o∈(E i).wr) :
  (jW E g0 o0 D n).2 o=(jW E g0 o0 (fun j=>decide (j<i)) n).2 o:=by
 refine ya n (fun j hj hjo=>?_)
 rcases Nat.lt_trichotomy j i with h | h | h
 ·rw [jS j (hR j i h hi (.inr (.inr (.inl ⟨o,hjo,ho⟩))))]; simp [h]
 ·subst h; simp [Ai]
 ·have:D j=false:=by
   cases Vh:D j with
   | false=>rfl
   | true=>
     have hc:vu (E i) (E j):=by
      rcases ho with ho | ho
      ·exact .inr (.inr (.inr ⟨o,hjo,ho⟩))
      ·exact .inr (.inr (.inl ⟨o,ho,.inr hjo⟩))
     have:=kK j hj Vh i (hR i j h hj hc)
     rw [Ai] at this; cases this
  rw [this]; simp; omega
theorem JK {D:Nat→Bool} (kK:∀ j,j<n→D j=true→∀ i,R i j→D i=true) {i:Nat} (hi:i<n) (Ai:D i=false) :
  jW E g0 o0 (fun j=>D j||j==i) n=(gD (E i).td (E i).r (jW E g0 o0 D n).1,cV (E i).ow (jW E g0 o0 D n).2):=by
 have PZ:∀ j,i<j→j<n→vu (E i) (E j)→D j=false:=fun j h hj hc=>by
  cases Vh:D j with
  | false=>rfl
  | true=>
    have:=kK j hj Vh i (hR i j h hj hc)
    rw [Ai] at this; cases this
 refine Prod.ext (funext fun t=>?_) (funext fun o=>?_)
 ·simp only [gD]
  by_cases ht:(E i).td=some t
  ·rw [if_pos ht]
   refine BM (D:=fun j=>D j||j==i) (by simp) ht n hi (fun j h1 h2 hj=>?_)
   have:=PZ j h1 h2 (.inl ⟨t,ht,.inr hj⟩)
   simp [this]; omega
  ·rw [if_neg ht]
   refine Dg n (fun j hj hjt=>?_)
   have:j≠i:=fun e=>ht (e ▸ hjt)
   simp [this]
 ·show (jW E g0 o0 (fun j=>D j||j==i) n).2 o=cV (E i).ow (jW E g0 o0 D n).2 o
  by_cases ho:o∈(E i).wr
  ·refine BL (D:=fun j=>D j||j==i) (by simp) ho n hi (fun j h1 h2 hj=>?_) _
   have:=PZ j h1 h2 (.inr (.inr (.inl ⟨o,ho,.inr hj⟩)))
   simp [this]; omega
  ·rw [tT _ _ _ ho]
   refine ya n (fun j hj hjo=>?_)
   have:j≠i:=fun e=>ho (e ▸ hjo)
   simp [this]
end
theorem count_set:∀ {l:List Bool} {i:Nat},l[i]? = some false→(l.set i true).count false+1=l.count false:=by
 intro l
 induction l with
 | nil=>intro i h; simp at h
 | cons x l ihl=>
   intro i h
   cases i with
   | zero=>simp at h; subst h; simp
   | succ i=>
     have:=ihl (i:=i) (by simpa using h)
     simp only [List.set_cons_succ,List.count_cons]
     omega
theorem G5 {ro:Option Nat} {nn:Nat} {P:Program} {ops:Array Oper} {Q:Exit→Act→World→Prop} {E:Nat→rA} {g0:Nat→LV} {o0:Nat→cF} {R:Nat→Nat→Prop} (Inv:(Nat→LV)→(Nat→cF)→Act→World→Prop) (lo hi:Nat) (hhi:hi≤ops.size)
  (Mu:∀ i j,i<hi→hi≤j→j<ops.size→R i j)
  (hR:∀ i j,i<j→j<ops.size→vu (E i) (E j)→R i j)
  (hpre:∀ j o,ops[j]? = some o→∀ i,R i j→∃ e∈o.after,Region.binds .any e=true∧(e.on=i∨R i e.on))
  (hback:∀ j o,ops[j]? = some o→∀ e∈o.after,Region.binds .any e=true→e.on<j)
  (adw:∀ i j,R i j→i<ops.size)
  (hstep:∀ i g obj,lo≤i→i<hi→(∀ t,t∈(E i).tr∨(E i).td=some t→g t=(jW E g0 o0 (fun j=>decide (j<i)) ops.size).1 t)→(∀ o,o∈(E i).rd∨o∈(E i).wr→obj o=(jW E g0 o0 (fun j=>decide (j<i)) ops.size).2 o)→
   ∀ a w K,Inv g obj a w→(∀ a' w',Inv (gD (E i).td (E i).r g) (cV (E i).ow obj) a' w'→K a' w')→wpOpIn (fz ro) nn P ops Q i K a w)
  (hQ:∀ listed a w,listed.size=ops.size→(∀ j,listed.getD j false=decide (j<hi))→Inv (jW E g0 o0 (fun j=>decide (j<hi)) ops.size).1 (jW E g0 o0 (fun j=>decide (j<hi)) ops.size).2 a w→wpAnyIn (fz ro) nn P .any ops Q (listed.toList.count false) listed a w) :
  ∀ (fuel:Nat) (listed:Array Bool) (a:Act) (w:World),listed.size=ops.size→listed.toList.count false=fuel→(∀ j,listed.getD j false=true→j<hi)→(∀ j,j<lo→listed.getD j false=true)→
    (∀ j o,ops[j]? = some o→listed.getD j false=true→∀ e∈o.after,Region.binds .any e=true→listed.getD e.on false=true)→
    Inv (jW E g0 o0 (fun j=>listed.getD j false) ops.size).1 (jW E g0 o0 (fun j=>listed.getD j false) ops.size).2 a w→
    wpAnyIn (fz ro) nn P .any ops Q fuel listed a w:=by
 intro fuel
 induction fuel with
 | zero=>
   intro listed a w hls hc hlh hlo hcl hI
   have hall:∀ j,j<ops.size→listed.getD j false=true:=by
    intro j hj
    have hjj:j<listed.size:=by omega
    have h1:=List.count_eq_zero.1 hc
    cases hx:listed[j] with
    | true=>simp [hjj,hx]
    | false=>exact absurd (by rw [← hx]; simp) h1
   have hD:(fun j=>listed.getD j false)=fun j=>decide (j<hi):=by
    funext j
    cases hx:listed.getD j false with
    | true=>simp [hlh j hx]
    | false=>
      by_cases hj:j<ops.size
      ·rw [hall j hj] at hx; cases hx
      ·simp; omega
   rw [hD] at hI
   have:=hQ listed a w hls (fun j=>congrFun hD j) hI
   rw [hc] at this; exact this
 | succ fuel ih=>
   intro listed a w hls hc hlh hlo hcl hI
   by_cases hfull:∀ j,j<hi→listed.getD j false=true
   ·have hD:(fun j=>listed.getD j false)=fun j=>decide (j<hi):=by
     funext j
     by_cases hj:j<hi
     ·simp [hfull j hj,hj]
     ·cases hx:listed.getD j false with
      | true=>exact absurd (hlh j hx) hj
      | false=>simp [hj]
    rw [hD] at hI
    have:=hQ listed a w hls (fun j=>congrFun hD j) hI
    rw [hc] at this; exact this
   ·obtain ⟨j0,hj0⟩:=Classical.not_forall.1 hfull
    obtain ⟨hj0,Va⟩:j0<hi∧listed.getD j0 false=false:=by
     by_cases h:j0<hi
     ·exact ⟨h,by cases hx:listed.getD j0 false with
       | true=>exact absurd (fun _=>hx) hj0
       | false=>rfl⟩
     ·exact absurd (fun h'=>absurd h' h) hj0
    -- closed below
    have kK:∀ j,j<ops.size→listed.getD j false=true→∀ k,R k j→listed.getD k false=true:=by
     intro j
     induction j using Nat.strongRecOn with
     | _ j ihj=>
       intro hj Vh k hk
       obtain ⟨e,he,hb,Ah⟩:=hpre j _ (Array.getElem?_eq_getElem hj) k hk
       have hlt:=hback j _ (Array.getElem?_eq_getElem hj) e he hb
       have hDe:=hcl j _ (Array.getElem?_eq_getElem hj) Vh e he hb
       rcases Ah with rfl | Ah
       ·exact hDe
       ·exact ihj e.on hlt (by omega) hDe k Ah
    have hrd:∀ i o,ops[i]? = some o→(∀ e∈o.after,Region.binds .any e=true→listed.getD e.on false=true)→∀ k,R k i→listed.getD k false=true:=by
     intro i o ho hall k hk
     have hilt:=(Array.getElem?_eq_some_iff.1 ho).1
     obtain ⟨e,he,hb,Ah⟩:=hpre i o ho k hk
     have hlt:=hback i o ho e he hb
     rcases Ah with rfl | Ah
     ·exact hall e he hb
     ·exact kK e.on (by omega) (hall e he hb) k Ah
    refine ⟨fun hr=>?_,fun i hi'=>?_⟩
    ·exfalso
     have Iy:∀ j,j<ops.size→listed.getD j false=true:=by
      intro j
      induction j using Nat.strongRecOn with
      | _ j ih=>
        intro hj
        cases hl:listed.getD j false with
        | true=>rfl
        | false=>
          have hjj:j<listed.size:=by omega
          have hmem:j∈Region.ready .any ops listed:=by
           rw [mem_ready]
           refine ⟨?_,ops[j],Array.getElem?_eq_getElem hj,fun e he hb=>?_⟩
           ·simp [hjj] at hl ⊢; exact hl
           ·have hlt:=hback j _ (Array.getElem?_eq_getElem hj) e he hb
            exact ih e.on hlt (by omega)
          rw [hr] at hmem; cases hmem
     rw [Iy j0 (by omega)] at Va; cases Va
    ·rw [mem_ready] at hi'
     obtain ⟨hun,o,ho,hall⟩:=hi'
     have hilt:=(Array.getElem?_eq_some_iff.1 ho).1
     have hil:i<listed.size:=by omega
     have Ai:listed.getD i false=false:=by simp [hil] at hun ⊢; exact hun
     have jS:=hrd i o ho hall
     have abY:i<hi:=by
      rcases Nat.lt_or_ge i hi with h | h
      ·exact h
      ·rw [jS j0 (Mu j0 i hj0 h hilt)] at Va; cases Va
     have ac_:lo≤i:=Nat.le_of_not_lt fun h=>by rw [hlo i h] at Ai; cases Ai
     refine hstep i _ _ ac_ abY (fun t ht=>vI (D:=fun j=>listed.getD j false) hR kK hilt Ai jS ht) (fun q hq=>BK (D:=fun j=>listed.getD j false) hR kK hilt Ai jS hq) a w _ hI (fun a' w' hI'=>?_)
     have hset:∀ j,(listed.setIfInBounds i true).getD j false=(listed.getD j false||j==i):=by
      intro j
      by_cases hj:j=i
      ·subst hj; simp [hil]
      ·rw [getD_set_ne false (fun e=>hj e.symm)]
       simp [hj]
     refine ih (listed.setIfInBounds i true) a' w' (by simpa using hls) ?_ ?_ (fun j hj=>by rw [hset,hlo j hj]; rfl) ?_ ?_
     ·have l_:listed.toList[i]? = some false:=by
       simp [hil] at hun
       simp [hil,hun]
      have:=count_set l_
      rw [Array.toList_setIfInBounds]
      omega
     ·intro j hj
      rw [hset] at hj
      simp only [Bool.or_eq_true,beq_iff_eq] at hj
      rcases hj with hj | rfl
      ·exact hlh j hj
      ·exact abY
     ·intro j oj EA hj e he hb
      rw [hset] at hj ⊢
      simp only [Bool.or_eq_true,beq_iff_eq] at hj ⊢
      rcases hj with hj | rfl
      ·exact .inl (hcl j oj EA hj e he hb)
      ·rw [ho] at EA; cases EA
       exact .inl (hall e he hb)
     ·have e1:(fun j=>(listed.setIfInBounds i true).getD j false)=(fun j=>listed.getD j false||j==i):=funext hset
      rw [e1,JK hR kK hilt Ai]
      exact hI'
theorem wpAny_done {ro:Option Nat} {nn:Nat} {P:Program} {ops:Array Oper} {Q:Exit→Act→World→Prop} {listed:Array Bool} {a:Act} {w:World} (hls:listed.size=ops.size) (hD:∀ j,listed.getD j false=decide (j<ops.size)) (hQ:Q .normal a w):wpAnyIn (fz ro) nn P .any ops Q (listed.toList.count false) listed a w:=by
 have hc:listed.toList.count false=0:=by
  refine List.count_eq_zero.2 (fun hm=>?_)
  obtain ⟨i,hi,he⟩:=List.mem_iff_getElem.1 hm
  have hi:i<listed.size:=by simpa using hi
  have:=hD i
  rw [show listed.getD i false=listed[i] by simp [hi]] at this
  have he:listed[i]=false:=by simpa using he
  rw [he] at this
  simp at this; omega
 rw [hc]
 refine ⟨?_,hQ⟩
 apply List.eq_nil_iff_forall_not_mem.2
 intro j hj
 rw [mem_ready] at hj
 obtain ⟨h1,o,ho,_⟩:=hj
 have abW:=(Array.getElem?_eq_some_iff.1 ho).1
 have h2:=hD j
 have hjj:j<listed.size:=by omega
 simp [hjj] at h1 h2
 rw [h1] at h2; simp at h2; omega
theorem K_ {ro:Option Nat} {nn:Nat} {P:Program} {ops:Array Oper} {Q:Exit→Act→World→Prop} {R:Nat→Nat→Prop} {p:Nat} (hp:p<ops.size) (Mu:∀ j,p<j→j<ops.size→R p j)
  (hpre:∀ j o,ops[j]? = some o→∀ i,R i j→∃ e∈o.after,Region.binds .any e=true∧(e.on=i∨R i e.on))
  (hback:∀ j o,ops[j]? = some o→∀ e∈o.after,Region.binds .any e=true→e.on<j)
  {listed:Array Bool} {a:Act} {w:World} (hls:listed.size=ops.size) (hD:∀ j,listed.getD j false=decide (j<p))
  (h:∀ K:Act→World→Prop,(∀ a' w',(∀ uI:Array Bool,uI.size=ops.size→(∀ j,uI.getD j false=decide (j<p+1))→wpAnyIn (fz ro) nn P .any ops Q (uI.toList.count false) uI a' w')→K a' w')→wpOpIn (fz ro) nn P ops Q p K a w):wpAnyIn (fz ro) nn P .any ops Q (listed.toList.count false) listed a w:=by
 have hlt:∀ j,j<ops.size→∀ i,R i j→i<j:=by
  intro j
  induction j using Nat.strongRecOn with
  | _ j ih=>
    intro hj i hi
    obtain ⟨e,he,hb,Ah⟩:=hpre j _ (Array.getElem?_eq_getElem hj) i hi
    have h1:=hback j _ (Array.getElem?_eq_getElem hj) e he hb
    rcases Ah with rfl | Ah
    ·exact h1
    ·have:=ih e.on h1 (by omega) i Ah; omega
 have lZ:p<listed.size:=by omega
 have hpf:listed[p]=false:=by have:=hD p; simpa [lZ] using this
 have l_:listed.toList[p]? = some false:=by simp [lZ,hpf]
 have Ms:=count_set l_
 have hset:∀ j,(listed.setIfInBounds p true).getD j false=decide (j<p+1):=by
  intro j
  by_cases hj:j=p
  ·subst hj; simp [lZ]
  ·rw [getD_set_ne false (fun e=>hj e.symm),hD]
   simp; omega
 rw [← Array.toList_setIfInBounds] at Ms
 rw [← Ms]
 have abH:∀ (i:Nat) (o:Oper),ops[i]? = some o→((∀ e∈o.after,Region.binds .any e=true→listed.getD e.on false=true)↔∀ e∈o.after,Region.binds .any e=true→e.on<p):=fun i o _=>by simp only [hD,decide_eq_true_eq]
 refine ⟨fun hr=>?_,fun i hi=>?_⟩
 ·exfalso
  have:p∈Region.ready .any ops listed:=by
   rw [mem_ready]
   exact ⟨by simp [lZ,hpf],ops[p],Array.getElem?_eq_getElem hp,(abH p _ (Array.getElem?_eq_getElem hp)).2 fun e he hb=>hback p _ (Array.getElem?_eq_getElem hp) e he hb⟩
  rw [hr] at this; cases this
 ·rw [mem_ready] at hi
  obtain ⟨hun,o,ho,hall⟩:=hi
  have hilt:=(Array.getElem?_eq_some_iff.1 ho).1
  have hil:i<listed.size:=by omega
  have Ai:listed.getD i false=false:=by simp [hil] at hun ⊢; exact hun
  rw [hD] at Ai
  have hip:i=p:=by
   rcases Nat.lt_trichotomy i p with h1 | h1 | h1
   ·simp [h1] at Ai
   ·exact h1
   ·obtain ⟨e,he,hb,Ah⟩:=hpre i o ho p (Mu i h1 hilt)
    have h2:=(abH i o ho).1 hall e he hb
    rcases Ah with h3 | h3
    ·omega
    ·have:=hlt e.on (by omega) p h3; omega
  subst hip
  exact h _ fun a' w' hk=>hk _ (by simpa using hls) hset
theorem K9 {ro:Option Nat} {nn:Nat} {P:Program} {ops:Array Oper} {Q:Exit→Act→World→Prop} {E:Nat→rA} {g0:Nat→LV} {o0:Nat→cF} {R:Nat→Nat→Prop} (Inv:(Nat→LV)→(Nat→cF)→Act→World→Prop) (lo p:Nat) (hp:p<ops.size)
  (hR:∀ i j,i<j→j<ops.size→vu (E i) (E j)→R i j)
  (hpre:∀ j o,ops[j]? = some o→∀ i,R i j→∃ e∈o.after,Region.binds .any e=true∧(e.on=i∨R i e.on))
  (hback:∀ j o,ops[j]? = some o→∀ e∈o.after,Region.binds .any e=true→e.on<j)
  (adw:∀ i j,R i j→i<ops.size)
  (hstep:∀ i g obj,lo≤i→i<ops.size→i≠p→¬ R p i→(∀ t,t∈(E i).tr∨(E i).td=some t→g t=(jW E g0 o0 (fun j=>decide (j<i)) ops.size).1 t)→(∀ o,o∈(E i).rd∨o∈(E i).wr→obj o=(jW E g0 o0 (fun j=>decide (j<i)) ops.size).2 o)→
   ∀ a w K,Inv g obj a w→(∀ a' w',Inv (gD (E i).td (E i).r g) (cV (E i).ow obj) a' w'→K a' w')→wpOpIn (fz ro) nn P ops Q i K a w)
  (ac4:∀ j,j<ops.size→(E j).wr≠[]→R j p∧j<p)
  (PU:∀ g obj,(∀ t,t∈(E p).tr→g t=(jW E g0 o0 (fun j=>decide (j<p)) ops.size).1 t)→obj=(jW E g0 o0 (fun j=>decide (j<p)) ops.size).2→∀ a w K,Inv g obj a w→wpOpIn (fz ro) nn P ops Q p K a w) :
  ∀ (fuel:Nat) (listed:Array Bool) (a:Act) (w:World),listed.size=ops.size→listed.toList.count false=fuel→
    (∀ j o,ops[j]? = some o→listed.getD j false=true→∀ e∈o.after,Region.binds .any e=true→listed.getD e.on false=true)→
    (∀ j,j<lo→listed.getD j false=true)→listed.getD p false=false→Inv (jW E g0 o0 (fun j=>listed.getD j false) ops.size).1 (jW E g0 o0 (fun j=>listed.getD j false) ops.size).2 a w→
    wpAnyIn (fz ro) nn P .any ops Q fuel listed a w:=by
 -- what is ready,when all is listed
 have Iy:∀ listed:Array Bool,listed.size=ops.size→Region.ready .any ops listed=[]→∀ j,j<ops.size→listed.getD j false=true:=by
  intro listed hls hr j
  induction j using Nat.strongRecOn with
  | _ j ih=>
    intro hj
    cases hl:listed.getD j false with
    | true=>rfl
    | false=>
      have hjj:j<listed.size:=by omega
      have hmem:j∈Region.ready .any ops listed:=by
       rw [mem_ready]
       refine ⟨?_,ops[j],Array.getElem?_eq_getElem hj,fun e he hb=>?_⟩
       ·simp [hjj] at hl ⊢; exact hl
       ·have hlt:=hback j _ (Array.getElem?_eq_getElem hj) e he hb
        exact ih e.on hlt (by omega)
      rw [hr] at hmem; cases hmem
 intro fuel
 induction fuel with
 | zero=>
   intro listed a w hls hc hcl hlo hDp hI
   exfalso
   have h1:=List.count_eq_zero.1 hc
   have hjj:p<listed.size:=by omega
   have:listed[p]=false:=by simpa [hjj] using hDp
   exact h1 (by rw [← this]; simp)
 | succ fuel ih=>
   intro listed a w hls hc hcl hlo hDp hI
   refine ⟨fun hr=>(by have:=Iy listed hls hr p hp; rw [hDp] at this; cases this),fun i hi=>?_⟩
   rw [mem_ready] at hi
   obtain ⟨hun,o,ho,hall⟩:=hi
   have hilt:=(Array.getElem?_eq_some_iff.1 ho).1
   have hil:i<listed.size:=by omega
   have Ai:listed.getD i false=false:=by simp [hil] at hun ⊢; exact hun
   -- closed below
   have kK:∀ j,j<ops.size→listed.getD j false=true→∀ k,R k j→listed.getD k false=true:=by
    intro j
    induction j using Nat.strongRecOn with
    | _ j ihj=>
      intro hj Vh k hk
      obtain ⟨e,he,hb,Ah⟩:=hpre j _ (Array.getElem?_eq_getElem hj) k hk
      have hlt:=hback j _ (Array.getElem?_eq_getElem hj) e he hb
      have hDe:=hcl j _ (Array.getElem?_eq_getElem hj) Vh e he hb
      rcases Ah with rfl | Ah
      ·exact hDe
      ·exact ihj e.on hlt (by omega) hDe k Ah
   have jS:∀ k,R k i→listed.getD k false=true:=by
    intro k hk
    obtain ⟨e,he,hb,Ah⟩:=hpre i o ho k hk
    have hlt:=hback i o ho e he hb
    rcases Ah with rfl | Ah
    ·exact hall e he hb
    ·exact kK e.on (by omega) (hall e he hb) k Ah
   by_cases hip:i=p
   ·subst hip
    refine PU _ _ (fun t ht=>vI (D:=fun j=>listed.getD j false) hR kK hilt Ai jS (.inl ht)) (funext fun o=>?_) a w _ hI
    refine ya _ (fun j hj hjo=>?_)
    obtain ⟨h1,h2⟩:=ac4 j hj (List.ne_nil_of_mem hjo)
    rw [jS j h1]; simp [h2]
   have hRp:¬ R p i:=fun h=>by have:=jS p h; rw [hDp] at this; cases this
   refine hstep i _ _ (Nat.le_of_not_lt fun h=>by rw [hlo i h] at Ai; cases Ai) hilt hip hRp (fun t ht=>vI (D:=fun j=>listed.getD j false) hR kK hilt Ai jS ht) (fun q hq=>BK (D:=fun j=>listed.getD j false) hR kK hilt Ai jS hq) a w _ hI (fun a' w' hI'=>?_)
   have hset:∀ j,(listed.setIfInBounds i true).getD j false=(listed.getD j false||j==i):=by
    intro j
    by_cases hj:j=i
    ·subst hj; simp [hil]
    ·rw [getD_set_ne false (fun e=>hj e.symm)]
     simp [hj]
   refine ih (listed.setIfInBounds i true) a' w' (by simpa using hls) ?_ ?_ (fun j hj=>by rw [hset,hlo j hj]; rfl) (by rw [hset,hDp]; simpa using fun e=>hip e.symm) ?_
   ·have l_:listed.toList[i]? = some false:=by
     simp [hil] at hun
     simp [hil,hun]
    have:=count_set l_
    rw [Array.toList_setIfInBounds]
    omega
   ·intro j oj EA hj e he hb
    rw [hset] at hj ⊢
    simp only [Bool.or_eq_true,beq_iff_eq] at hj ⊢
    rcases hj with hj | rfl
    ·exact .inl (hcl j oj EA hj e he hb)
    ·rw [ho] at EA; cases EA
     exact .inl (hall e he hb)
   ·have e1:(fun j=>(listed.setIfInBounds i true).getD j false)=(fun j=>listed.getD j false||j==i):=funext hset
    rw [e1,JK hR kK hilt Ai]
    exact hI'
end Dv
namespace Dv
open Go
section
variable {P:Program} {G:Nat→Option (List DV)} {get get':Nat→LV} {obj obj':Nat→cF} {base:Nat}
theorem bU.de {x:bU} (h:∀ t∈x.tmps,get' t=get t):x.ev G get'=x.ev G get:=by
 cases x with
 | t n=>exact h n (by simp [bU.tmps])
 | _=>rfl
theorem n_:∀ {xs:List bU},(∀ t∈xs.flatMap bU.tmps,get' t=get t)→xs.map (·.ev G get')=xs.map (·.ev G get)
 | [],_=>rfl
 | x::xs,h=>by
   simp only [List.flatMap_cons,List.mem_append] at h
   simp only [List.map_cons]
   rw [bU.de (fun t ht=>h t (.inl ht)),n_ (fun t ht=>h t (.inr ht))]
theorem xB:∀ {parts:List (Nat×Nat×bU)} {cells:List LV},(∀ t∈parts.flatMap (fun p=>p.2.2.tmps),get' t=get t)→sI G get' cells parts=sI G get cells parts
 | [],_,_=>rfl
 | (off,size,x)::rest,cells,h=>by
   simp only [List.flatMap_cons,List.mem_append] at h
   simp only [sI]
   rw [bU.de (fun t ht=>h t (.inl ht))]
   cases (x.ev G get).cells with
   | none=>rfl
   | some cs=>
     dsimp only
     split
     ·exact xB (fun t ht=>h t (.inr ht))
     ·rfl
theorem xI:∀ {xs:List bU},(∀ t∈xs.flatMap bU.tmps,get' t=get t)→vh G get' xs=vh G get xs
 | [],_=>rfl
 | x::xs,h=>by
   simp only [List.flatMap_cons,List.mem_append] at h
   simp only [vh]
   rw [bU.de (fun t ht=>h t (.inl ht)),xI (fun t ht=>h t (.inr ht))]
theorem ug {aS:Nat} : ∀ {xs:List bU},(∀ t∈xs.flatMap bU.tmps,get' t=get t)→rowsOf G get' aS xs=rowsOf G get aS xs
 | [],_=>rfl
 | x::xs,h=>by
   simp only [List.flatMap_cons,List.mem_append] at h
   simp only [rowsOf]
   rw [bU.de (fun t ht=>h t (.inl ht)),ug (fun t ht=>h t (.inr ht))]
theorem Fq:∀ {xs:List bU},(∀ t∈xs.flatMap bU.tmps,get' t=get t)→zD G get' xs=zD G get xs
 | [],_=>rfl
 | [x],h=>by
   simp only [List.flatMap_cons,List.mem_append] at h
   simp only [zD]
   rw [bU.de (fun t ht=>h t (.inl ht))]
 | _::_::_,_=>rfl
theorem jK:∀ {o:Option bU},(∀ t∈bU.w9 o,get' t=get t)→o.map (·.ev G get')=o.map (·.ev G get)
 | none,_=>rfl
 | some x,h=>by simp only [Option.map_some]; rw [bU.de h]
theorem QS {m:M} (h:∀ t∈m.tmps,get' t=get t):fO G get' obj base m=fO G get obj base m:=by
 cases m <;> simp only [M.tmps,List.mem_append] at h <;> simp only [fO] <;> first
  | (rw [bU.de h]; done)
  | (rw [bU.de (fun t ht=>h t (.inl ht)),bU.de (fun t ht=>h t (.inr ht))]; done)
  | (rw [bU.de (fun t ht=>h t (.inl (.inl ht))),jK (fun t ht=>h t (.inl (.inr ht))),jK (fun t ht=>h t (.inr ht))]; done)
  | (rw [bU.de (fun t ht=>h t (.inl (.inl ht))),bU.de (fun t ht=>h t (.inl (.inr ht))),bU.de (fun t ht=>h t (.inr ht))]; done)
theorem QU {i:I} (h:∀ t∈i.tmps,get' t=get t):cI G get' obj base i=cI G get obj base i:=by
 cases i <;> simp only [I.tmps,List.mem_append] at h <;> simp only [cI] <;> first
  | rfl
  | exact QS h
  | (rw [bU.de h]; done)
  | (rw [bU.de (fun t ht=>h t (.inl ht)),bU.de (fun t ht=>h t (.inr ht))]; done)
  | (rw [bU.de (fun t ht=>h t (.inl (.inl ht))),bU.de (fun t ht=>h t (.inl (.inr ht))),bU.de (fun t ht=>h t (.inr ht))]; done)
  | (rw [xB h]; done)
  | (rw [ug h,xI h,Fq h]; done)
  | (rw [n_ (fun t ht=>h t (.inl ht)),n_ (fun t ht=>h t (.inr ht))]; done)
  | (rw [bU.de (fun t ht=>h t (.inl (.inl (.inl ht)))),jK (fun t ht=>h t (.inl (.inl (.inr ht)))),jK (fun t ht=>h t (.inl (.inr ht))),jK (fun t ht=>h t (.inr ht))]; done)
  | (rw [bU.de (fun t ht=>h t (.inl (.inl ht))),jK (fun t ht=>h t (.inl (.inr ht))),jK (fun t ht=>h t (.inr ht))]; done)
theorem j6 {aS:Nat} {y:LV} {new:List (List DV)} {rd:List Nat} (h:bn obj aS y=some (new,rd)) (ho:∀ o∈rd,obj' o=obj o):bn obj' aS y=some (new,rd):=by
 cases y with
 | sl o n e lo len=>
   simp only [bn] at h ⊢
   have:rd=[o]:=by
    split at h
    ·split at h <;> cases h; rfl
    ·split at h <;> cases h; rfl
    ·split at h
     ·split at h <;> cases h; rfl
     ·cases h
    ·cases h
   subst this
   rw [ho o (by simp)]; exact h
 | d x=>
   have:bn obj' aS (.d x)=bn obj aS (.d x):=by
    cases x with
    | val v=>
      cases v with
      | slice a n c=>cases a <;> cases n <;> cases c <;> rfl
      | _=>rfl
    | _=>rfl
   rw [this]; exact h
 | _=>exact h
theorem QO {m:M} {e:fu} (h:fO G get obj base m=some e) (ho:∀ o∈e.rd,obj' o=obj o):fO G get obj' base m=some e:=by
 cases m with
 | sla n x lo hi=>
   simp only [fO] at h ⊢
   cases hx:x.ev G get with
   | ptr o col=>
     rw [hx] at h; dsimp only at h ⊢
     have:e.rd=[o]:=by
      (repeat' split at h) <;> (try (cases h; done)) <;> cases h <;> rfl
     rw [ho o (by simp [this])]; exact h
   | _=>rw [hx] at h; exact h
 | cpy x y=>
   simp only [fO] at h ⊢
   cases hs:bn obj 1 (y.ev G get) with
   | none=>rw [hs] at h; cases h
   | some p=>
     obtain ⟨new,rd⟩:=p
     rw [hs] at h; dsimp only at h
     split at h
     ·rename_i o lo len hx
      have hh:e.rd=o::rd:=by
       split at h
       ·split at h
        ·cases h; rfl
        ·cases h
       ·cases h
      rw [j6 hs (fun q hq=>ho q (by rw [hh]; exact List.mem_cons_of_mem _ hq))]
      dsimp only
      rw [ho o (by simp [hh])]; exact h
     ·rename_i o n lo len hno hx
      have hh:e.rd=o::rd:=by
       split at h
       ·split at h
        ·cases h; rfl
        ·cases h
       ·cases h
      rw [j6 hs (fun q hq=>ho q (by rw [hh]; exact List.mem_cons_of_mem _ hq))]
      cases n with
      | zero=>exact absurd rfl hno
      | succ n=>
        dsimp only
        rw [ho o (by simp [hh])]; exact h
     ·cases h
 | stk=>cases h
 | cpl x=>exact h
 | clr aS z x=>
   simp only [fO] at h ⊢
   cases hx:x.ev G get with
   | sl o n e0 lo len=>
     rw [hx] at h; dsimp only at h ⊢
     have:e.rd=[o]:=by
      (repeat' split at h) <;> (try (cases h; done)) <;> cases h <;> rfl
     rw [ho o (by simp [this])]; exact h
   | d v=>
     rw [hx] at h
     cases v with
     | dH e0 rs=>cases rs <;> exact h
     | _=>exact h
   | _=>rw [hx] at h; exact h
 | atl x=>
   simp only [fO] at h ⊢
   cases hx:x.ev G get with
   | ptr o col=>
     rw [hx] at h; dsimp only at h ⊢
     have:e.rd=[o]:=by
      (repeat' split at h) <;> (try (cases h; done)) <;> cases h <;> rfl
     rw [ho o (by simp [this])]; exact h
   | _=>rw [hx] at h; exact h
 | ata x y=>
   simp only [fO] at h ⊢
   split at h
   ·rename_i o c d hx hy
    have:e.rd=[o]:=by
     (repeat' split at h) <;> (try (cases h; done)) <;> cases h <;> rfl
    rw [ho o (by simp [this])]; exact h
   ·cases h
 | mkm=>exact h
 | mup x k y=>
   simp only [fO] at h ⊢
   split at h
   ·rename_i o n hx hy
    have:e.rd=[o]:=by
     (repeat' split at h) <;> (try (cases h; done)) <;> cases h <;> rfl
    rw [ho o (by simp [this])]; exact h
   ·cases h
 | mlk z ok x k=>
   simp only [fO] at h ⊢
   split at h
   ·rename_i o n hx hy
    have:e.rd=[o]:=by
     (repeat' split at h) <;> (try (cases h; done)) <;> cases h <;> rfl
    rw [ho o (by simp [this])]; exact h
   ·cases h
 | xm et aS bytes z n=>exact h
 | b2s x=>
   simp only [fO] at h ⊢
   split at h
   ·cases h
   ·rename_i hns
    cases hs:bn obj 1 (x.ev G get) with
    | none=>rw [hs] at h; cases h
    | some p=>
      obtain ⟨rows,rd⟩:=p
      rw [hs] at h; dsimp only at h
      have hh:e.rd=rd:=by
       split at h
       ·cases h; rfl
       ·cases h
      rw [j6 hs (fun q hq=>ho q (by rw [hh]; exact hq))]
      dsimp only
      rw [← h]
      try (split <;> first | rfl | (rename_i s hx; exact absurd hx (hns s)))
theorem II {x:LV} {o:Nat} {ob:aH} {d:DV} (h:qV obj x=some (o,ob,d)) (ho:obj' o=obj o):qV obj' x=some (o,ob,d):=by
 unfold qV at h ⊢
 split at h
 ·rename_i o1 n e lo len
  have e1:o1=o:=by
   split at h
   ·split at h
    ·cases h; rfl
    ·cases h
   ·cases h
  subst e1
  rw [ho]; exact h
 ·cases h
theorem QT {i:I} {e:fu} (h:cI G get obj base i=some e) (ho:∀ o∈e.rd,obj' o=obj o):cI G get obj' base i=some e:=by
 cases i with
 | YQ et aS parts=>
   simp only [cI] at h ⊢
   cases hr:rowsOf G get aS parts with
   | some rows=>rw [hr] at h; exact h
   | none=>
     rw [hr] at h; dsimp only at h ⊢
     cases hx:zD G get parts with
     | none=>rw [hx] at h; exact h
     | some x=>
       rw [hx] at h; dsimp only at h ⊢
       split at h
       ·rename_i h1
        rw [if_pos h1]
        split at h
        ·rename_i o ob d hf
         cases h
         rw [II hf (ho o (by simp))]
        ·cases h
       ·cases h
 | ld1 x=>
   simp only [cI] at h ⊢
   cases hx:x.ev G get with
   | ptr o col=>
     rw [hx] at h; dsimp only at h ⊢
     have:e.rd=[o]:=by
      (repeat' split at h) <;> (try (cases h; done)) <;> cases h <;> rfl
     rw [ho o (by simp [this])]; exact h
   | rp o n aS row col=>
     rw [hx] at h; dsimp only at h ⊢
     have:e.rd=[o]:=by
      (repeat' split at h) <;> (try (cases h; done)) <;> cases h <;> rfl
     rw [ho o (by simp [this])]; exact h
   | _=>rw [hx] at h; exact h
 | Bi size x=>
   simp only [cI] at h ⊢
   cases hx:x.ev G get with
   | ptr o col=>
     rw [hx] at h; dsimp only at h ⊢
     have:e.rd=[o]:=by
      (repeat' split at h) <;> (try (cases h; done)) <;> cases h <;> rfl
     rw [ho o (by simp [this])]; exact h
   | rp o n aS row col=>
     rw [hx] at h; dsimp only at h ⊢
     have:e.rd=[o]:=by
      (repeat' split at h) <;> (try (cases h; done)) <;> cases h <;> rfl
     rw [ho o (by simp [this])]; exact h
   | _=>rw [hx] at h; exact h
 | st size x y=>
   simp only [cI] at h ⊢
   cases hy:(y.ev G get).cells with
   | none=>rw [hy] at h; exact h
   | some cs=>
     rw [hy] at h; dsimp only at h ⊢
     split at h
     ·rename_i hl
      rw [if_pos hl]
      cases hx:x.ev G get with
      | ptr o col=>
        rw [hx] at h; dsimp only at h ⊢
        have:e.rd=[o]:=by
         (repeat' split at h) <;> (try (cases h; done)) <;> cases h <;> rfl
        rw [ho o (by simp [this])]; exact h
      | rp o n aS row col=>
        rw [hx] at h; dsimp only at h ⊢
        have:e.rd=[o]:=by
         (repeat' split at h) <;> (try (cases h; done)) <;> cases h <;> rfl
        rw [ho o (by simp [this])]; exact h
      | _=>rw [hx] at h; exact h
     ·cases h
 | A3 aS x j=>
   simp only [cI] at h ⊢
   split at h
   ·rename_i k jj hj
    split at h
    ·rename_i h0
     rw [if_pos h0]
     cases hx:x.ev G get with
     | sl o n e' lo len=>
       rw [hx] at h; dsimp only at h ⊢
       have:e.rd=[o]:=by
        (repeat' split at h) <;> (try (cases h; done)) <;> cases h <;> rfl
       rw [ho o (by simp [this])]; exact h
     | d z=>rw [hx] at h; cases z <;> exact h
     | _=>rw [hx] at h; exact h
    ·cases h
   ·cases h
 | app et aS bytes x y=>
   simp only [cI] at h ⊢
   cases hs:bn obj aS (y.ev G get) with
   | none=>rw [hs] at h; cases h
   | some p=>
     obtain ⟨new,rd⟩:=p
     rw [hs] at h; dsimp only at h
     cases hx:x.ev G get with
     | sl o n e' lo len=>
       rw [hx] at h; dsimp only at h
       have hh:e.rd=o::rd:=by
        split at h
        ·split at h
         ·cases h; rfl
         ·cases h
        ·cases h
       rw [j6 hs (fun q hq=>ho q (by rw [hh]; exact List.mem_cons_of_mem _ hq))]
       dsimp only
       rw [ho o (by simp [hh])]; exact h
     | d z=>
       have hrd:e.rd=rd:=by
        rw [hx] at h
        (repeat' split at h) <;> (try contradiction) <;> (try (cases h; done)) <;> cases h <;> rfl
       have hsr:bn obj' aS (y.ev G get)=some (new,rd):=j6 hs (by rw [← hrd]; exact ho)
       rw [hsr]; dsimp only
       rw [← h,hx]
       cases z with
       | val v=>
         cases v with
         | slice a n c=>cases a <;> cases n <;> cases c <;> rfl
         | _=>rfl
       | _=>rfl
     | _=>rw [hx] at h; cases h
 | more m=>exact QO h ho
 | _=>exact h
mutual
theorem GH {ρ Z:List Nat} (hZ:∀ z∈Z,obj' z=obj z):∀ (x y:LV),ah obj ρ Z x y→ah obj' ρ Z x y:=by
 intro x y h
 cases x with
 | sl o n e l k=>
   cases y with
   | d y=>
     cases y with
     | dH e' rs=>
       simp only [ah] at h ⊢
       refine ⟨h.1,?_⟩
       have h2:=h.2
       have hoZ:o∈Z:=by
        unfold bG at h2
        split at h2
        ·exact h2.1
        ·exact h2.1
        ·exact h2.elim
       unfold bG at h2 ⊢
       rw [hZ o hoZ]; exact h2
     | _=>simp [ah] at h
   | top=>simp [ah]
   | sl _ _ _ _ _=>simp only [ah] at h ⊢; exact h
   | _=>simp [ah] at h
 | agg xs=>
   cases y with
   | agg ys=>simp only [ah] at h ⊢; exact jU hZ xs ys h
   | top=>simp [ah]
   | _=>simp [ah] at h
 | dJ xs=>
   cases y with
   | dJ ys=>simp only [ah] at h ⊢; exact jU hZ xs ys h
   | top=>simp [ah]
   | _=>simp [ah] at h
 | fn f a b=>
   cases y with
   | fn f' a' b'=>simp only [ah] at h ⊢; exact ⟨h.1,jU hZ a a' h.2.1,jU hZ b b' h.2.2⟩
   | top=>simp [ah]
   | _=>simp [ah] at h
 | fW t x=>
   cases y with
   | fW t' y=>simp only [ah] at h ⊢; exact ⟨h.1,GH hZ x y h.2⟩
   | top=>simp [ah]
   | _=>simp [ah] at h
 | d x=>
   cases y with
   | d y=>simp only [ah] at h ⊢; exact h
   | top=>simp [ah]
   | fn f' a' b'=>cases x <;> first | (simp only [ah] at h ⊢; exact h) | (simp [ah] at h)
   | _=>cases x <;> simp [ah] at h
 | yl o=>cases y <;> first | (simp only [ah] at h ⊢; exact h) | (simp [ah] at h ⊢)
 | mr o=>cases y <;> first | (simp only [ah] at h ⊢; exact h) | (simp [ah] at h ⊢)
 | ptr o c=>cases y <;> first | (simp only [ah] at h ⊢; exact h) | (simp [ah] at h ⊢)
 | rp o n e r c=>cases y <;> first | (simp only [ah] at h ⊢; exact h) | (simp [ah] at h ⊢)
 | ip r c=>cases y <;> first | (simp only [ah] at h ⊢; exact h) | (simp [ah] at h ⊢)
 | top=>cases y <;> first | (simp only [ah] at h ⊢; exact h) | (simp [ah] at h ⊢)
 | dQ=>cases y <;> first | (simp only [ah] at h ⊢; done) | (simp only [ah] at h ⊢; exact h) | (simp [ah] at h ⊢)
theorem jU {ρ Z:List Nat} (hZ:∀ z∈Z,obj' z=obj z):∀ (xs ys:List LV),ag obj ρ Z xs ys→ag obj' ρ Z xs ys
 | [],[],_=>by simp [ag]
 | x::xs,y::ys,h=>by
   simp only [ag] at h ⊢
   exact ⟨GH hZ x y h.1,jU hZ xs ys h.2⟩
 | [],_::_,h=>by simp [ag] at h
 | _::_,[],h=>by simp [ag] at h
end
theorem tq:∀ {Z:List Nat},(∀ z∈Z,obj' z=obj z)→gE obj' Z=gE obj Z
 | [],_=>rfl
 | z::Z,h=>by
   simp only [gE]
   rw [h z (by simp),tq (fun y hy=>h y (by simp [hy]))]
theorem k9.local {i:I} {e:fu} (h:k9 P G get obj base i e) (hg:∀ t∈i.tmps,get' t=get t) (ho:∀ o∈e.rd,obj' o=obj o):k9 P G get' obj' base i e:=by
 by_cases hi:∃ f args,i=.call f args
 ·obtain ⟨f,args,rfl⟩:=hi
  simp only [I.tmps,List.mem_append] at hg
  simp only [k9] at h ⊢
  rw [bU.de (fun t ht=>hg t (.inl ht)),n_ (fun t ht=>hg t (.inr ht))]
  split at h
  ·rename_i k fs cs hc
   obtain ⟨ρ,Z,tmp,aX,aK,r,ax,keep,hkeep,hn,hz,Bt,hl,eX,hid,uP,FX,hle,D_,rfl⟩:=h.ex
   simp only [List.mem_append] at ho
   have hZ:∀ z∈Z,obj' z=obj z:=fun z hz=>ho z (.inr hz)
   refine ⟨⟨ρ,Z,tmp,aX,aK,r,ax,keep,hkeep,hn,hz,fun z hz=>by rw [hZ z hz]; exact Bt z hz,hl,fun i o oo=>?_,hid,jU hZ _ _ uP,FX,hle,D_,by rw [tq hZ]⟩⟩
   obtain ⟨ob,k1,k2⟩:=eX i o oo
   exact ⟨ob,k1,by rw [ho o (.inl (List.mem_of_getElem? oo))]; exact k2⟩
  ·exact h.elim
 ·have e1:∀ get obj,k9 P G get obj base i e=(cI G get obj base i=some e):=fun get obj=>by
   cases i <;> first | rfl | (exfalso; exact hi ⟨_,_,rfl⟩)
  rw [e1] at h ⊢
  rw [QU hg]
  exact QT h ho
theorem fA.local {f:Nat} {args args':List LV} {p:Value} {e:fu} (h:fA P G f args obj base p e) (ha:args'=args) (ho:∀ o∈e.rd,obj' o=obj o):fA P G f args' obj' base p e:=by
 subst ha
 obtain ⟨ρ,Z,aX,aK,ax,hn,hz,Bt,hl,eX,hid,uP,hle,D_,rfl⟩:=h.ex
 simp only [List.mem_append] at ho
 have hZ:∀ z∈Z,obj' z=obj z:=fun z hz=>ho z (.inr hz)
 refine ⟨⟨ρ,Z,aX,aK,ax,hn,hz,fun z hz=>by rw [hZ z hz]; exact Bt z hz,hl,fun i o oo=>?_,hid,jU hZ _ _ uP,hle,D_,by rw [tq hZ]⟩⟩
 obtain ⟨ob,k1,k2⟩:=eX i o oo
 exact ⟨ob,k1,by rw [ho o (.inl (List.mem_of_getElem? oo))]; exact k2⟩
end
end Dv
namespace Dv
open Go
structure iP where
 pre:List Nat
 rd:List Nat
 wr:List Nat
def ei.tr (o:ei):List Nat:=o.op.tmps++(match o.guard with | some (g,_)=>[g] | none=>[])
def Ft:Nat→List aH→List (Nat×aH)
 | _,[]=>[]
 | k,ob::r=>(k,ob)::Ft (k+1) r
theorem uz:∀ (l:List aH) (k:Nat) (obj:Nat→cF),qN k l obj=cV (Ft k l) obj
 | [],_,_=>rfl
 | ob::r,k,obj=>by simp only [qN,Ft,cV,uz r]
theorem JV:∀ (l:List aH) (k j:Nat),j<l.length→k+j∈(Ft k l).map (·.1)
 | [],_,_,h=>by simp at h
 | ob::r,k,0,_=>by simp [Ft]
 | ob::r,k,j+1,h=>by
   have:=JV r (k+1) j (by simpa using h)
   simp only [Ft,List.map_cons,List.mem_cons]
   right
   rw [show k+(j+1)=k+1+j by omega]; exact this
def fu.owned (base:Nat) (e:fu):List (Nat×aH):=Ft base e.nw++e.wr
section
variable (P:Program) (G:Nat→Option (List DV))
abbrev YO:=List LV→List (Option aH)→LV→(LV→Bool→List (Option aH)→Prop)→Prop
def rN:YO:=fun _ _ _ _=>False
def vcY (Y:YO) (fv:LV) (as:List LV) (dst:Option Nat) (s:St) (K:St→Prop):Prop:=match fv with
 | .yl oy=>Y (.yl oy::as) s.af (s.get YS) (fun ys b aA=>K ⟨dY dst (.bool b) ((YS,ys)::s.env),aA⟩)
 | _=>False
def yI (Y:YO) (X:Value→fu→St→Prop) (o:ei) (s:St) (K:St→fu→Prop):Prop:=
 match o.op with
 | .call f args=>match callee (f.ev G s.get) with
   | some (k,fs,cs)=>(∃ e,cw P G k (fs++args.map (·.ev G s.get)++cs) s.obj s.af.length e∧K (s.app o.dst e) e)∨
     (∃ p e,fA P G k (fs++args.map (·.ev G s.get)++cs) s.obj s.af.length p e∧X p e (s.app none e))
   | none=>vcY Y (f.ev G s.get) (args.map (·.ev G s.get)) o.dst s (fun s'=>K s' { r:=.top })
 | i=>match cI G s.get s.obj s.af.length i with
   | some e=>K (s.app o.dst e) e
   | none=>False
def yH (Y:YO) (X:Value→fu→St→Prop) (o:ei) (s:St) (K:St→fu→Prop) (K0:St→Prop):Prop:=
 match o.guard with
 | none=>yI P G Y X o s K
 | some (g,want)=>match s.get g with
   | .d (.val (.bool b))=>if b=want then yI P G Y X o s K else K0 (s.put o.dst .undef)
   | .d (.val (.tuple _))=>K0 (s.put o.dst .undef)
   | _=>False
def gG (Y:YO) (X:Value→St→Prop):List ei→St→(St→Prop)→Prop
 | [],s,K=>K s
 | o::os,s,K=>yH P G Y (fun p _ s'=>X p s') o s (fun s' _=>gG Y X os s' K) (fun s'=>gG Y X os s' K)
def AL (x y:iP):Bool:=x.wr.any (fun o=>y.rd.contains o||y.wr.contains o)||y.wr.any (fun o=>x.rd.contains o)
def indep (log:List iP):Bool:=
 (log.all fun e=>e.wr.isEmpty)||(List.range log.length).all fun j=>match log[j]? with
  | none=>true
  | some y=>(List.range j).all fun i=>match log[i]? with
    | none=>true
    | some x=>y.pre.contains i||!AL x y
def Fm (log:List iP) (p:Nat) (pre:List Nat):Bool:=
 (pre.all fun i=>decide (i<p))&&(List.range log.length).all fun i=>pre.contains i||(match log[i]? with | some x=>x.wr.isEmpty | none=>true)
def pW (p:Nat) (pre:List Nat):List ei→St→List iP→Prop
 | [],_,log=>indep log=true∧Fm log p pre=true
 | o::os,s,log=>if o.pre.contains p=true then pW p pre os (s.put o.dst .top) (log++[⟨o.pre,[],[]⟩])
   else yH P G rN (fun _ _ _=>False) o s (fun s' e=>pW p pre os s' (log++[⟨o.pre,e.rd,(e.owned s.af.length).map (·.1)⟩])) (fun s'=>pW p pre os s' (log++[⟨o.pre,[],[]⟩]))
def eV (X:Value→St→Prop):List ei→St→List iP→(St→List iP→Prop)→Prop
 | [],s,log,K=>K s log
 | o::os,s,log,K=>yH P G rN (fun p e s'=>X p ⟨[],s'.af⟩∧pW P G log.length o.pre os (s.put o.dst .top) (log++[⟨o.pre,e.rd,[]⟩])) o s
    (fun s' e=>eV X os s' (log++[⟨o.pre,e.rd,(e.owned s.af.length).map (·.1)⟩]) K) (fun s'=>eV X os s' (log++[⟨o.pre,[],[]⟩]) K)
end
theorem Aa {log:List iP} (h:indep log=true) {i j:Nat} {x y:iP} (hi:log[i]? = some x) (hj:log[j]? = some y) (hij:i<j) (hc:AL x y=true):i∈y.pre:=by
 unfold indep at h
 rw [Bool.or_eq_true] at h
 rcases h with h | h
 ·rw [List.all_eq_true] at h
  have h1:=h x (List.mem_of_getElem? hi)
  have h2:=h y (List.mem_of_getElem? hj)
  simp only [List.isEmpty_iff] at h1 h2
  simp [AL,h1,h2] at hc
 ·rw [List.all_eq_true] at h
  have hjl:=(List.getElem?_eq_some_iff.1 hj).1
  have h1:=h j (by simpa using hjl)
  rw [hj] at h1
  dsimp only at h1
  rw [List.all_eq_true] at h1
  have h2:=h1 i (by simpa using hij)
  rw [hi] at h2
  simp only [hc,Bool.not_true,Bool.or_false,List.contains_iff_mem] at h2
  exact h2
def Gm (N:Nat):Option Nat→Bool
 | none=>true
 | some d=>decide (d<N)
def u_ (N:Nat) (ops:Array Oper):Option (Nat×Bool)→Option (Option (Nat×Bool))
 | none=>some none
 | some (j,want)=>match ops[j]? with
   | some oj=>match oj.dst with
     | some t=>if t<N then some (some (t,want)) else none
     | none=>none
   | none=>none
def gx (P:Program) (N:Nat) (ops:Array Oper) (o:Oper) (pre:List Nat):Option ei:=
 if Gm N o.dst then (match mW P o.op,u_ N ops o.guard with
  | some i,some g=>some ⟨o.dst,i,g,pre⟩
  | _,_=>none) else none
def rU (P:Program) (N:Nat) (ops:Array Oper):List Oper→List (List Nat)→Option (List ei)
 | [],_=>some []
 | o::os,ps=>match gx P N ops o (ps.headD []),rU P N ops os ps.tail with
   | some x,some xs=>some (x::xs)
   | _,_=>none
theorem mV {P:Program} {N:Nat} {ops:Array Oper} : ∀ {os:List Oper} {ps:List (List Nat)} {fN:List ei},rU P N ops os ps=some fN→fN.length=os.length∧∀ (i:Nat) (o:Oper),os[i]? = some o→∃ io,fN[i]? = some io∧gx P N ops o io.pre=some io
 | [],ps,fN,h=>by simp only [rU] at h; cases h; exact ⟨rfl,fun i o h=>by simp at h⟩
 | o::os,ps,fN,h=>by
   simp only [rU] at h
   split at h
   ·rename_i x xs h1 h2
    cases h
    obtain ⟨k1,k2⟩:=mV h2
    refine ⟨by simp [k1],fun i o' hi=>?_⟩
    cases i with
    | zero=>
      simp at hi; subst hi
      refine ⟨x,by simp,?_⟩
      have:x.pre=ps.headD []:=by
       unfold gx at h1
       split at h1
       ·split at h1
        ·cases h1; rfl
        ·cases h1
       ·cases h1
      rw [this]; exact h1
    | succ i=>simpa using k2 i o' (by simpa using hi)
   ·cases h
def direct (o:Oper):List Nat:=(o.after.toList.filter (Region.binds .any ·)).map (·.on)
def aaz (xs ys:List Nat):List Nat:=xs.foldl (fun acc x=>if acc.contains x then acc else acc++[x]) ys
def Zd (ops:List Oper):List (List Nat):=
 ops.foldl (fun acc o=>acc++[(direct o).foldl (fun s k=>aaz (k::acc.getD k []) s) []]) []
def Jd (x y:ei):Bool:=match x.dst with
 | some t=>y.tr.contains t||y.dst==some t
 | none=>false
def Er (x y:ei):Bool:=match y.dst with
 | some t=>x.tr.contains t
 | none=>false
def ON (ops:List Oper) (fN:List ei):Bool:=
 (List.range ops.length).all fun j=>match ops[j]?,fN[j]? with
  | some o,some io=>((direct o).all fun k=>decide (k<j))&&
    (io.pre.all fun i=>decide (i<ops.length)&&(direct o).any fun k=>k==i||(match fN[k]? with | some z=>z.pre.contains i | none=>false))&&
    ((List.range j).all fun i=>match fN[i]? with | some x=>io.pre.contains i||!(Jd x io||Er x io) | none=>false)
  | _,_=>false
def mU (P:Program) (N:Nat) (ops:Array Oper) (draw:Bool):Option (List ei):=
 if draw then (match rU P N ops ops.toList (Zd ops.toList) with
  | some fN=>if P.follows .mixedOrders&&ON ops.toList fN then some fN else none
  | none=>none)
 else rU P N ops ops.toList []
def eL (o:ei) (s:St):Option Bool:=match o.guard with
 | none=>some true
 | some (g,want)=>match s.get g with
   | .d (.val (.bool b))=>some (b==want)
   | .d (.val (.tuple _))=>some false
   | _=>none
def sJ (o:ei) (base:Nat) (e:fu):rA:={ tr:=o.tr,td:=o.dst,r:=e.r,rd:=e.rd,ow:=e.owned base }
def uY (o:ei):rA:={ tr:=o.tr,td:=o.dst,r:=.undef,rd:=[],ow:=[] }
def sM (P:Program) (G:Nat→Option (List DV)) (o:ei) (s:St) (ev:rA) (s':St):Prop:=
 (eL o s=some true∧∃ e,k9 P G s.get s.obj s.af.length o.op e∧ev=sJ o s.af.length e∧s'=s.app o.dst e)∨
 (eL o s=some false∧ev=uY o∧s'=s.put o.dst .undef)
section
variable {P:Program} {G:Nat→Option (List DV)}
def GQ (P:Program) (G:Nat→Option (List DV)) (o:ei) (s:St) (p:Value) (e:fu):Prop:=
 eL o s=some true∧∃ f args k fs cs,o.op=.call f args∧callee (f.ev G s.get)=some (k,fs,cs)∧fA P G k (fs++args.map (·.ev G s.get)++cs) s.obj s.af.length p e
def YAt (G:Nat→Option (List DV)) (Y:YO) (o:ei) (s:St) (K:St→Prop):Prop:=
 eL o s=some true∧∃ f args oy,o.op=.call f args∧f.ev G s.get=.yl oy∧Y (.yl oy::args.map (·.ev G s.get)) s.af (s.get YS) (fun ys b aA=>K ⟨dY o.dst (.bool b) ((YS,ys)::s.env),aA⟩)
theorem RC {Y:YO} {X:Value→fu→St→Prop} {o:ei} {s:St} {K:St→fu→Prop} (h:yI P G Y X o s K):(∃ e,k9 P G s.get s.obj s.af.length o.op e∧K (s.app o.dst e) e)∨
  (∃ p e,(∃ f args k fs cs,o.op=.call f args∧callee (f.ev G s.get)=some (k,fs,cs)∧fA P G k (fs++args.map (·.ev G s.get)++cs) s.obj s.af.length p e)∧X p e (s.app none e))∨
  (∃ f args oy,o.op=.call f args∧f.ev G s.get=.yl oy∧Y (.yl oy::args.map (·.ev G s.get)) s.af (s.get YS) (fun ys b aA=>K ⟨dY o.dst (.bool b) ((YS,ys)::s.env),aA⟩ { r:=.top })):=by
 unfold yI at h
 split at h
 ·rename_i f args hop
  split at h
  ·rename_i k fs cs hc
   rcases h with ⟨e,h1,h2⟩ | ⟨p,e,h1,h2⟩
   ·refine .inl ⟨e,?_,h2⟩
    rw [hop]
    simp only [k9,hc]; exact h1
   ·exact .inr (.inl ⟨p,e,⟨f,args,k,fs,cs,hop,hc,h1⟩,h2⟩)
  ·unfold vcY at h
   split at h
   ·rename_i oy ej
    exact .inr (.inr ⟨f,args,oy,hop,ej,h⟩)
   ·exact h.elim
 ·rename_i i hni
  split at h
  ·rename_i e he
   refine .inl ⟨e,?_,h⟩
   revert hni he
   cases o.op <;> intro hni he <;> first | exact he | (exfalso; exact hni _ _ rfl)
  ·exact h.elim
theorem BE {Y:YO} {X:Value→fu→St→Prop} {o:ei} {s:St} {K:St→fu→Prop} {K0:St→Prop} (h:yH P G Y X o s K K0) :
  (eL o s=some true∧∃ e,k9 P G s.get s.obj s.af.length o.op e∧K (s.app o.dst e) e)∨(eL o s=some false∧K0 (s.put o.dst .undef))∨(∃ p e,GQ P G o s p e∧X p e (s.app none e))∨YAt G Y o s (fun s'=>K s' { r:=.top }):=by
 have key:∀ {s:St},eL o s=some true→yI P G Y X o s K→(eL o s=some true∧∃ e,k9 P G s.get s.obj s.af.length o.op e∧K (s.app o.dst e) e)∨(eL o s=some false∧K0 (s.put o.dst .undef))∨(∃ p e,GQ P G o s p e∧X p e (s.app none e))∨YAt G Y o s (fun s'=>K s' { r:=.top }):=fun hw h=>by
  rcases RC h with h | ⟨p,e,h1,h2⟩ | h
  ·exact .inl ⟨hw,h⟩
  ·exact .inr (.inr (.inl ⟨p,e,⟨hw,h1⟩,h2⟩))
  ·exact .inr (.inr (.inr ⟨hw,h⟩))
 unfold yH at h
 split at h
 ·rename_i hg
  exact key (by unfold eL; rw [hg]) h
 ·rename_i g want hg
  split at h
  ·rename_i b hb
   by_cases hbw:b=want
   ·rw [if_pos hbw] at h
    exact key (by unfold eL; rw [hg]; simp [hb,hbw]) h
   ·rw [if_neg hbw] at h
    exact .inr (.inl ⟨by unfold eL; rw [hg]; simp [hb,hbw],h⟩)
  ·rename_i v hb
   exact .inr (.inl ⟨by unfold eL; rw [hg]; simp [hb],h⟩)
  ·exact h.elim
theorem EG {X:Value→fu→St→Prop} {o:ei} {s:St} {K:St→fu→Prop} {K0:St→Prop} (h:yH P G rN X o s K K0) :
  (eL o s=some true∧∃ e,k9 P G s.get s.obj s.af.length o.op e∧K (s.app o.dst e) e)∨(eL o s=some false∧K0 (s.put o.dst .undef))∨(∃ p e,GQ P G o s p e∧X p e (s.app none e)):=by
 rcases BE h with h | h | h | ⟨_,f,args,oy,_,_,h⟩
 ·exact .inl h
 ·exact .inr (.inl h)
 ·exact .inr (.inr h)
 ·exact h.elim
theorem St.Vl (s:St) (dst:Option Nat) (e:fu):(s.app dst e).get=gD dst e.r s.get:=Am dst e.r s.env
theorem St.Eb (s:St) (dst:Option Nat) (r:LV):(s.put dst r).get=gD dst r s.get:=Am dst r s.env
theorem St.Sl {s:St} {o:ei} {e:fu} (h:k9 P G s.get s.obj s.af.length o.op e):(s.app o.dst e).obj=cV (e.owned s.af.length) s.obj:=by
 have hl:∀ p∈e.wr,p.1<s.af.length:=fun p hp=>by
  obtain ⟨ob,eX⟩:=h.tS p hp
  exact yt eX
 funext q
 show aD (fQ e.wr s.af++e.nw.map some) q=_
 rw [KR s.af e hl]
 simp only [bL,fu.owned,iQ,uz]
 rfl
theorem sM.next {o:ei} {s s':St} {ev:rA} (h:sM P G o s ev s'):s'.get=gD ev.td ev.r s.get∧s'.obj=cV ev.ow s.obj:=by
 rcases h with ⟨_,e,he,rfl,rfl⟩ | ⟨_,rfl,rfl⟩
 ·exact ⟨St.Vl ..,St.Sl he⟩
 ·exact ⟨St.Eb ..,rfl⟩
def KC (o:ei):rA:={ tr:=o.tr,td:=o.dst,r:=.top,rd:=[],ow:=[] }
def IT (o:ei) (e:fu):rA:={ tr:=o.tr,td:=o.dst,r:=.top,rd:=e.rd,ow:=[] }
def GP (P:Program) (G:Nat→Option (List DV)) (p:Nat) (o:ei) (s:St) (ev:rA) (s':St):Prop:=
 (p∈o.pre∧ev=KC o∧s'=s.put o.dst .top)∨(p∉o.pre∧sM P G o s ev s')
theorem GP.next {p:Nat} {o:ei} {s s':St} {ev:rA} (h:GP P G p o s ev s'):s'.get=gD ev.td ev.r s.get∧s'.obj=cV ev.ow s.obj:=by
 rcases h with ⟨_,rfl,rfl⟩ | ⟨_,h⟩
 ·exact ⟨St.Eb ..,rfl⟩
 ·exact h.next
def acG (P:Program) (G:Nat→Option (List DV)) (p:Nat) (pre:List Nat) (os:List ei) (s:St) (log:List iP):Prop:=
 ∃ (ss:Nat→St) (es:Nat→rA) (gT:List iP),ss 0=s∧(∀ (i:Nat) (o:ei),os[i]? = some o→GP P G p o (ss i) (es i) (ss (i+1)))∧(indep gT=true∧Fm gT p pre=true)∧
   gT.length=log.length+os.length∧(∀ (i:Nat) (o:ei),os[i]? = some o→gT[log.length+i]? = some ⟨o.pre,(es i).rd,(es i).wr⟩)∧(∀ i,i<log.length→gT[i]? = log[i]?)
theorem BD {p:Nat} {pre:List Nat} : ∀ (os:List ei) (s:St) (log:List iP),pW P G p pre os s log→acG P G p pre os s log
 | [],s,log,h=>⟨fun _=>s,fun _=>uY ⟨none,.mv (.t 0),none,[]⟩,log,rfl,fun i o hi=>by simp at hi,h,by simp,fun i o hi=>by simp at hi,fun _ _=>rfl⟩
 | o::os,s,log,h=>by
   have cons:∀ (s1:St) (ev:rA),GP P G p o s ev s1→pW P G p pre os s1 (log++[⟨o.pre,ev.rd,ev.wr⟩])→acG P G p pre (o::os) s log:=fun s1 ev hst hk=>by
    obtain ⟨ss,es,gT,h0,hs,hK,hlen,oQ,hold⟩:=BD os _ _ hk
    refine ⟨fun i=>match i with | 0=>s | i+1=>ss i,fun i=>match i with | 0=>ev | i+1=>es i,gT,rfl,fun i o' hi=>?_,hK,?_,fun i o' hi=>?_,fun i hi=>?_⟩
    ·cases i with
     | zero=>
       simp at hi; subst hi
       rw [← h0] at hst; exact hst
     | succ i=>exact hs i o' (by simpa using hi)
    ·simp at hlen ⊢; omega
    ·cases i with
     | zero=>
       simp at hi; subst hi
       rw [Nat.add_zero,hold _ (by simp)]
       simp
     | succ i=>
       have:=oQ i o' (by simpa using hi)
       rw [← this]; congr 1; simp; omega
    ·rw [hold i (by simp; omega),List.getElem?_append_left hi]
   simp only [pW] at h
   split at h
   ·rename_i hp
    exact cons _ (KC o) (.inl ⟨by simpa using hp,rfl,rfl⟩) h
   ·rename_i hp
    have hp:p∉o.pre:=by simpa using hp
    rcases EG h with ⟨hw,e,he,hk⟩ | ⟨hw,hk⟩ | ⟨_,_,_,hk⟩
    ·exact cons _ (sJ o s.af.length e) (.inr ⟨hp,.inl ⟨hw,e,he,rfl,rfl⟩⟩) hk
    ·exact cons _ (uY o) (.inr ⟨hp,.inr ⟨hw,rfl,rfl⟩⟩) hk
    ·exact hk.elim
def pR (P:Program) (G:Nat→Option (List DV)) (X:Value→St→Prop) (p i:Nat) (o:ei) (s:St) (ev:rA) (s':St):Prop:=
 if i<p then sM P G o s ev s' else if i=p then (∃ v e,GQ P G o s v e∧X v ⟨[],(s.app none e).af⟩∧ev=IT o e∧s'=s.put o.dst .top) else GP P G p o s ev s'
theorem pR.next {X:Value→St→Prop} {p i:Nat} {o:ei} {s s':St} {ev:rA} (h:pR P G X p i o s ev s'):s'.get=gD ev.td ev.r s.get∧s'.obj=cV ev.ow s.obj:=by
 unfold pR at h
 split at h
 ·exact h.next
 ·split at h
  ·obtain ⟨_,_,_,_,rfl,rfl⟩:=h
   exact ⟨St.Eb ..,rfl⟩
  ·exact h.next
theorem pR.tr {X:Value→St→Prop} {p i:Nat} {o:ei} {s s':St} {ev:rA} (h:pR P G X p i o s ev s'):ev.tr=o.tr∧ev.td=o.dst:=by
 have hR:∀ {ev:rA},sM P G o s ev s'→ev.tr=o.tr∧ev.td=o.dst:=fun h=>by
  rcases h with ⟨_,e,_,h1,_⟩ | ⟨_,h1,_⟩ <;> rw [h1] <;> exact ⟨rfl,rfl⟩
 unfold pR at h
 split at h
 ·exact hR h
 ·split at h
  ·obtain ⟨_,_,_,_,rfl,rfl⟩:=h
   exact ⟨rfl,rfl⟩
  ·rcases h with ⟨_,rfl,_⟩ | ⟨_,h⟩
   ·exact ⟨rfl,rfl⟩
   ·exact hR h
def acF (P:Program) (G:Nat→Option (List DV)) (K:St→List iP→Prop) (os:List ei) (s:St) (log:List iP):Prop:=
 ∃ (ss:Nat→St) (es:Nat→rA) (gT:List iP),ss 0=s∧(∀ (i:Nat) (o:ei),os[i]? = some o→sM P G o (ss i) (es i) (ss (i+1)))∧K (ss os.length) gT∧
   gT.length=log.length+os.length∧(∀ (i:Nat) (o:ei),os[i]? = some o→gT[log.length+i]? = some ⟨o.pre,(es i).rd,(es i).wr⟩)∧(∀ i,i<log.length→gT[i]? = log[i]?)
def acE (P:Program) (G:Nat→Option (List DV)) (X:Value→St→Prop) (os:List ei) (s:St) (log:List iP):Prop:=
 ∃ (p:Nat) (op:ei) (ss:Nat→St) (es:Nat→rA) (gT:List iP),log.length≤p∧os[p-log.length]? = some op∧ss 0=s∧(∀ (i:Nat) (o:ei),os[i]? = some o→pR P G X p (log.length+i) o (ss i) (es i) (ss (i+1)))∧(indep gT=true∧Fm gT p op.pre=true)∧
   gT.length=log.length+os.length∧(∀ (i:Nat) (o:ei),os[i]? = some o→gT[log.length+i]? = some ⟨o.pre,(es i).rd,(es i).wr⟩)∧(∀ i,i<log.length→gT[i]? = log[i]?)
theorem yG {X:Value→St→Prop} {K:St→List iP→Prop} : ∀ (os:List ei) (s:St) (log:List iP),eV P G X os s log K→acF P G K os s log∨acE P G X os s log
 | [],s,log,h=>.inl ⟨fun _=>s,fun _=>uY ⟨none,.mv (.t 0),none,[]⟩,log,rfl,fun i o hi=>by simp at hi,h,by simp,fun i o hi=>by simp at hi,fun _ _=>rfl⟩
 | o::os,s,log,h=>by
   have cons:∀ (s1:St) (ev:rA),sM P G o s ev s1→eV P G X os s1 (log++[⟨o.pre,ev.rd,ev.wr⟩]) K→acF P G K (o::os) s log∨acE P G X (o::os) s log:=fun s1 ev hst hk=>by
    rcases yG os _ _ hk with ⟨ss,es,gT,h0,hs,hK,hlen,oQ,hold⟩ | ⟨p,op,ss,es,gT,lZ,hop,h0,hs,hK,hlen,oQ,hold⟩
    ·refine .inl ⟨fun i=>match i with | 0=>s | i+1=>ss i,fun i=>match i with | 0=>ev | i+1=>es i,gT,rfl,fun i o' hi=>?_,hK,?_,fun i o' hi=>?_,fun i hi=>?_⟩
     ·cases i with
      | zero=>
        simp at hi; subst hi
        rw [← h0] at hst; exact hst
      | succ i=>exact hs i o' (by simpa using hi)
     ·simp at hlen ⊢; omega
     ·cases i with
      | zero=>
        simp at hi; subst hi
        rw [Nat.add_zero,hold _ (by simp)]
        simp
      | succ i=>
        have:=oQ i o' (by simpa using hi)
        rw [← this]; congr 1; simp; omega
     ·rw [hold i (by simp; omega),List.getElem?_append_left hi]
    ·simp only [List.length_append,List.length_cons,List.length_nil] at lZ hop hs hlen oQ
     refine .inr ⟨p,op,fun i=>match i with | 0=>s | i+1=>ss i,fun i=>match i with | 0=>ev | i+1=>es i,gT,by omega,?_,rfl,fun i o' hi=>?_,hK,?_,fun i o' hi=>?_,fun i hi=>?_⟩
     ·rw [show p-log.length=(p-(log.length+1))+1 by omega]; simpa using hop
     ·cases i with
      | zero=>
        simp at hi; subst hi
        unfold pR
        rw [if_pos (by omega)]
        rw [← h0] at hst; exact hst
      | succ i=>
        have:=hs i o' (by simpa using hi)
        rw [show log.length+(0+1)+i=log.length+(i+1) by omega] at this
        exact this
     ·simp; omega
     ·cases i with
      | zero=>
        simp at hi; subst hi
        rw [Nat.add_zero,hold _ (by simp)]
        simp
      | succ i=>
        have:=oQ i o' (by simpa using hi)
        rw [← this]; congr 1; omega
     ·rw [hold i (by simp; omega),List.getElem?_append_left hi]
   simp only [eV] at h
   rcases EG h with ⟨hw,e,he,hk⟩ | ⟨hw,hk⟩ | ⟨v,e,PU,hX,hk⟩
   ·exact cons _ (sJ o s.af.length e) (.inl ⟨hw,e,he,rfl,rfl⟩) hk
   ·exact cons _ (uY o) (.inr ⟨hw,rfl,rfl⟩) hk
   ·obtain ⟨ss,es,gT,h0,hs,hK,hlen,oQ,hold⟩:=BD os _ _ hk
    simp only [List.length_append,List.length_cons,List.length_nil] at hs hlen oQ
    refine .inr ⟨log.length,o,fun i=>match i with | 0=>s | i+1=>ss i,fun i=>match i with | 0=>IT o e | i+1=>es i,gT,Nat.le_refl _,by simp,rfl,fun i o' hi=>?_,hK,?_,fun i o' hi=>?_,fun i hi=>?_⟩
    ·cases i with
     | zero=>
       simp at hi; subst hi
       unfold pR
       rw [if_neg (by omega),if_pos (by omega)]
       exact ⟨v,e,PU,hX,rfl,h0⟩
     | succ i=>
       have:=hs i o' (by simpa using hi)
       unfold pR
       rw [if_neg (by omega),if_neg (by omega)]
       exact this
    ·simp; omega
    ·cases i with
     | zero=>
       simp at hi; subst hi
       rw [Nat.add_zero,hold _ (by simp)]
       simp [IT,rA.wr]
     | succ i=>
       have:=oQ i o' (by simpa using hi)
       rw [← this]; congr 1; omega
    ·rw [hold i (by simp; omega),List.getElem?_append_left hi]
end
structure At (G:Nat→Option (List DV)) (D:Dk) (N:Nat) (bu:Nat→cF) (J0:Nat→Prop) (ck:Nat→Nat→Option Nat) (w0:World) (get:Nat→LV) (obj:Nat→cF) (a:Act) (w:World):Prop where
 mk::
 ex:∃ J ι,Sim G D N J w ι a get obj∧Ext bu obj J0 J ck ι w0 w
section
variable {P:Program} {G:Nat→Option (List DV)} {D:Dk} {N:Nat} {bu:Nat→cF} {J0:Nat→Prop} {ck:Nat→Nat→Option Nat} {w0:World} {ops:Array Oper} {Q:Exit→Act→World→Prop} {ro:Option Nat} {nn:Nat}
theorem u9 {o:Oper} {i:I} (h:mW P o.op=some i) (hs:i≠.more .stk) (c:Call):o.op≠.defer c:=by
 intro hc
 rw [hc] at h
 have:mW P (.defer c)=some (.more .stk):=by
  have h1:AG P (.defer c)=none:=rfl
  simp only [mW,h1,cN,iG]
 rw [this] at h
 exact hs (Option.some.inj h).symm
theorem k9.aa0 {get:Nat→LV} {obj:Nat→cF} {base:Nat} {i:I} {e:fu} (h:k9 P G get obj base i e):i≠.more .stk:=by
 rintro rfl
 simp [k9,cI,fO] at h
theorem At.drew {get:Nat→LV} {obj:Nat→cF} {a:Act} {w:World} {n:Nat} (h:At G D N bu J0 ck w0 get obj a w):At G D N bu J0 ck w0 get obj a { w with drawn:=n }:=by
 obtain ⟨J,ι,S,E⟩:=h.ex
 have E1:Ext obj obj J J ι ι w { w with drawn:=n }:=⟨⟨rfl,rfl,rfl,Nat.le_refl _,fun _ _ _=>rfl,fun _ _=>rfl,fun _ h=>h,fun _ h=>.inl h,fun _ _ _ h=>h⟩,fun _ h=>.inl h⟩
 refine ⟨J,ι,⟨⟨fun o=>nI.keep S.store E1.ev (fun _=>rfl) (fun _ _=>rfl),S.store.inj,S.store.sn,S.store.jcell,fun g row hg=>?_⟩,fun t=>(S.env t).ev S.store E1.ev,S.size,S.defers.keep (E1.nc S.store),D.keep _ _ _ (E1.nc S.store) S.ys,S.lim⟩,E.trans E1⟩
 obtain ⟨h1,h2,h3⟩:=S.store.xV g row hg
 exact ⟨h1,h2.ev S.store E1.ev h1,h3⟩
theorem DB {o:Oper} {io:ei} (hc:gx P N ops o io.pre=some io) {s:St} {ev:rA} {s':St} (hst:sM P G io s ev s') {get:Nat→LV} {obj:Nat→cF}
  (hg:∀ t,t∈ev.tr∨ev.td=some t→get t=s.get t) (ho:∀ q,q∈ev.rd∨q∈ev.wr→obj q=s.obj q) {a:Act} {w:World} (hA:At G D N bu J0 ck w0 get obj a w) {K:Act→World→Prop}
  (hK:∀ a' w',At G D N bu J0 ck w0 (gD ev.td ev.r get) (cV ev.ow obj) a' w'→K a' w') :
  if Region.wanted o (yielded ops a.tmps) then o.wpIn (fz ro) nn P a w K Q else (∀ f,o.about P w a.eval=some f→(fz ro).fn f)∧K (a.put o.dst Go.undef) w:=by
 obtain ⟨J,ι,S,E⟩:=hA.ex
 obtain ⟨Qm,i,g,hi,hgd,oo⟩:Gm N o.dst=true∧∃ i g,mW P o.op=some i∧u_ N ops o.guard=some g∧io=⟨o.dst,i,g,io.pre⟩:=by
  unfold gx at hc
  split at hc
  ·rename_i hd
   split at hc
   ·rename_i i g h1 h2
    exact ⟨hd,i,g,h1,h2,(Option.some.inj hc).symm⟩
   ·cases hc
  ·cases hc
 have Vc:∀ d,o.dst=some d→d<N:=fun d hd=>by rw [hd] at Qm; simpa [Gm] using Qm
 have Qb:io.dst=o.dst:=by rw [oo]
 have D7:io.op=i:=by rw [oo]
 have Iz:io.guard=g:=by rw [oo]
 have htr:ev.tr=io.tr:=by rcases hst with ⟨_,e,_,rfl,_⟩ | ⟨_,rfl,_⟩ <;> rfl
 have htd:ev.td=o.dst:=by rcases hst with ⟨_,e,_,rfl,_⟩ | ⟨_,rfl,_⟩ <;> exact Qb
 -- RB it is wanted
 have Cu:∀ b,eL io s=some b→Region.wanted o (yielded ops a.tmps)=b:=by
  intro b hb
  unfold eL at hb
  rw [Iz] at hb
  cases Mq:o.guard with
  | none=>
    rw [Mq] at hgd
    simp only [u_] at hgd; cases hgd
    simp only [Region.wanted,Mq]
    exact Option.some.inj hb
  | some p=>
    obtain ⟨j,want⟩:=p
    rw [Mq] at hgd
    simp only [u_] at hgd
    split at hgd
    ·rename_i oj EA
     split at hgd
     ·rename_i t ht
      split at hgd
      ·rename_i htN
       cases hgd
       dsimp only at hb
       have hgt:get t=s.get t:=hg t (.inl (by rw [htr]; simp [ei.tr,Iz]))
       have uN:=S.env t
       rw [hgt] at uN
       have hval:a.tmps[t]? = some (a.tmps.getD t Go.undef):=by
        have:t<a.tmps.size:=by rw [S.size]; exact htN
        simp [this]
       simp only [Region.wanted,Mq,yielded,EA,Option.bind_some,ht,hval]
       split at hb
       ·rename_i b' hb'
        rw [hb'] at uN
        have:a.tmps.getD t Go.undef=.bool b':=uN
        rw [this]
        have:=Option.some.inj hb
        rw [← this]
        cases b' <;> cases want <;> rfl
       ·rename_i v hv
        rw [hv] at uN
        have:a.tmps.getD t Go.undef=.tuple v:=uN
        rw [this]
        have:=Option.some.inj hb
        rw [← this]; rfl
       ·cases hb
      ·cases hgd
     ·cases hgd
    ·cases hgd
 rcases hst with ⟨hw,e,he,rfl,rfl⟩ | ⟨hw,rfl,rfl⟩
 ·rw [Cu true hw,if_pos rfl]
  have he':k9 P G get obj s.af.length io.op e:=he.local (fun t ht=>hg t (.inl (by simp [sJ,ei.tr,ht]))) (fun q hq=>ho q (.inl hq))
  have hfree:∀ j,j<e.nw.length→obj (s.af.length+j)=.free:=fun j hj=>by
   rw [ho _ (.inr (by
    simp only [sJ,rA.wr,fu.owned,List.map_append,List.mem_append]
    exact .inl (JV _ _ _ hj)))]
   exact cR (by omega)
  rw [D7] at he'
  refine YL (u9 hi he'.aa0) (JD S.store S.env he' hfree hi K Q (fun v w' hAf=>hK _ _ ?_))
  obtain ⟨J',ι',S',E'⟩:=S.step (dst:=o.dst) Vc hAf
  refine ⟨J',ι',?_,?_⟩
  ·have e1:(sJ io s.af.length e).td=o.dst:=Qb
   rw [e1]
   have e2:cV (sJ io s.af.length e).ow obj=bL obj s.af.length e:=by
    simp only [sJ,fu.owned,iQ,bL,uz]
   rw [e2]; exact S'
  ·have e2:cV (sJ io s.af.length e).ow obj=bL obj s.af.length e:=by
    simp only [sJ,fu.owned,iQ,bL,uz]
   rw [e2]; exact E.trans E'
 ·rw [Cu false hw]
  simp only [Bool.false_eq_true,if_false]
  refine ⟨fun _ _=>trivial,hK _ _ ?_⟩
  obtain ⟨J',ι',S',E'⟩:=S.step (dst:=o.dst) Vc (bg.stay S.store (r:=.undef) (v:=Go.undef) rfl)
  exact ⟨J',ι',by rw [htd]; exact S',E.trans E'⟩
def VV (G:Nat→Option (List DV)) (bu:Nat→cF) (J0:Nat→Prop) (ck:Nat→Nat→Option Nat) (w0:World) (get:Nat→LV) (obj:Nat→cF) (a:Act) (w:World):Prop:=∃ J ι,aI G J w ι obj∧Ext bu obj J0 J ck ι w0 w∧∀ t,dm J w ι (get t) (a.tmps.getD t Go.undef)
theorem OG {o:Oper} {io:ei} (hc:gx P N ops o io.pre=some io) {s:St} {v:Value} {e:fu} (hp:GQ P G io s v e) {get:Nat→LV} {obj:Nat→cF}
  (hg:∀ t,t∈io.tr→get t=s.get t) (ho:obj=s.obj) {a:Act} {w:World} (hA:At G D N bu J0 ck w0 get obj a w) (K:Act→World→Prop)
  (hX:(D.xm=false→a.defers=D.ds)→∀ w',VV G bu J0 ck w0 get (s.app none e).obj a w'→Q (.panic [{ v:=v,recovered:=false }]) a w'):Region.wanted o (yielded ops a.tmps)=true∧o.wpIn (fz ro) nn P a w K Q:=by
 obtain ⟨J,ι,S,E⟩:=hA.ex
 obtain ⟨i,g,hi,hgd,oo⟩:∃ i g,mW P o.op=some i∧u_ N ops o.guard=some g∧io=⟨o.dst,i,g,io.pre⟩:=by
  unfold gx at hc
  split at hc
  ·split at hc
   ·rename_i i g h1 h2
    exact ⟨i,g,h1,h2,(Option.some.inj hc).symm⟩
   ·cases hc
  ·cases hc
 have D7:io.op=i:=by rw [oo]
 have Iz:io.guard=g:=by rw [oo]
 -- RB it is wanted
 have Cu:∀ b,eL io s=some b→Region.wanted o (yielded ops a.tmps)=b:=by
  intro b hb
  unfold eL at hb
  rw [Iz] at hb
  cases Mq:o.guard with
  | none=>
    rw [Mq] at hgd
    simp only [u_] at hgd; cases hgd
    simp only [Region.wanted,Mq]
    exact Option.some.inj hb
  | some p=>
    obtain ⟨j,want⟩:=p
    rw [Mq] at hgd
    simp only [u_] at hgd
    split at hgd
    ·rename_i oj EA
     split at hgd
     ·rename_i t ht
      split at hgd
      ·rename_i htN
       cases hgd
       dsimp only at hb
       have hgt:get t=s.get t:=hg t (by simp [ei.tr,Iz])
       have uN:=S.env t
       rw [hgt] at uN
       have hval:a.tmps[t]? = some (a.tmps.getD t Go.undef):=by
        have:t<a.tmps.size:=by rw [S.size]; exact htN
        simp [this]
       simp only [Region.wanted,Mq,yielded,EA,Option.bind_some,ht,hval]
       split at hb
       ·rename_i b' hb'
        rw [hb'] at uN
        have:a.tmps.getD t Go.undef=.bool b':=uN
        rw [this]
        have:=Option.some.inj hb
        rw [← this]
        cases b' <;> cases want <;> rfl
       ·rename_i v hv
        rw [hv] at uN
        have:a.tmps.getD t Go.undef=.tuple v:=uN
        rw [this]
        have:=Option.some.inj hb
        rw [← this]; rfl
       ·cases hb
      ·cases hgd
     ·cases hgd
    ·cases hgd
 obtain ⟨hw,f,args,k,fs,cs,hop,jq,hcp⟩:=hp
 refine ⟨Cu true hw,?_⟩
 rw [D7] at hop
 subst hop
 have hf:f.ev G get=f.ev G s.get:=bU.de (fun t ht=>hg t (by simp [ei.tr,D7,I.tmps,ht]))
 have ha:args.map (·.ev G get)=args.map (·.ev G s.get):=n_ (fun t ht=>hg t (by simp only [ei.tr,D7,I.tmps,List.mem_append]; exact .inl (.inr ht)))
 have hl:∀ p∈e.wr,p.1<s.af.length:=fun p hp=>by
  obtain ⟨ob,eX⟩:=hcp.tS p hp
  exact yt eX
 refine YL (u9 hi (by simp)) (Q9 S.store S.env (by rw [hf]; exact jq) (hcp.local (by rw [ha]) (fun q _=>by rw [ho])) (fun j _=>?_) hi K Q (fun w' hAf=>hX S.defers.none w' ?_))
 ·rw [ho]; exact cR (by omega)
 ·obtain ⟨J',ι',S',_,E'⟩:=hAf
  have e1:(s.app none e).obj=bL obj s.af.length e:=by
   rw [ho]; exact KR s.af e hl
  rw [e1]
  exact ⟨J',ι',S',E.trans E',fun t=>(S.env t).ev S.store E'.ev⟩
def pF (P:Program) (G:Nat→Option (List DV)) (ro:Option Nat) (Y:YO) (D:Dk) (N:Nat) (bu:Nat→cF) (J0:Nat→Prop) (ck:Nat→Nat→Option Nat) (w0:World):Prop:=
 ∀ oy args af ys K',Y (.yl oy::args) af ys K'→∀ get a w,At G D N bu J0 ck w0 get (aD af) a w→get YS=ys→∀ (y:Value) (vs:List Value),(∃ J ι,Sim G D N J w ι a get (aD af)∧Ext bu (aD af) J0 J ck ι w0 w∧dm J w ι (.yl oy) y∧cu J w ι args vs)→
   ∃ l,y=.func (.yield l) #[] #[]∧∀ nn,YieldAt (fz ro) nn P l vs.toArray w (fun e w'=>∃ ys' b aA,e=.returned (.bool b)∧K' ys' b aA∧∀ dst,(∀ d,dst=some d→d<N)→At G D N bu J0 ck w0 (gD dst (.bool b) (fun t=>if YS=t then ys' else get t)) (aD aA) (a.put dst (.bool b)) w')
theorem pF.no {D:Dk} {N:Nat} {bu:Nat→cF} {J0:Nat→Prop} {ck:Nat→Nat→Option Nat} {w0:World} : pF P G ro rN D N bu J0 ck w0:=fun _ _ _ _ _ h=>h.elim
theorem OF {Y:YO} (hY:pF P G ro Y D N bu J0 ck w0) {o:Oper} {io:ei} (hc:gx P N ops o io.pre=some io) {s:St} {K0:St→Prop} (hst:YAt G Y io s K0) {a:Act} {w:World} (hA:At G D N bu J0 ck w0 s.get s.obj a w) {K:Act→World→Prop}
  (hK:∀ s' a' w',K0 s'→At G D N bu J0 ck w0 s'.get s'.obj a' w'→K a' w'):Region.wanted o (yielded ops a.tmps)=true∧o.wpIn (fz ro) nn P a w K Q:=by
 obtain ⟨hw,f,args,oy,hop,ej,hY0⟩:=hst
 obtain ⟨J,ι,S,E⟩:=hA.ex
 obtain ⟨Qm,i,g,hi,hgd,oo⟩:Gm N o.dst=true∧∃ i g,mW P o.op=some i∧u_ N ops o.guard=some g∧io=⟨o.dst,i,g,io.pre⟩:=by
  unfold gx at hc
  split at hc
  ·rename_i hd
   split at hc
   ·rename_i i g h1 h2
    exact ⟨hd,i,g,h1,h2,(Option.some.inj hc).symm⟩
   ·cases hc
  ·cases hc
 have Vc:∀ d,o.dst=some d→d<N:=fun d hd=>by rw [hd] at Qm; simpa [Gm] using Qm
 have Qb:io.dst=o.dst:=by rw [oo]
 have D7:io.op=i:=by rw [oo]
 have Iz:io.guard=g:=by rw [oo]
 have Cu:Region.wanted o (yielded ops a.tmps)=true:=by
  have hb:=hw
  unfold eL at hb
  rw [Iz] at hb
  cases Mq:o.guard with
  | none=>simp only [Region.wanted,Mq]
  | some p=>
    obtain ⟨j,want⟩:=p
    rw [Mq] at hgd
    simp only [u_] at hgd
    split at hgd
    ·rename_i oj EA
     split at hgd
     ·rename_i t ht
      split at hgd
      ·rename_i htN
       cases hgd
       dsimp only at hb
       have uN:=S.env t
       have hval:a.tmps[t]? = some (a.tmps.getD t Go.undef):=by
        have:t<a.tmps.size:=by rw [S.size]; exact htN
        simp [this]
       simp only [Region.wanted,Mq,yielded,EA,Option.bind_some,ht,hval]
       split at hb
       ·rename_i b' hb'
        rw [hb'] at uN
        have:a.tmps.getD t Go.undef=.bool b':=uN
        rw [this]
        have:=Option.some.inj hb
        revert this
        cases b' <;> cases want <;> simp
       ·rename_i v hv
        cases hb
       ·cases hb
      ·cases hgd
     ·cases hgd
    ·cases hgd
 refine ⟨Cu,?_⟩
 rw [D7] at hop
 subst hop
 replace hi:=tD hi
 obtain ⟨dst,op,type,pos,after,guard⟩:=o
 dsimp only at hi Qb Vc ⊢
 obtain ⟨F,as,ts,rfl,hF,hargs⟩:∃ F as ts,op=.call ⟨.value F,as,ts⟩∧aM F=some f∧dU as.toList=some args:=by
  cases op with
  | call c=>
    obtain ⟨callee,as,ts⟩:=c
    cases callee with
    | value F=>
      simp only [cN] at hi
      split at hi
      ·rename_i f' args' h1 h2; cases hi; exact ⟨F,as,ts,rfl,h1,h2⟩
      ·cases hi
    | invoke r m=>simp [cN] at hi
    | builtin b=>
      exfalso
      cases b <;> simp only [cN] at hi <;> (repeat' split at hi) <;> cases hi
  | unOp u T x=>exfalso; cases u <;> simp only [cN] at hi <;> (try (cases hi; done)) <;> (repeat' split at hi) <;> cases hi
  | _=>
    exfalso
    simp only [cN] at hi <;> (repeat' split at hi) <;> cases hi
 have Ac:=bf S.store S.env hF
 have hrA:=rJ S.store S.env hargs
 rw [ej] at Ac
 obtain ⟨l,Rs,DY⟩:=hY _ _ _ _ _ hY0 s.get a w hA rfl (a.eval F) (as.toList.map a.eval) ⟨J,ι,S,E,Ac,hrA⟩
 obtain ⟨fn,tmps,assign,body,hrun,hR⟩:=DY (nn-1)
 refine ⟨fun _ _=>trivial,?_⟩
 rw [Oper.semAt_eq _ _ _ (fun c h=>by cases h)]
 have hex:(execOp a.eval ⟨dst,.call ⟨.value F,as,ts⟩,type,pos,after,guard⟩).run P w=.ok (.round l fn tmps assign body) w:=by
  have e1:as.map a.eval=(as.toList.map a.eval).toArray:=by
   apply Array.toList_inj.1
   simp
  simp only [execOp,resolve,Sem.run_bind,Rs,Deferred.ofValue,Sem.run_pure,Result.andThen_ok,invoke,callFunc,e1]
  simpa using hrun
 rw [hex,Oper.uponIn_round]
 refine ⟨(fun hh=>by cases hh),hR.mono (fun e w' hq=>?_)⟩
 obtain ⟨ys',b,aA,rfl,hk,hat⟩:=hq
 refine hK _ _ _ hk ?_
 have:=hat dst Vc
 have e2:(St.get ⟨dY io.dst (.bool b) ((YS,ys')::s.env),aA⟩)=gD dst (.bool b) (fun t=>if YS=t then ys' else s.get t):=by
  show aZ _=_
  rw [Am,Qb]
  rfl
 rw [e2]
 exact this
theorem Ca {Y:YO} (hY:pF P G ro Y D N bu J0 ck w0) {X:Value→fu→St→Prop} (hX:∀ v e s a w,(D.xm=false→a.defers=D.ds)→VV G bu J0 ck w0 s.get s.obj a w→X v e s→Q (.panic [{ v:=v,recovered:=false }]) a w)
  {o:Oper} {io:ei} (h2:gx P N ops o io.pre=some io) {s:St} {K:St→fu→Prop} {K0:St→Prop} (hv:yH P G Y X io s K K0) {a:Act} {w:World} (hA:At G D N bu J0 ck w0 s.get s.obj a w) {K':Act→World→Prop}
  (h1:∀ s' e a' w',K s' e→At G D N bu J0 ck w0 s'.get s'.obj a' w'→K' a' w') (h0:∀ s' a' w',K0 s'→At G D N bu J0 ck w0 s'.get s'.obj a' w'→K' a' w') :
  if Region.wanted o (yielded ops a.tmps) then o.wpIn (fz ro) nn P a w K' Q else (∀ f,o.about P w a.eval=some f→(fz ro).fn f)∧K' (a.put o.dst Go.undef) w:=by
 have qQ:∀ s' ev,sM P G io s ev s'→(∀ a' w',At G D N bu J0 ck w0 s'.get s'.obj a' w'→K' a' w')→if Region.wanted o (yielded ops a.tmps) then o.wpIn (fz ro) nn P a w K' Q else (∀ f,o.about P w a.eval=some f→(fz ro).fn f)∧K' (a.put o.dst Go.undef) w:=by
  intro s' ev hst hv'
  obtain ⟨hn1,hn2⟩:=hst.next
  refine DB h2 hst (fun _ _=>rfl) (fun _ _=>rfl) hA (fun a' w' uR=>hv' a' w' ?_)
  rw [← hn1,← hn2] at uR
  exact uR
 rcases BE hv with ⟨hw,e,he,hk⟩ | ⟨hw,hk⟩ | ⟨v,e,hp,hk⟩ | hy
 ·exact qQ _ _ (.inl ⟨hw,e,he,rfl,rfl⟩) (fun a' w'=>h1 _ _ a' w' hk)
 ·exact qQ _ _ (.inr ⟨hw,rfl,rfl⟩) (fun a' w'=>h0 _ a' w' hk)
 ·obtain ⟨h3,h4⟩:=OG (Q:=Q) h2 hp (fun _ _=>rfl) rfl hA K' (fun hd w' hO=>hX v _ _ a w' hd hO hk)
  rw [h3,if_pos rfl]; exact h4
 ·obtain ⟨h3,h4⟩:=OF (Q:=Q) hY h2 hy hA (fun s' a' w' hk uR=>h1 _ _ _ _ hk uR)
  rw [h3,if_pos rfl]; exact h4
theorem vL {Y:YO} (hY:pF P G ro Y D N bu J0 ck w0) {X:Value→St→Prop} {K:St→Prop} (hQ:∀ s a w,At G D N bu J0 ck w0 s.get s.obj a w→K s→Q .normal a w) (hX:∀ v s a w,(D.xm=false→a.defers=D.ds)→VV G bu J0 ck w0 s.get s.obj a w→X v s→Q (.panic [{ v:=v,recovered:=false }]) a w) :
  ∀ (os:List Oper) (fN:List ei) (s:St) (a:Act) (w:World),fN.length=os.length→(∀ (i:Nat) (o:Oper),os[i]? = some o→∃ io,fN[i]? = some io∧gx P N ops o io.pre=some io)→gG P G Y X fN s K→
    At G D N bu J0 ck w0 s.get s.obj a w→wpListIn (fz ro) nn P ops Q os a w
 | [],fN,s,a,w,hl,hc,hv,hA=>by
   cases fN with
   | nil=>exact hQ s a w hA hv
   | cons _ _=>simp at hl
 | o::os,[],s,a,w,hl,hc,hv,hA=>by simp at hl
 | o::os,io::fN,s,a,w,hl,hc,hv,hA=>by
   obtain ⟨io',h1,h2⟩:=hc 0 o (by simp)
   simp at h1; subst h1
   refine wpListIn_step (fun K' A9=>?_)
   simp only [gG] at hv
   have hnext:∀ s' a' w',gG P G Y X fN s' K→At G D N bu J0 ck w0 s'.get s'.obj a' w'→K' a' w':=fun s' a' w' hv' uR=>
    A9 _ _ (vL hY hQ hX os fN s' a' w' (by simpa using hl) (fun i o' hi=>by simpa using hc (i+1) o' (by simpa using hi)) hv' uR)
   exact Ca hY (fun v _ s a w h1 h2 h3=>hX v s a w h1 h2 h3) h2 hv hA (fun s' _=>hnext s') hnext
structure Ord (P:Program) (N:Nat) (ops:Array Oper) (fN:List ei):Prop where
 mix:P.follows .mixedOrders=true
 len:fN.length=ops.size
 at_:∀ i,i<ops.size→∃ o io,ops[i]? = some o∧fN[i]? = some io∧gx P N ops o io.pre=some io
 dr:∀ j o io,ops[j]? = some o→fN[j]? = some io→(∀ k∈direct o,k<j)∧(∀ i∈io.pre,i<ops.size∧∃ k∈direct o,k=i∨∃ z,fN[k]? = some z∧i∈z.pre)∧
   (∀ i x,i<j→fN[i]? = some x→i∈io.pre∨(Jd x io=false∧Er x io=false))
def RA (fN:List ei) (i j:Nat):Prop:=∃ io,fN[j]? = some io∧i∈io.pre
theorem Ord.of {fN:List ei} (hc:mU P N ops true=some fN):Ord P N ops fN:=by
 simp only [mU,if_true] at hc
 split at hc
 ·rename_i adN hcs
  split at hc
  ·rename_i hok
   cases hc
   rw [Bool.and_eq_true] at hok
   obtain ⟨ac9,Qn⟩:=hok
   obtain ⟨hlen,l_⟩:=mV hcs
   simp only [Array.length_toList] at hlen
   unfold ON at Qn
   rw [List.all_eq_true] at Qn
   refine ⟨ac9,hlen,fun i hi=>?_,fun j o io EA hij=>?_⟩
   ·obtain ⟨io,k1,k2⟩:=l_ i ops[i] (by simp)
    exact ⟨ops[i],io,Array.getElem?_eq_getElem hi,k1,k2⟩
   ·have abW:=(Array.getElem?_eq_some_iff.1 EA).1
    have h1:=Qn j (by simpa using abW)
    have ac7:ops.toList[j]? = some o:=by simpa using EA
    rw [ac7,hij] at h1
    simp only [Bool.and_eq_true,List.all_eq_true,decide_eq_true_eq,List.any_eq_true,Bool.or_eq_true,beq_iff_eq] at h1
    obtain ⟨⟨h2,h3⟩,h4⟩:=h1
    refine ⟨h2,fun i hi=>?_,fun i x hilt hx=>?_⟩
    ·obtain ⟨h5,k,hk,h6⟩:=h3 i hi
     refine ⟨by simpa using h5,k,hk,h6.imp id (fun h=>?_)⟩
     split at h
     ·rename_i z hz; exact ⟨z,hz,by simpa using h⟩
     ·cases h
    ·have:=h4 i (by simpa using hilt)
     rw [hx] at this
     simp only [Bool.or_eq_true,Bool.not_eq_true',List.contains_iff_mem,Bool.or_eq_false_iff] at this
     exact this
  ·cases hc
 ·cases hc
theorem Ord.pre {fN:List ei} (h:Ord P N ops fN) (j:Nat) (o:Oper) (ho:ops[j]? = some o) (i:Nat) (hij:RA fN i j):∃ e∈o.after,Region.binds .any e=true∧(e.on=i∨RA fN i e.on):=by
 obtain ⟨io,oo,hmem⟩:=hij
 obtain ⟨_,h2,_⟩:=h.dr j o io ho oo
 obtain ⟨_,k,hk,h3⟩:=h2 i hmem
 simp only [direct,List.mem_map,List.mem_filter,Array.mem_toList_iff] at hk
 obtain ⟨e,⟨he,hb⟩,Ah⟩:=hk
 refine ⟨e,he,hb,?_⟩
 rw [Ah]
 exact h3.imp id (fun ⟨z,hz,hiz⟩=>⟨z,hz,hiz⟩)
theorem Ord.back {fN:List ei} (h:Ord P N ops fN) (j:Nat) (o:Oper) (ho:ops[j]? = some o) (e:Edge) (he:e∈o.after) (hb:Region.binds .any e=true):e.on<j:=by
 obtain ⟨_,io,_,oo,_⟩:=h.at_ j (Array.getElem?_eq_some_iff.1 ho).1
 obtain ⟨h1,_,_⟩:=h.dr j o io ho oo
 refine h1 e.on ?_
 simp only [direct,List.mem_map,List.mem_filter,Array.mem_toList_iff]
 exact ⟨e,⟨he,hb⟩,rfl⟩
theorem Ord.lt {fN:List ei} (h:Ord P N ops fN) (i j:Nat) (hij:RA fN i j):i<ops.size:=by
 obtain ⟨io,oo,hmem⟩:=hij
 have hj:j<ops.size:=by rw [← h.len]; exact (List.getElem?_eq_some_iff.1 oo).1
 obtain ⟨o,io',ho,Qc,_⟩:=h.at_ j hj
 rw [oo] at Qc; cases Qc
 obtain ⟨_,h2,_⟩:=h.dr j o io ho oo
 exact (h2 i hmem).1
def QJ:rA:={ tr:=[],td:=none,r:=.top,rd:=[],ow:=[] }
theorem Az {X:Value→St→Prop} {K:St→Prop} {fN:List ei} (O:Ord P N ops fN) {lo hi:Nat} (hlh:lo≤hi) (hhi:hi≤ops.size) (Mu:∀ i j,i<hi→hi≤j→j<ops.size→RA fN i j) {sg:List ei} (yA:sg.length=hi-lo)
  (hsg:∀ i io x,fN[lo+i]? = some io→sg[i]? = some x→x.dst=io.dst∧x.op=io.op∧x.guard=io.guard∧∀ k∈x.pre,lo+k∈io.pre)
  (hQ:∀ s a w listed,At G D N bu J0 ck w0 s.get s.obj a w→K s→listed.size=ops.size→(∀ j,listed.getD j false=decide (j<hi))→wpAnyIn (fz ro) nn P .any ops Q (listed.toList.count false) listed a w)
  (hX:∀ v s a w,(D.xm=false→a.defers=D.ds)→VV G bu J0 ck w0 s.get s.obj a w→X v s→Q (.panic [{ v:=v,recovered:=false }]) a w) {s:St} (hv:eV P G X sg s [] (fun s log=>indep log=true∧K s)) {a:Act} {w:World}
  (hA:At G D N bu J0 ck w0 s.get s.obj a w) {listed:Array Bool} (hls:listed.size=ops.size) (hD:∀ j,listed.getD j false=decide (j<lo)):wpAnyIn (fz ro) nn P .any ops Q (listed.toList.count false) listed a w:=by
 have Im:∀ i,lo≤i→i<hi→∃ o io x,ops[i]? = some o∧fN[i]? = some io∧sg[i-lo]? = some x∧gx P N ops o x.pre=some x∧x.dst=io.dst∧x.tr=io.tr∧∀ k∈x.pre,lo+k∈io.pre:=by
  intro i h1 h2
  obtain ⟨o,io,ho,oo,g_⟩:=O.at_ i (by omega)
  have hx:=List.getElem?_eq_getElem (l:=sg) (i:=i-lo) (by omega)
  obtain ⟨q1,q2,q3,q4⟩:=hsg (i-lo) io _ (by rw [show lo+(i-lo)=i by omega]; exact oo) hx
  refine ⟨o,io,_,ho,oo,hx,?_,q1,by unfold ei.tr; rw [q2,q3],q4⟩
  generalize sg[i-lo]=x at *
  obtain ⟨xd,xo,xg,xp⟩:=x
  obtain ⟨d,op,g,pr⟩:=io
  dsimp only at q1 q2 q3
  subst q1 q2 q3
  unfold gx at g_ ⊢
  split at g_
  ·rename_i hd
   rw [if_pos hd]
   split at g_
   ·rename_i i' g' e1 e2
    cases g_
    rfl
   ·cases g_
  ·cases g_
 let E:(Nat→rA)→Nat→rA:=fun es i=>if lo≤i∧i<hi then es (i-lo) else QJ
 have Ea:∀ es i,lo≤i→i<hi→E es i=es (i-lo):=fun es i h1 h2=>by simp only [E,if_pos (And.intro h1 h2)]
 have Kz:∀ es i,¬ (lo≤i∧i<hi)→E es i=QJ:=fun es i h=>by simp only [E,if_neg h]
 have Qp:∀ (es:Nat→rA) (gT:List iP),(∀ (i:Nat) (x:ei),sg[i]? = some x→(es i).tr=x.tr∧(es i).td=x.dst)→indep gT=true→(∀ (i:Nat) (x:ei),sg[i]? = some x→gT[i]? = some ⟨x.pre,(es i).rd,(es i).wr⟩)→
   ∀ i j,i<j→j<ops.size→vu (E es i) (E es j)→RA fN i j:=by
  intro es gT Cv Mr oQ i j hij hj hcl
  by_cases hi1:lo≤i∧i<hi
  case neg=>rw [Kz es i hi1] at hcl; simp [vu,QJ,rA.wr] at hcl
  by_cases hj1:lo≤j∧j<hi
  case neg=>rw [Kz es j hj1] at hcl; simp [vu,QJ,rA.wr] at hcl
  rw [Ea es i hi1.1 hi1.2,Ea es j hj1.1 hj1.2] at hcl
  obtain ⟨oi,ioi,x,_,adj,hx,_,dxi,txi,_⟩:=Im i hi1.1 hi1.2
  obtain ⟨oj,ioj,y,EA,abX,hy,_,dyj,tyj,hpj⟩:=Im j hj1.1 hj1.2
  refine ⟨ioj,abX,?_⟩
  obtain ⟨_,_,h3⟩:=O.dr j oj ioj EA abX
  rcases h3 i ioi hij adj with h | ⟨hT,hT'⟩
  ·exact h
  ·obtain ⟨tx,dx⟩:=Cv _ x hx
   obtain ⟨ty,dy⟩:=Cv _ y hy
   have F1:=oQ _ x hx
   have PY:=oQ _ y hy
   rw [txi] at tx; rw [dxi] at dx; rw [tyj] at ty; rw [dyj] at dy
   have hin:i-lo∈y.pre→i∈ioj.pre:=fun h=>by
    have:=hpj _ h
    rwa [show lo+(i-lo)=i by omega] at this
   rcases hcl with ⟨t,h1,h2⟩ | ⟨t,h1,h2⟩ | ⟨q,h1,h2⟩ | ⟨q,h1,h2⟩
   ·exfalso
    rw [dx] at h1; rw [ty,dy] at h2
    simp only [Jd,h1,Bool.or_eq_false_iff] at hT
    rcases h2 with h2 | h2
    ·have:=hT.1; simp [h2] at this
    ·have:=hT.2; simp [h2] at this
   ·exfalso
    rw [dy] at h1; rw [tx] at h2
    simp [Er,h1,h2] at hT'
   ·refine hin (Aa Mr F1 PY (by omega) ?_)
    simp only [AL,Bool.or_eq_true,List.any_eq_true,List.contains_iff_mem]
    exact .inl ⟨q,h1,h2⟩
   ·refine hin (Aa Mr F1 PY (by omega) ?_)
    simp only [AL,Bool.or_eq_true,List.any_eq_true,List.contains_iff_mem]
    exact .inr ⟨q,h1,h2⟩
 have aai:∀ (es:Nat→rA) (ss:Nat→St),ss 0=s→(∀ (i:Nat) (x:ei),sg[i]? = some x→(ss (i+1)).get=gD (es i).td (es i).r (ss i).get∧(ss (i+1)).obj=cV (es i).ow (ss i).obj)→∀ k,k≤ops.size→jW (E es) s.get s.obj (fun _=>true) k=((ss (min k hi-lo)).get,(ss (min k hi-lo)).obj):=by
  intro es ss h0 hnx k
  induction k with
  | zero=>intro _; simp only [jW,Nat.zero_min,Nat.zero_sub,h0]
  | succ k ih=>
    intro hk
    simp only [jW,if_true,ih (by omega)]
    by_cases hin:lo≤k∧k<hi
    ·obtain ⟨_,_,x,_,_,hx,_⟩:=Im k hin.1 hin.2
     obtain ⟨n1,n2⟩:=hnx _ x hx
     rw [Ea es k hin.1 hin.2,show min (k+1) hi-lo=(k-lo)+1 by omega,show min k hi-lo=k-lo by omega,n1,n2]
    ·rw [Kz es k hin,show min (k+1) hi-lo=min k hi-lo by omega]
     refine Prod.ext (funext fun t=>?_) rfl
     simp [gD,QJ]
 have uO:∀ (es:Nat→rA) (ss:Nat→St),ss 0=s→(∀ (i:Nat) (x:ei),sg[i]? = some x→(ss (i+1)).get=gD (es i).td (es i).r (ss i).get∧(ss (i+1)).obj=cV (es i).ow (ss i).obj)→∀ i,i≤ops.size→jW (E es) s.get s.obj (fun j=>decide (j<i)) ops.size=((ss (min i hi-lo)).get,(ss (min i hi-lo)).obj):=by
  intro es ss h0 hnx i hi
  rw [← aai es ss h0 hnx i hi]
  have h1:∀ k,i≤k→jW (E es) s.get s.obj (fun j=>decide (j<i)) k=jW (E es) s.get s.obj (fun j=>decide (j<i)) i:=by
   intro k
   induction k with
   | zero=>intro h; have:i=0:=by omega
           subst this; rfl
   | succ k ih=>
     intro h
     by_cases hki:i=k+1
     ·subst hki; rfl
     ·rw [← ih (by omega)]
      simp only [jW]
      rw [if_neg (by simp; omega)]
  have h2:∀ k,k≤i→jW (E es) s.get s.obj (fun j=>decide (j<i)) k=jW (E es) s.get s.obj (fun _=>true) k:=by
   intro k
   induction k with
   | zero=>intro _; rfl
   | succ k ih=>
     intro h
     simp only [jW,ih (by omega),if_true]
     rw [if_pos (by simp; omega)]
  rw [h1 _ hi,h2 _ (Nat.le_refl _)]
 have hI0:∀ (es:Nat→rA) (ss:Nat→St),ss 0=s→(∀ (i:Nat) (x:ei),sg[i]? = some x→(ss (i+1)).get=gD (es i).td (es i).r (ss i).get∧(ss (i+1)).obj=cV (es i).ow (ss i).obj)→At G D N bu J0 ck w0 (jW (E es) s.get s.obj (fun j=>listed.getD j false) ops.size).1 (jW (E es) s.get s.obj (fun j=>listed.getD j false) ops.size).2 a w:=by
  intro es ss h0 hnx
  rw [show (fun j=>listed.getD j false)=fun j=>decide (j<lo) from funext hD,uO es ss h0 hnx lo (by omega),show min lo hi-lo=0 by omega,h0]
  exact hA
 have ab7:∀ (j:Nat) (o:Oper),ops[j]? = some o→listed.getD j false=true→∀ e∈o.after,Region.binds .any e=true→listed.getD e.on false=true:=fun j o ho hj e he hb=>by
  have:=O.back j o ho e he hb
  rw [hD] at hj ⊢
  simp at hj ⊢; omega
 have hlo:∀ j,j<lo→listed.getD j false=true:=fun j hj=>by rw [hD]; simp [hj]
 rcases yG sg s [] hv with ⟨ss,es,gT,h0,hst,⟨Mr,hK⟩,we,oQ,_⟩ | ⟨p,op,ss,es,gT,_,U6,h0,hst,⟨Mr,Z4⟩,we,oQ,_⟩
 ·simp only [List.length_nil,Nat.zero_add] at oQ
  have Cv:∀ (i:Nat) (o:ei),sg[i]? = some o→(es i).tr=o.tr∧(es i).td=o.dst:=by
   intro i o hi
   rcases hst i o hi with ⟨_,e,_,h1,_⟩ | ⟨_,h1,_⟩ <;> rw [h1] <;> exact ⟨rfl,rfl⟩
  have hnx:=fun (i:Nat) (x:ei) hx=>(hst i x hx).next
  refine G5 (E:=E es) (g0:=s.get) (o0:=s.obj) (R:=RA fN) (fun g obj a w=>At G D N bu J0 ck w0 g obj a w) lo hi hhi Mu (Qp es gT Cv Mr oQ) O.pre O.back O.lt ?_ ?_ _ listed a w hls rfl (fun j hj=>?_) hlo ab7 (hI0 es ss h0 hnx)
  ·intro i g obj Iw IA hg ho a w K' uR A9
   obtain ⟨o,io,x,hoi,oo,hx,g_,_⟩:=Im i Iw IA
   rw [uO es ss h0 hnx i (by omega),show min i hi-lo=i-lo by omega,Ea es i Iw IA] at hg ho
   rw [Ea es i Iw IA] at A9
   have:=DB (ro:=ro) (nn:=nn) (ops:=ops) (Q:=Q) g_ (hst _ x hx) hg ho uR A9
   unfold wpOpIn
   simp only [hoi]
   exact this
  ·intro listed a w hls hD hI
   rw [uO es ss h0 hnx hi hhi,show min hi hi-lo=sg.length by omega] at hI
   exact hQ _ a w listed hI hK hls hD
  ·rw [hD] at hj; simp at hj; omega
 ·rw [List.length_nil,Nat.sub_zero] at U6
  simp only [List.length_nil,Nat.zero_add] at oQ hst we
  have lZ:p<sg.length:=(List.getElem?_eq_some_iff.1 U6).1
  have hlp:lo+p<hi:=by omega
  have Cv:∀ (i:Nat) (o:ei),sg[i]? = some o→(es i).tr=o.tr∧(es i).td=o.dst:=fun i o hi=>(hst i o hi).tr
  have hnx:=fun (i:Nat) (x:ei) hx=>(hst i x hx).next
  obtain ⟨op0,iop,x0,ac5,D7,hx0,ads,_,_,abI⟩:=Im (lo+p) (by omega) hlp
  rw [show lo+p-lo=p by omega,U6] at hx0
  cases hx0
  refine K9 (E:=E es) (g0:=s.get) (o0:=s.obj) (R:=RA fN) (fun g obj a w=>At G D N bu J0 ck w0 g obj a w) lo (lo+p) (by omega) (Qp es gT Cv Mr oQ) O.pre O.back O.lt ?_ ?_ ?_ _ listed a w hls rfl ab7 hlo (by rw [hD]; simp) (hI0 es ss h0 hnx)
  ·intro i g obj Iw adi hip hRp hg ho a w K' uR A9
   have IA:i<hi:=by
    rcases Nat.lt_or_ge i hi with h | h
    ·exact h
    ·exact absurd (Mu (lo+p) i hlp h adi) hRp
   obtain ⟨o,io,x,hoi,oo,hx,g_,_,_,hpx⟩:=Im i Iw IA
   rw [uO es ss h0 hnx i (by omega),show min i hi-lo=i-lo by omega,Ea es i Iw IA] at hg ho
   rw [Ea es i Iw IA] at A9
   have hstep:sM P G x (ss (i-lo)) (es (i-lo)) (ss (i-lo+1)):=by
    have h1:=hst _ x hx
    unfold pR at h1
    by_cases hlt:i-lo<p
    ·rw [if_pos hlt] at h1; exact h1
    ·rw [if_neg hlt,if_neg (by omega)] at h1
     rcases h1 with ⟨h2,_⟩ | ⟨_,h2⟩
     ·exact absurd ⟨io,oo,hpx p h2⟩ hRp
     ·exact h2
   have:=DB (ro:=ro) (nn:=nn) (ops:=ops) (Q:=Q) g_ hstep hg ho uR A9
   unfold wpOpIn
   simp only [hoi]
   exact this
  ·intro j hj hne
   by_cases hin:lo≤j∧j<hi
   case neg=>rw [Kz es j hin] at hne; exact absurd rfl hne
   rw [Ea es j hin.1 hin.2] at hne
   obtain ⟨_,_,y,_,_,hy,_⟩:=Im j hin.1 hin.2
   have PY:=oQ _ y hy
   unfold Fm at Z4
   rw [Bool.and_eq_true,List.all_eq_true,List.all_eq_true] at Z4
   obtain ⟨k1,k2⟩:=Z4
   have k3:=k2 (j-lo) (by rw [List.mem_range,we]; omega)
   rw [PY] at k3
   simp only [Bool.or_eq_true,List.contains_iff_mem,List.isEmpty_iff] at k3
   have k4:j-lo∈op.pre:=k3.resolve_right hne
   have k5:=k1 _ k4
   simp only [decide_eq_true_eq] at k5
   have:=abI _ k4
   rw [show lo+(j-lo)=j by omega] at this
   exact ⟨⟨iop,D7,this⟩,by omega⟩
  ·intro g obj hg ho a w K' uR
   rw [uO es ss h0 hnx (lo+p) (by omega),show min (lo+p) hi-lo=p by omega] at hg ho
   rw [Ea es (lo+p) (by omega) hlp,show lo+p-lo=p by omega] at hg
   have h1:=hst p op U6
   unfold pR at h1
   rw [if_neg (by omega),if_pos rfl] at h1
   obtain ⟨v,e,PU,hXv,ej,_⟩:=h1
   obtain ⟨h3,h4⟩:=OG (ops:=ops) (Q:=Q) ads PU (fun t ht=>hg t (by rw [ej]; exact ht)) ho uR K' (fun hd w' ⟨J,ι,h1,h2,_⟩=>hX v ⟨[],_⟩ a w' hd ⟨J,ι,h1,h2,fun _=>trivial⟩ hXv)
   unfold wpOpIn
   simp only [ac5]
   rw [if_pos h3]
   exact h4
theorem AA {X:Value→St→Prop} {K:St→Prop} (hQ:∀ s a w,At G D N bu J0 ck w0 s.get s.obj a w→K s→Q .normal a w) (hX:∀ v s a w,(D.xm=false→a.defers=D.ds)→VV G bu J0 ck w0 s.get s.obj a w→X v s→Q (.panic [{ v:=v,recovered:=false }]) a w) {fN:List ei} (hc:mU P N ops true=some fN) {s:St} (hv:eV P G X fN s [] (fun s log=>indep log=true∧K s)) {a:Act} {w:World}
  (hA:At G D N bu J0 ck w0 s.get s.obj a w):P.follows .mixedOrders=true∧wpAnyIn (fz ro) nn P .any ops Q ops.size (Array.replicate ops.size false) a { w with drawn:=w.drawn+1 }:=by
 have O:=Ord.of hc
 refine ⟨O.mix,?_⟩
 have Ms:(Array.replicate ops.size false).toList.count false=ops.size:=by simp
 have:=Az (ro:=ro) (nn:=nn) (hi:=ops.size) (lo:=0) (a:=a) (w:={ w with drawn:=w.drawn+1 }) (s:=s) O (Nat.zero_le _) (Nat.le_refl _) (fun i j _ h1 h2=>absurd h2 (by omega)) (by rw [O.len]; rfl) (fun i io x h1 h2=>by rw [Nat.zero_add,h2] at h1; cases h1; exact ⟨rfl,rfl,rfl,fun k hk=>by rwa [Nat.zero_add]⟩) (fun s a w listed h1 h2 h3 h4=>wpAny_done h3 h4 (hQ s a w h1 h2)) hX hv hA.drew (listed:=Array.replicate ops.size false) (by simp) (fun j=>by by_cases h:j<ops.size <;> simp [h])
 rw [Ms] at this
 exact this
def Re (fN:List ei) (p:Nat):Bool:=(match fN[p]? with
 | some io=>(match io.op with | .call (.t _) _=>true | _=>false)&&(List.range p).all (io.pre.contains ·)
 | none=>false)&&(List.range fN.length).all fun j=>decide (j≤p)||(match fN[j]? with | some z=>(List.range (p+1)).all (z.pre.contains ·) | none=>true)
def aas (fN:List ei):Option Nat:=(List.range fN.length).find? (Re fN)
def Dj (m:Nat) (io:ei):ei:={ io with pre:=(io.pre.filter (decide <| m≤·)).map (· - m) }
theorem QV {Y:YO} (hY:pF P G ro Y D N bu J0 ck w0) {X:Value→St→Prop} {K:St→Prop} (hQ:∀ s a w,At G D N bu J0 ck w0 s.get s.obj a w→K s→Q .normal a w) (hX:∀ v s a w,(D.xm=false→a.defers=D.ds)→VV G bu J0 ck w0 s.get s.obj a w→X v s→Q (.panic [{ v:=v,recovered:=false }]) a w) {fN:List ei} (hc:mU P N ops true=some fN) {p:Nat} {io:ei} (hp:fN[p]? = some io) (hb:Re fN p=true) {s:St}
  (hv:eV P G X (fN.take p) s [] (fun s log=>indep log=true∧gG P G Y X [io] s (fun s=>eV P G X ((fN.drop (p+1)).map (Dj (p+1))) s [] (fun s log=>indep log=true∧K s)))) {a:Act} {w:World}
  (hA:At G D N bu J0 ck w0 s.get s.obj a w) {rid:Nat} : (Code.region rid ops true).wpIn (fz ro) nn P Q a w:=by
 have O:=Ord.of hc
 have lZ:p<fN.length:=(List.getElem?_eq_some_iff.1 hp).1
 have hps:p<ops.size:=by rw [← O.len]; exact lZ
 unfold Re at hb
 rw [hp,Bool.and_eq_true,Bool.and_eq_true,List.all_eq_true,List.all_eq_true] at hb
 obtain ⟨⟨_,hb1⟩,hb2⟩:=hb
 have hA1:∀ i,i<p→RA fN i p:=fun i hi=>⟨io,hp,by simpa using hb1 i (by simpa using hi)⟩
 have F7:∀ i j,i≤p→p<j→j<ops.size→RA fN i j:=fun i j hi hj hjs=>by
  obtain ⟨_,z,_,hz,_⟩:=O.at_ j hjs
  have h1:=hb2 j (by rw [List.mem_range,O.len]; exact hjs)
  rw [hz,show decide (j≤p)=false by simpa using hj,Bool.false_or,List.all_eq_true] at h1
  exact ⟨z,hz,by simpa using h1 i (by simp; omega)⟩
 have Ms:(Array.replicate ops.size false).toList.count false=ops.size:=by simp
 have h:=Az (ro:=ro) (nn:=nn) (hi:=p) (lo:=0) (a:=a) (w:={ w with drawn:=w.drawn+1 }) (s:=s) O (Nat.zero_le _) (by omega) (fun i j h1 h2 h3=>by
   rcases Nat.lt_or_ge p j with h | h
   ·exact F7 i j (by omega) h h3
   ·obtain rfl:j=p:=by omega
    exact hA1 i h1) (by simp; omega) (fun i io x h1 h2=>by
   rw [Nat.zero_add] at h1
   rw [List.getElem?_take] at h2
   split at h2
   ·rw [h1] at h2
    cases h2; exact ⟨rfl,rfl,rfl,fun k hk=>by rwa [Nat.zero_add]⟩
   ·cases h2) (fun s a w listed h1 h2 h3 h4=>?_) hX hv hA.drew (listed:=Array.replicate ops.size false) (by simp) (fun j=>by by_cases h:j<ops.size <;> simp [h])
 ·rw [Ms] at h
  exact wpIn_region_any O.mix h
 ·refine K_ (R:=RA fN) hps (fun j hj hjs=>F7 p j (Nat.le_refl _) hj hjs) O.pre O.back h3 h4 (fun K' A9=>?_)
  obtain ⟨o,io',ho,Qc,g_⟩:=O.at_ p hps
  rw [hp] at Qc; cases Qc
  have hnext:∀ s' a' w',eV P G X ((fN.drop (p+1)).map (Dj (p+1))) s' [] (fun s log=>indep log=true∧K s)→At G D N bu J0 ck w0 s'.get s'.obj a' w'→K' a' w':=fun s' a' w' hv' uR=>A9 _ _ fun uI h5 h6=>by
   refine Az (hi:=ops.size) (lo:=p+1) (s:=s') O (by omega) (Nat.le_refl _) (fun i j _ h1 h2=>absurd h2 (by omega)) (by simp [O.len]) (fun i io x h1 h2=>?_) (fun s a w listed h1 h2 h3 h4=>wpAny_done h3 h4 (hQ s a w h1 h2)) hX hv' uR h5 h6
   rw [List.getElem?_map,List.getElem?_drop,h1] at h2
   cases h2
   refine ⟨rfl,rfl,rfl,fun k hk=>?_⟩
   simp only [Dj,List.mem_map,List.mem_filter,decide_eq_true_eq] at hk
   obtain ⟨k0,⟨hk0,wg⟩,rfl⟩:=hk
   rwa [show p+1+(k0-(p+1))=k0 by omega]
  simp only [gG] at h2
  have:=Ca (ro:=ro) (nn:=nn) (ops:=ops) (Q:=Q) hY (fun v _ s a w h1 h2 h3=>hX v s a w h1 h2 h3) g_ h2 h1 (fun s' _=>hnext s') hnext
  unfold wpOpIn
  simp only [ho]
  exact this
theorem Ay {X:Value→St→Prop} {K:St→Prop} (hQ:∀ s a w,At G D N bu J0 ck w0 s.get s.obj a w→K s→Q .normal a w) (hX:∀ v s a w,(D.xm=false→a.defers=D.ds)→VV G bu J0 ck w0 s.get s.obj a w→X v s→Q (.panic [{ v:=v,recovered:=false }]) a w) {fN:List ei} (hc:mU P N ops true=some fN) {s:St} (hv:eV P G X fN s [] (fun s log=>indep log=true∧K s)) {a:Act} {w:World}
  (hA:At G D N bu J0 ck w0 s.get s.obj a w) {rid:Nat} : (Code.region rid ops true).wpIn (fz ro) nn P Q a w:=
 have h:=AA hQ hX hc hv hA
 wpIn_region_any h.1 h.2
end
end Dv
namespace Dv
open Go
inductive C where
 | skip
 | iJ (ops:List ei)
 | jA (ops:List ei)
 | seq (a b:C)
 | cond (c:bU) (a b:C)
 | block (i:Nat) (b:C)
 | loop (b:C)
 | exit (i:Nat)
 | ret
 | scope (b:C)
 | Zc (g:bU) (ps:List Nat) (a b:C)
inductive RV where
 | t (n:Nat)
 | c1 (n:Nat)
 | cn (n size:Nat)
structure wL where
 n:St→Prop
 x:Nat→St→Prop
 r:St→Prop
 y:YO
 b:Option Nat
def gY:Nat:=4294967295
def jY (v:Value) (s:St):St:=⟨(gY,.d (.val v))::s.env,s.af⟩
def St.keep (s:St) (ts:List Nat) (m:Nat):St:={ env:=ts.map fun t=>(t,s.get t),af:=s.af.take m }
def Wc (m:Nat):Option aH→Bool
 | some ob=>dZ m ob
 | none=>true
def St.DC (s:St) (ts:List Nat) (m:Nat):Prop:=(ts.all fun t=>eH m (s.get t))=true∧((s.af.take m).all (Wc m))=true∧m≤s.af.length
inductive Ad where
 | t (q:Nat) (et:TypeId) (aS:Nat)
 | b (o col:Nat) (et:TypeId) (aS:Nat)
def Ad.ap (s:St):Ad→St
 | .t q et aS=>if isNil (s.get q)=true then ⟨(q,.sl s.af.length 0 aS 0 0)::s.env,s.af++[some (.dat et aS [])]⟩ else s
 | .b o col et aS=>match s.obj o with
   | .live (.box bt cells)=>match cells[col]? with
     | some v=>if isNil v=true then ⟨s.env,s.af.set o (some (.box bt (cells.set col (.sl s.af.length 0 aS 0 0))))++[some (.dat et aS [])]⟩ else s
     | none=>s
   | _=>s
def dg:List Ad→St→St
 | [],s=>s
 | x::xs,s=>dg xs (x.ap s)
def oq (G:Nat→Option (List DV)) (D:Dk) (N:Nat) (bu:Nat→cF) (J0:Nat→Prop) (ck:Nat→Nat→Option Nat) (w0:World) (s:St) (a:Act) (w:World):Prop:=At G D N bu J0 ck w0 s.get s.obj a w
def JC (G:Nat→Option (List DV)) (m:Nat) (s s':St):Prop:=∀ (D:Dk) (N:Nat) (bu:Nat→cF) (J0:Nat→Prop) (ck:Nat→Nat→Option Nat) (w0:World) (a:Act) (w:World),(∀ o n b,ck o n=some b→o<m)→oq G D N bu J0 ck w0 s a w→oq G D N bu J0 ck w0 s' a w
theorem JC.le {G:Nat→Option (List DV)} {m m':Nat} {s s':St} (h:m≤m') (k:JC G m' s s'):JC G m s s':=fun D N bu J0 ck w0 a w hm hA=>k D N bu J0 ck w0 a w (fun o n b hb=>Nat.lt_of_lt_of_le (hm o n b hb) h) hA
def Jn:Option Nat→Nat→Nat
 | none,m=>m
 | some B,m=>min B m
theorem VI (b:Option Nat) (m:Nat):Jn b m≤m:=by
 cases b with
 | none=>exact Nat.le_refl _
 | some B=>exact Nat.min_le_right B m
def Nu (b:Option Nat) (ck:Nat→Nat→Option Nat):Prop:=∀ B,b=some B→∀ o n x,ck o n=some x→o<B
theorem Nu.no (ck:Nat→Nat→Option Nat):Nu none ck:=fun _ h=>by cases h
theorem Nu.lt {b:Option Nat} {ck:Nat→Nat→Option Nat} (h:Nu b ck) {m:Nat} (hm:∀ o n x,ck o n=some x→o<m):∀ o n x,ck o n=some x→o<Jn b m:=by
 cases b with
 | none=>exact hm
 | some B=>exact fun o n x hx=>Nat.lt_min.2 ⟨h B rfl o n x hx,hm o n x hx⟩
def jf:LV:=.d (.val Go.undef)
def kj:LV:=.dJ []
def sL:List Nat→List LV→List (Nat×LV)→List (Nat×LV)
 | p::ps,a::as,env=>sL ps as ((p,a)::env)
 | _,_,env=>env
def kf:C→Bool
 | .seq a b=>kf a&&kf b
 | .cond _ a b=>kf a&&kf b
 | .block _ b=>kf b
 | .loop b=>kf b
 | .scope b=>kf b
 | .Zc ..=>false
 | _=>true
def GU (P:Program) (G:Nat→Option (List DV)) (k:Nat) (args:List LV) (af:List (Option aH)) (Y:YO) (R:LV→List (Option aH)→Prop):Prop:=
 mS P k=true∧∀ (D:Dk) (bu:Nat→cF) (J0:Nat→Prop) (ck:Nat→Nat→Option Nat) (w0:World) (J:Nat→Prop) (ι:Nat→Nat→Option Nat) (w:World) (vs:Array Value),D.ds=[]→D.xm=false→
  aI G J w ι (aD af)→cu J w ι args vs.toList→Ext bu (aD af) J0 J ck ι w0 w→D.ys jf w→(∀ N,pF P G none Y D N bu J0 ck w0)→
  Calls P k vs w (fun e w'=>∃ v,e=.returned v∧∃ yv aA J' ι',R yv aA∧D.ys yv w'∧aI G J' w' ι' (aD aA)∧Ext bu (aD aA) J0 J' ck ι' w0 w')
section
variable (P:Program) (G:Nat→Option (List DV))
def vc:C→St→wL→Prop
 | .skip,s,K=>K.n s
 | .iJ ops,s,K=>gG P G K.y (fun v s'=>K.x gY (jY v s')) ops s K.n
 | .jA ops,s,K=>eV P G (fun v s'=>K.x gY (jY v s')) ops s [] (fun s log=>indep log=true∧K.n s)
 | .seq a b,s,K=>vc a s { K with n:=fun s'=>vc b s' K }
 | .cond c a b,s,K=>match c.ev G s.get with
   | .d (.val (.bool t))=>if t=true then vc a s K else vc b s K
   | .dQ=>vc a s K∧vc b s K
   | _=>False
 | .block i b,s,K=>vc b s { K with x:=fun j s'=>if j=i then K.n s' else K.x j s' }
 | .loop b,s,K=>∃ (ts:List Nat) (I:Nat→St→Prop) (N:Nat) (ad:List Ad),I N { (dg ad s) with env:=ts.map fun t=>(t,(dg ad s).get t) }∧
   ∀ k s',I k s'→vc b s' { K with n:=fun s''=>∃ j,j<k∧∃ s3,I j s3∧JC G (Jn K.b (dg ad s).af.length) s'' s3 }
 | .exit i,s,K=>K.x i s
 | .ret,s,K=>K.r s
 | .scope b,s,K=>vc b s K
 | .Zc g ps a b,s,K=>match callee (g.ev G s.get) with
   | some (k,fs,cs)=>∃ (jm:Option Nat) (R:LV→List (Option aH)→Prop),GU P G k (fs++[.yl s.af.length]++cs) (s.af++[none])
     (fun as af ys K'=>ys=jf∧as.head? = some (.yl s.af.length)∧as.tail.length=ps.length∧vc a ⟨sL ps as.tail s.env,af⟩ ⟨fun s1=>vc b s1 ⟨fun s'=>K' jf true s'.af,fun i s'=>i≠gY∧jm=some i∧K' kj false s'.af,fun s'=>jm=none∧K' kj false s'.af,rN,none⟩,fun _ _=>False,fun _=>False,rN,none⟩) R∧
     ∀ yv aA,R yv aA→(yv=jf∧K.n ⟨s.env,aA⟩)∨(yv=kj∧match jm with | some i=>i≠gY∧K.x i ⟨s.env,aA⟩ | none=>K.r ⟨s.env,aA⟩)
   | none=>False
end
def Hp (fN:List ei):C:=match aas fN with
 | some p=>match fN[p]? with
   | some io=>.seq (.jA (fN.take p)) (.seq (.iJ [io]) (.jA ((fN.drop (p+1)).map (Dj (p+1)))))
   | none=>.jA fN
 | none=>.jA fN
def eR (P:Program) (N:Nat):Code→Option C
 | .skip=>some .skip
 | .region _ ops draw=>match mU P N ops draw with
   | some fN=>some (if draw then Hp fN else .iJ fN)
   | none=>none
 | .seq a b=>match eR P N a,eR P N b with | some a,some b=>some (.seq a b) | _,_=>none
 | .cond c a b=>match aM c,eR P N a,eR P N b with | some c,some a,some b=>some (.cond c a b) | _,_,_=>none
 | .block i b=>match eR P N b with | some b=>if i=gY then none else some (.block i b) | none=>none
 | .loop b=>match eR P N b with | some b=>some (.loop b) | none=>none
 | .exit i=>if i=gY then none else some (.exit i)
 | .scope b=>match eR P N b with | some b=>some (.scope b) | none=>none
 | .ret=>some .ret
 | .label _=>some .skip
 | .rangeFunc g ps a b=>match aM g,eR P N a,eR P N b with
   | some g,some a,some b=>if (kf a&&kf b&&ps.toList.all fun p=>decide (p<N))=true then some (.Zc g ps.toList a b) else none
   | _,_,_=>none
 | _=>none
theorem mc (f:Nat→LV):∀ (ts:List Nat) (t:Nat),aZ (ts.map fun t=>(t,f t)) t=if t∈ts then f t else .top
 | [],t=>by simp [aZ]
 | x::ts,t=>by
   simp only [List.map_cons,aZ,List.mem_cons,mc f ts t]
   by_cases h:x=t
   ·subst h; simp
   ·have:¬ t=x:=fun e=>h e.symm
    simp [h,this]
theorem Og:(∀ x:LV,rn (fun i=>i) x=x)∧(∀ xs:List LV,ni (fun i=>i) xs=xs):=by
 have one:∀ n,(∀ x:LV,sizeOf x<n→rn (fun i=>i) x=x)∧(∀ xs:List LV,sizeOf xs<n→ni (fun i=>i) xs=xs):=by
  intro n
  induction n with
  | zero=>exact ⟨fun _ h=>absurd h (by omega),fun _ h=>absurd h (by omega)⟩
  | succ n ih=>
    refine ⟨fun x hs=>?_,fun xs hs=>?_⟩
    ·cases x <;> simp only [rn] <;> simp at hs
     ·rw [ih.2 _ (by omega),ih.2 _ (by omega)]
     ·rw [ih.2 _ (by omega)]
     ·rw [ih.2 _ (by omega)]
     ·rw [ih.1 _ (by omega)]
    ·cases xs with
     | nil=>rfl
     | cons x xs=>
       simp at hs
       simp only [ni]
       rw [ih.1 _ (by omega),ih.2 _ (by omega)]
 exact ⟨fun x=>(one (sizeOf x+1)).1 x (by omega),fun xs=>(one (sizeOf xs+1)).2 xs (by omega)⟩
section
variable {P:Program} {G:Nat→Option (List DV)} {D:Dk} {N:Nat} {bu:Nat→cF} {J0:Nat→Prop} {ck:Nat→Nat→Option Nat} {w0:World}
def KQ (G:Nat→Option (List DV)) (D:Dk) (N:Nat) (bu:Nat→cF) (J0:Nat→Prop) (ck:Nat→Nat→Option Nat) (w0:World) (K:wL):Exit→Act→World→Prop
 | .normal,a,w=>∃ s,oq G D N bu J0 ck w0 s a w∧K.n s
 | .exit i,a,w=>i≠gY∧∃ s,oq G D N bu J0 ck w0 s a w∧K.x i s
 | .ret,a,w=>∃ s,oq G D N bu J0 ck w0 s a w∧K.r s
 | .panic ch,a,w=>∃ v s,ch=[{ v:=v,recovered:=false }]∧(D.xm=false→a.defers=D.ds)∧VV G bu J0 ck w0 s.get s.obj a w∧K.x gY (jY v s)
 | _,_,_=>False
theorem oq.bound {s:St} {a:Act} {w:World} (h:oq G D N bu J0 ck w0 s a w) {o n b:Nat} (hb:ck o n=some b):o<s.af.length:=by
 obtain ⟨J,ι,S,E⟩:=h.ex
 have h1:=E.ev.iC o n b hb
 rcases Nat.lt_or_ge o s.af.length with h2 | h2
 ·exact h2
 ·have:=S.store.rep o
  have hf:s.obj o=.free:=cR h2
  rw [hf] at this
  rw [this n] at h1; cases h1
theorem oq.aa4 {s:St} {a:Act} {w:World} (h:oq G D N bu J0 ck w0 s a w) (ts:List Nat):oq G D N bu J0 ck w0 { s with env:=ts.map fun t=>(t,s.get t) } a w:=by
 obtain ⟨J,ι,S,E⟩:=h.ex
 refine ⟨J,ι,⟨S.store,fun t=>?_,S.size,S.defers,?_,S.lim⟩,E⟩
 rotate_left
 ·show D.ys (aZ (ts.map fun t=>(t,s.get t)) YS) _
  rw [mc]
  split
  ·exact S.ys
  ·exact D.top _
 show dm J w ι (aZ (ts.map fun t=>(t,s.get t)) t) _
 rw [mc]
 split
 ·exact S.env t
 ·trivial
theorem oq.keep {s:St} {a:Act} {w:World} (h:oq G D N bu J0 ck w0 s a w) {ts:List Nat} {m:Nat} (hk:s.DC ts m) (hm:∀ o n b,ck o n=some b→o<m):oq G D N bu J0 ck w0 (s.keep ts m) a w:=by
 obtain ⟨J,ι,S,E⟩:=h.ex
 obtain ⟨h1,h2,h3⟩:=hk
 let ι':Nat→Nat→Option Nat:=fun o n=>if o<m then ι o n else none
 have gh:∀ o n b,o<m→ι ((fun i=>i) o) n=some b→ι' o n=some b:=fun o n b ho hb=>by simp only [ι',if_pos ho]; exact hb
 have Bl:∀ o,(s.keep ts m).obj o=if o<m then s.obj o else .free:=by
  intro o
  show aD (s.af.take m) o=_
  by_cases ho:o<m
  ·rw [if_pos ho]
   simp only [St.obj,aD,List.getElem?_take_of_lt ho]
  ·rw [if_neg ho,cR (by simp; omega)]
 have hown:∀ o b,((s.keep ts m).obj o).own ι' o b→(s.obj o).own ι o b:=by
  intro o b hb
  rw [Bl] at hb
  by_cases ho:o<m
  ·rw [if_pos ho] at hb
   exact (cF.lS (fun n=>by simp only [ι',if_pos ho])).1 hb
  ·rw [if_neg ho] at hb; exact hb.elim
 refine ⟨J,ι',⟨⟨fun o=>?_,fun o o' b k k'=>S.store.inj o o' b (hown o b k) (hown o' b k'),fun o b k=>S.store.sn o b (hown o b k),S.store.jcell,S.store.xV⟩,fun t=>?_,S.size,S.defers,?_,S.lim⟩,?_,?_⟩
 ·rw [Bl]
  by_cases ho:o<m
  ·rw [if_pos ho]
   have hr:=S.store.rep o
   have hid:∀ ob,s.obj o=.live ob→dZ m ob=true:=fun ob eX=>by
    rw [List.all_eq_true] at h2
    have:some ob∈s.af.take m:=by
     simp only [St.obj,aD] at eX
     split at eX
     ·cases eX
     ·cases eX
     ·rename_i ob' hh
      cases eX
      exact List.mem_of_getElem? (i:=o) (by rw [List.getElem?_take_of_lt ho]; exact hh)
    exact h2 _ this
   have hk:∀ n,ι' o n=ι o n:=fun n=>by simp only [ι',if_pos ho]
   cases hs:s.obj o with
   | free=>rw [hs] at hr; intro n; rw [hk]; exact hr n
   | dead=>trivial
   | live ob=>
     rw [hs] at hr
     have hi:=hid ob hs
     cases ob with
     | box et cells=>
       obtain ⟨⟨b,C,k1,k2,k3⟩,_⟩:=hr
       refine ⟨⟨b,C,by rw [hk]; exact k1,k2,bM.rn (k0:=m) (π:=fun i=>i) gh cells _ (by simpa [dZ] using hi) (by rw [Og.2]; exact k3)⟩,trivial⟩
     | mp es=>
       obtain ⟨⟨b,C,c,k1,k2,k3⟩,_⟩:=hr
       refine ⟨⟨b,C,c,by rw [hk]; exact k1,k2,iV.rn (k0:=m) (π:=fun i=>i) gh es _ (by simpa [dZ] using hi) ?_⟩,trivial⟩
       rw [show (es.map fun p=>(p.1,rn (fun i=>i) p.2))=es from by simp [Og.1]]; exact k3
     | dat et e rows=>
       obtain ⟨⟨k1,k2⟩,k3⟩:=hr
       exact ⟨⟨by rw [hk]; exact k1,fun b hb=>k2 b (by rw [← hk]; exact hb)⟩,fun n hn=>by rw [hk]; exact k3 n hn⟩
     | kW et e rows=>
       obtain ⟨⟨k1,k2⟩,k3⟩:=hr
       exact ⟨⟨by rw [hk]; exact k1,fun b hb=>k2 b (by rw [← hk]; exact hb)⟩,trivial⟩
  ·rw [if_neg ho]; intro n; simp only [ι',if_neg ho]
 ·show dm J w ι' (aZ (ts.map fun t=>(t,s.get t)) t) _
  rw [mc]
  split
  ·rename_i ht
   rw [List.all_eq_true] at h1
   exact dm.rn (k0:=m) (π:=fun i=>i) gh _ _ (h1 t ht) (by rw [Og.1]; exact S.env t)
  ·trivial
 ·show D.ys (aZ (ts.map fun t=>(t,s.get t)) YS) _
  rw [mc]
  split
  ·exact S.ys
  ·exact D.top _
 ·have hE:=E.ev
  exact ⟨hE.os,hE.tape,hE.output,hE.size,hE.same,hE.shape,hE.iB,hE.vZ,fun o n b hb=>by simp only [ι',if_pos (hm o n b hb)]; exact hE.iC o n b hb⟩
 ·rintro b ⟨o,hb⟩
  exact E.own b ⟨o,hown o b hb⟩
theorem FQ {x:LV} (h:isNil x=true):x=.d (.val (.slice none 0 0)):=by
 unfold isNil at h
 split at h
 ·rfl
 ·cases h
theorem JC.keep {s:St} {ts:List Nat} {m:Nat} (hk:s.DC ts m):JC G m s (s.keep ts m):=fun _ _ _ _ _ _ _ _ hm h=>h.keep hk hm
theorem aI.Jz {J:Nat→Prop} {w:World} {ι:Nat→Nat→Option Nat} {obj:Nat→cF} (S:aI G J w ι obj) {base:Nat} (hb:obj base=.free) (et:TypeId) (aS:Nat) :
  aI G J w ι (fun o=>if o=base then .live (.dat et aS []) else obj o)∧Ext obj (fun o=>if o=base then .live (.dat et aS []) else obj o) J J ι ι w w:=by
 have hfree:∀ n,ι base n=none:=by have:=S.rep base; rw [hb] at this; exact this
 exact aI.tV S base (.live (.dat et aS [])) (Ev.refl (Own ι obj) J ι w) (fun _ _ _=>rfl) (fun _ _ _=>rfl)
  ⟨⟨.inl rfl,fun b hb=>by rw [hfree] at hb; cases hb⟩,fun n _=>hfree n⟩ (fun b hb=>by
    have:ι base 0=some b:=hb
    rw [hfree] at this; cases this)
theorem lz (l:List (Option aH)) (ob:aH):aD (l++[some ob])=fun o=>if o=l.length then .live ob else aD l o:=by
 funext o
 unfold aD
 rcases Nat.lt_trichotomy o l.length with h | h | h
 ·rw [List.getElem?_append_left h,if_neg (by omega)]
 ·subst h; simp
 ·rw [List.getElem?_eq_none (by simp; omega),if_neg (by omega),List.getElem?_eq_none (by omega)]
theorem bM.set {J:Nat→Prop} {w:World} {ι:Nat→Nat→Option Nat} : ∀ {xs:List LV} {vs:List Value} {i:Nat} {x y:LV},bM J w ι xs vs→xs[i]? = some x→(∀ v,dm J w ι x v→dm J w ι y v)→bM J w ι (xs.set i y) vs
 | [],[],i,x,y,_,h,_=>by simp at h
 | z::xs,v::vs,0,x,y,h,hx,hy=>by simp at hx; subst hx; exact ⟨h.1,hy v h.2.1,h.2.2⟩
 | z::xs,v::vs,i+1,x,y,h,hx,hy=>⟨h.1,h.2.1,bM.set h.2.2 (by simpa using hx) hy⟩
 | [],_::_,_,_,_,h,_,_=>h.elim
 | _::_,[],_,_,_,h,_,_=>h.elim
theorem oq.ap {s:St} {a:Act} {w:World} (h:oq G D N bu J0 ck w0 s a w) (x:Ad):oq G D N bu J0 ck w0 (x.ap s) a w:=by
 cases x with
 | t t et aS=>
   simp only [Ad.ap]
   split
   ·rename_i nD
    obtain ⟨J,ι,S,E⟩:=h.ex
    obtain ⟨S1,E1⟩:=aI.Jz S.store (base:=s.af.length) (cR (Nat.le_refl _)) et aS
    refine ⟨J,ι,⟨?_,fun t'=>?_,S.size,S.defers,?_,S.lim⟩,?_⟩
    ·show aI G J w ι (aD (s.af++[some (.dat et aS [])]))
     rw [lz]; exact S1
    ·show dm J w ι (if t=t' then _ else aZ s.env t') _
     split
     ·rename_i ht; subst ht
      have:=S.env t
      rw [FQ nD] at this
      exact .inl ⟨rfl,none,this⟩
     ·exact S.env t'
    ·show D.ys (if t=YS then _ else aZ s.env YS) _
     split
     ·rename_i ht; subst ht
      exact D.tot _ _ nD S.ys _
     ·exact S.ys
    ·show Ext bu (aD (s.af++[some (.dat et aS [])])) J0 J ck ι w0 w
     rw [lz]; exact E.trans E1
   ·exact h
 | b o col et aS=>
   simp only [Ad.ap]
   split
   ·rename_i bt cells ho
    split
    ·rename_i v hv
     split
     ·rename_i nD
      obtain ⟨J,ι,S,E⟩:=h.ex
      obtain ⟨S1,E1⟩:=aI.Jz S.store (base:=s.af.length) (cR (Nat.le_refl _)) et aS
      have ac6:=yt ho
      have PX:(if o=s.af.length then cF.live (.dat et aS []) else s.obj o)=.live (.box bt cells):=by rw [if_neg (by omega)]; exact ho
      have h0:=S1.rep o
      simp only [PX] at h0
      obtain ⟨⟨b,C,h1,h2,h3⟩,_⟩:=h0
      have h4:bM J w ι (cells.set col (.sl s.af.length 0 aS 0 0)) C.toList:=h3.set hv (fun u hu=>by
       rw [FQ nD] at hu
       exact .inl ⟨rfl,none,hu⟩)
      obtain ⟨S2,E2⟩:=aI.tV S1 o (.live (.box bt (cells.set col (.sl s.af.length 0 aS 0 0)))) (Ev.refl _ J ι w) (fun _ _ _=>rfl) (fun _ _ _=>rfl)
       ⟨⟨b,C,h1,h2,h4⟩,trivial⟩ (fun k hk=>.inl (by simp only [PX]; exact hk))
      have Bl:aD (s.af.set o (some (.box bt (cells.set col (.sl s.af.length 0 aS 0 0))))++[some (.dat et aS [])])=fun q=>if q=o then .live (.box bt (cells.set col (.sl s.af.length 0 aS 0 0))) else if q=s.af.length then .live (.dat et aS []) else s.obj q:=by
       rw [lz,List.length_set]
       funext q
       by_cases hq:q=o
       ·subst hq
        rw [if_pos rfl,if_neg (by omega)]
        unfold aD
        rw [List.getElem?_set_self ac6]
       ·rw [if_neg hq]
        by_cases Ir:q=s.af.length
        ·rw [if_pos Ir,if_pos Ir]
        ·rw [if_neg Ir,if_neg Ir]
         simp only [aD,St.obj,List.getElem?_set_ne (fun e=>hq e.symm)]
      refine ⟨J,ι,⟨?_,S.env,S.size,S.defers,S.ys,S.lim⟩,?_⟩
      ·show aI G J w ι (aD (_++_))
       rw [Bl]; exact S2
      ·show Ext bu (aD (_++_)) J0 J ck ι w0 w
       rw [Bl]; exact (E.trans E1).trans E2
     ·exact h
    ·exact h
   ·exact h
theorem oq.dg {a:Act} {w:World} : ∀ (ad:List Ad) {s:St},oq G D N bu J0 ck w0 s a w→oq G D N bu J0 ck w0 (Dv.dg ad s) a w
 | [],_,h=>h
 | x::xs,_,h=>oq.dg xs (h.ap x)
end
def CN (w w':World):Prop:=∀ (b:Nat) (x:Obj),w.heap[b]? = some x→x.nU=true→w'.heap[b]? = some x
theorem CN.refl (w:World):CN w w:=fun _ _ h _=>h
theorem CN.trans {w w' w'':World} (h:CN w w') (k:CN w' w''):CN w w'':=fun b x hb hx=>k _ _ (h _ _ hb hx) hx
theorem CN.put {w:World} {l:Nat} {o0:Obj} (o:Obj) (h:w.heap[l]? = some o0) (hc:o0.nU=false):CN w (w.putObj l o):=by
 intro b x hb hx
 by_cases yB:b=l
 ·subst yB; rw [h] at hb; cases hb; rw [hc] at hx; cases hx
 ·rw [World.putObj_heap_other yB]; exact hb
theorem jZ {w:World} {o:Obj} {b:Nat} (hb:b<w.heap.size):(w.alloc o).heap[b]? = w.heap[b]?:=by
 show (w.heap.push o)[b]? = _
 rw [Array.getElem?_push,if_neg (Nat.ne_of_lt hb)]
theorem CN.alloc (w:World) (o:Obj):CN w (w.alloc o):=by
 intro b x hb _
 rw [jZ (Array.getElem?_eq_some_iff.1 hb).1]; exact hb
theorem CN.shape {w w':World} (h:CN w w') (b:Nat) (hs:(w.shape? b).isSome=true):w'.shape? b=w.shape? b:=by
 unfold World.shape? at hs ⊢
 split at hs
 ·rename_i C t f hb
  rw [h _ _ hb rfl]
 ·cases hs
section
variable {G:Nat→Option (List DV)} {J:Nat→Prop} {w w':World} {ι ι':Nat→Nat→Option Nat} {obj obj':Nat→cF}
theorem CN.j (S:aI G J w ι obj) (h:CN w w') (b:Nat) (hb:J b):w'.heap[b]? = w.heap[b]?:=by
 obtain ⟨C,t,f,hc⟩:=S.jcell b hb
 rw [hc]; exact h _ _ hc rfl
theorem dm.cn (S:aI G J w ι obj) (h:CN w w') (hi:∀ o n b,ι o n=some b→ι' o n=some b) {x:LV} {v:Value} (k:dm J w ι x v):dm J w' ι' x v:=
 dm.mono (fun _ h=>h) (h.j S) hi (fun b hb=>h.shape b hb) x v k
theorem bM.cn (S:aI G J w ι obj) (h:CN w w') (hi:∀ o n b,ι o n=some b→ι' o n=some b) {x:List LV} {v:List Value} (k:bM J w ι x v):bM J w' ι' x v:=
 bM.mono (fun _ h=>h) (h.j S) hi (fun b hb=>h.shape b hb) x v k
theorem cu.cn (S:aI G J w ι obj) (h:CN w w') (hi:∀ o n b,ι o n=some b→ι' o n=some b) {x:List LV} {v:List Value} (k:cu J w ι x v):cu J w' ι' x v:=
 cu.mono (fun _ h=>h) (h.j S) hi (fun b hb=>h.shape b hb) x v k
theorem aI.cn (S:aI G J w ι obj) (h:CN w w') (hi:∀ o n b,ι o n=some b→ι' o n=some b) (ho:∀ o,obj' o=.dead∨(obj' o=obj o∧∀ n,ι' o n=ι o n)):aI G J w' ι' obj':=by
 have hown:∀ o b,(obj' o).own ι' o b→(obj o).own ι o b:=by
  intro o b hb
  rcases ho o with h1 | ⟨h1,h2⟩
  ·rw [h1] at hb; exact hb.elim
  ·rw [h1] at hb; exact (cF.lS h2).1 hb
 refine ⟨fun o=>?_,fun o o' b k k'=>S.inj o o' b (hown _ _ k) (hown _ _ k'),fun o b k=>S.sn o b (hown _ _ k),fun b hb=>?_,fun g row hg=>?_⟩
 ·rcases ho o with h1 | ⟨h1,hk⟩
  ·rw [h1]; trivial
  ·rw [h1]
   have hr:=S.rep o
   cases hs:obj o with
   | free=>rw [hs] at hr; intro n; rw [hk]; exact hr n
   | dead=>trivial
   | live ob=>
     rw [hs] at hr
     obtain ⟨hr,hkey⟩:=hr
     cases ob with
     | box et cells=>
       obtain ⟨b,C,h1,h2,h3⟩:=hr
       exact ⟨⟨b,C,by rw [hk]; exact h1,h _ _ h2 rfl,h3.cn S h hi⟩,trivial⟩
     | mp es=>
       obtain ⟨b,C,c,h1,h2,h3⟩:=hr
       exact ⟨⟨b,C,c,by rw [hk]; exact h1,h _ _ h2 rfl,iV.mono (fun _ h=>h) (h.j S) hi (fun b hb=>h.shape b hb) _ _ h3⟩,trivial⟩
     | dat et aS rows=>
       obtain ⟨h1,h2⟩:=hr
       refine ⟨⟨by rw [hk]; exact h1,fun b hb'=>?_⟩,fun n hn=>by rw [hk]; exact hkey n hn⟩
       rw [hk] at hb'
       obtain ⟨⟨C,h3⟩,h4⟩:=h2 b hb'
       exact ⟨⟨C,h _ _ h3 rfl⟩,bF.mono (fun _ h=>h) (h.j S) aS rows b 0 (by rw [h3]; exact h _ _ h3 rfl) h4⟩
     | kW et aS rows=>
       obtain ⟨h1,h2⟩:=hr
       refine ⟨⟨by rw [hk]; exact h1,fun b hb'=>?_⟩,trivial⟩
       rw [hk] at hb'
       obtain ⟨h3,h4⟩:=h2 b hb'
       exact ⟨h3,bF.mono (fun _ h=>h) (h.j S) aS rows b 0 (h.j S b h3) h4⟩
 ·obtain ⟨C,t,f,hc⟩:=S.jcell b hb
  exact ⟨C,t,f,h _ _ hc rfl⟩
 ·obtain ⟨h1,h2,t,h3⟩:=S.xV g row hg
  exact ⟨h1,dI.mono (fun _ h=>h) (h.j S) row g 0 (h.j S g h1) h2,t,by rw [h.shape g (by rw [h3]; rfl)]; exact h3⟩
theorem aI.put {l:Nat} {o0:Obj} (o:Obj) (S:aI G J w ι obj) (h:w.heap[l]? = some o0) (hc:o0.nU=false):aI G J (w.putObj l o) ι obj:=
 S.cn (CN.put o h hc) (fun _ _ _ h=>h) (fun _=>.inr ⟨rfl,fun _=>rfl⟩)
theorem Ext.put {bu:Nat→cF} {J0:Nat→Prop} {ck:Nat→Nat→Option Nat} {w0:World} (E:Ext bu obj J0 J ck ι w0 w) {l:Nat} (o:Obj) {o0:Obj} (h:w.heap[l]? = some o0) (hc:o0.nU=false) (hl:w0.heap.size≤l) (ho:o.nU=false):Ext bu obj J0 J ck ι w0 (w.putObj l o):=by
 have hsz:(w.putObj l o).heap.size=w.heap.size:=World.putObj_size
 refine ⟨⟨E.ev.os,E.ev.tape,E.ev.output,by rw [hsz]; exact E.ev.size,fun b hb hn=>?_,fun b hb=>?_,E.ev.iB,E.ev.vZ,E.ev.iC⟩,E.own⟩
 ·rw [World.putObj_heap_other (by omega)]; exact E.ev.same b hb hn
 ·rw [← E.ev.shape b hb]
  unfold World.shape?
  rw [World.putObj_heap_other (by omega)]
theorem Ar:∀ (l:List (Nat×Value)) (t:Array Value),(l.foldl (fun t (p:Nat×Value)=>t.setIfInBounds p.1 p.2) t).size=t.size
 | [],_=>rfl
 | x::l,t=>by rw [List.foldl_cons,Ar l]; simp
theorem CS:∀ (ps:List Nat) (as:List LV) (vs:List Value) (env:List (Nat×LV)) (t:Array Value) (N:Nat),t.size=N→(∀ p∈ps,p<N)→as.length=ps.length→cu J w ι as vs→(∀ q,dm J w ι (aZ env q) (t.getD q Go.undef))→
  ∀ q,dm J w ι (aZ (sL ps as env) q) (((ps.zip vs).foldl (fun t (p:Nat×Value)=>t.setIfInBounds p.1 p.2) t).getD q Go.undef)
 | [],as,vs,env,t,N,ht,hp,hl,hr,he,q=>by
   cases as with
   | nil=>simpa [sL] using he q
   | cons _ _=>simp at hl
 | p::ps,[],vs,env,t,N,ht,hp,hl,hr,he,q=>by simp at hl
 | p::ps,a::as,[],env,t,N,ht,hp,hl,hr,he,q=>hr.elim
 | p::ps,a::as,v::vs,env,t,N,ht,hp,hl,hr,he,q=>by
   simp only [sL,List.zip_cons_cons,List.foldl_cons]
   refine CS ps as vs _ _ N (by simp [ht]) (fun q hq=>hp q (by simp [hq])) (by simpa using hl) hr.2 (fun q=>?_) q
   have hpN:p<t.size:=by rw [ht]; exact hp p (by simp)
   simp only [aZ]
   by_cases hq:p=q
   ·subst hq
    rw [if_pos rfl]
    have:(t.setIfInBounds p v).getD p Go.undef=v:=by simp [Array.getD_eq_getD_getElem?,hpN]
    rw [this]; exact hr.1
   ·rw [if_neg hq]
    have:(t.setIfInBounds p v).getD q Go.undef=t.getD q Go.undef:=by
     simp [Array.getD_eq_getD_getElem?,Array.getElem?_setIfInBounds_ne hq]
    rw [this]; exact he q
end
section
variable {P:Program} {G:Nat→Option (List DV)}
theorem gN {b:Frame} {a:Act} {k:List Item} {cs:List Frame} {w:World} {c:Code} : step P (lone (b.atR a (.code (.scope c)::k)) cs w)=.next (lone (b.atR a (.code c::.inScope c::k)) cs w):=
 step_lone_go (by simp [stepG,stepG.exec,Frame.atR])
theorem y2 {b:Frame} {a:Act} {k:List Item} {cs:List Frame} {w:World} {c:Code} : step P (lone (b.atR a (.inScope c::k)) cs w)=.next (lone (b.atR a k) cs w):=
 step_lone_go (by simp [stepG,stepG.exec,Frame.atR])
theorem rY {F:Fence} {n:Nat} {Q:Exit→Act→World→Prop} {a:Act} {w:World} {c:Code} (h:c.wpIn F n P (Exit.noGoto Q) a w):(Code.scope c).wpIn F n P Q a w:=by
 intro b k cs hro hb hr
 have h0:(lone (b.atR a (.code (.scope c)::k)) cs w).fenced P F:=fenced_calm hb hr rfl
 obtain ⟨e,a₁,w₁,hq,Mv⟩:=h b (.inScope c::k) cs hro hb hr
 cases e with
 | normal=>exact ⟨.normal,a₁,w₁,hq,.head h0 gN (StepsIn.trans Mv (.one (fenced_calm hb hr rfl) y2))⟩
 | exit id=>
   have hx:exitTo id (.inScope c::k)=exitTo id k:=by simp [exitTo]
   exact ⟨.exit id,a₁,w₁,hq,fun k' hk=>.head h0 gN (Mv.1 k' (by rw [hx]; exact hk)),
    fun hr' hk=>let ⟨k₁,h1,h2⟩:=Mv.2 hr' (by rw [hx]; exact hk); ⟨k₁,h1,.head h0 gN h2⟩⟩
 | goto l=>exact hq.elim
 | ret=>exact ⟨_,a₁,w₁,hq,.of_steps (.one h0 gN) Mv⟩
 | panic ch=>exact ⟨_,a₁,w₁,hq,.of_steps (.one h0 gN) Mv⟩
 | outgrown=>exact ⟨_,a₁,w₁,hq,.of_steps (.one h0 gN) Mv⟩
def Wg:Option Nat→Code
 | some i=>.exit i
 | none=>.ret
def RZ (l B:Nat) (rc:LoopState→Option Code→Loop) (jm:Option Nat) (v:LV) (w:World):Prop:=
 (v=jf→w.heap[l]? = some (.loop (rc .ready none)))∧(v=kj→w.heap[l]? = some (.loop (rc .done (some (Wg jm)))))∧(v≠.top→w.heap[B]? = some (.deferred (some [])))∧isNil v=false
def R3 (l B:Nat) (rc:LoopState→Option Code→Loop) (jm:Option Nat):Dk where
 ds:=[]
 xm:=false
 lo:=0
 ys:=RZ l B rc jm
 keep:=fun v w w' h ⟨h1,h2,h4,h5⟩=>⟨(fun e=>h _ _ (h1 e) rfl),(fun e=>h _ _ (h2 e) rfl),(fun e=>h _ _ (h4 e) rfl),h5⟩
 top:=fun w=>⟨(fun h=>by cases h),(fun h=>by cases h),(fun h=>(h rfl).elim),rfl⟩
 tot:=fun v w h ⟨_,_,_,h5⟩=>by rw [h] at h5; cases h5
def qw (P:Program) (G:Nat→Option (List DV)) (jm:Option Nat) (ps:List Nat) (a b:C) (s:St):YO:=fun as af ys K'=>ys=jf∧as.head? = some (.yl s.af.length)∧as.tail.length=ps.length∧vc P G a ⟨sL ps as.tail s.env,af⟩ ⟨fun s1=>vc P G b s1 ⟨fun s'=>K' jf true s'.af,fun i s'=>i≠gY∧jm=some i∧K' kj false s'.af,fun s'=>jm=none∧K' kj false s'.af,rN,none⟩,fun _ _=>False,fun _=>False,rN,none⟩
theorem Lw {g:Operand} {ps:Array Tmp} {ca cb:Code} {N:Nat} {cg:bU} {xa xb:C} (h1:aM g=some cg) (Z3:∀ x∈ps.toList,x<N) {nn:Nat} {D:Dk} {bu:Nat→cF} {J0:Nat→Prop} {ck:Nat→Nat→Option Nat} {w0:World} (hmk:D.xm=true) (hlo:D.lo≤w0.heap.size)
  (iha:∀ {ro:Option Nat} {nn:Nat} {D:Dk} {bu:Nat→cF} {J0:Nat→Prop} {ck:Nat→Nat→Option Nat} {w0:World} (s:St) (K:wL),vc P G xa s K→pF P G ro K.y D N bu J0 ck w0→Nu K.b ck→∀ a w,oq G D N bu J0 ck w0 s a w→ca.wpIn (fz ro) nn P (KQ G D N bu J0 ck w0 K) a w)
  (ihb:∀ {ro:Option Nat} {nn:Nat} {D:Dk} {bu:Nat→cF} {J0:Nat→Prop} {ck:Nat→Nat→Option Nat} {w0:World} (s:St) (K:wL),vc P G xb s K→pF P G ro K.y D N bu J0 ck w0→Nu K.b ck→∀ a w,oq G D N bu J0 ck w0 s a w→cb.wpIn (fz ro) nn P (KQ G D N bu J0 ck w0 K) a w)
  {s:St} {K:wL} {k:Nat} {fs cs:List LV} (jq:callee (cg.ev G s.get)=some (k,fs,cs)) (h:∃ (jm:Option Nat) (R:LV→List (Option aH)→Prop),GU P G k (fs++[.yl s.af.length]++cs) (s.af++[none]) (qw P G jm ps.toList xa xb s) R∧
    ∀ yv aA,R yv aA→(yv=jf∧K.n ⟨s.env,aA⟩)∨(yv=kj∧match jm with | some i=>i≠gY∧K.x i ⟨s.env,aA⟩ | none=>K.r ⟨s.env,aA⟩)) (a:Act) (w:World) (hA:oq G D N bu J0 ck w0 s a w):(Code.rangeFunc g ps ca cb).wpIn (fz none) nn P (KQ G D N bu J0 ck w0 K) a w:=by
 obtain ⟨jm,R,⟨hent,hit⟩,hend⟩:=h
 obtain ⟨J,ι,S,E⟩:=hA.ex
 have Ac:=bf S.store S.env h1
 obtain ⟨fs',cs',hval,Rw,hcs⟩:∃ fs' cs',a.eval g=.func (.func k) fs' cs'∧cu J w ι fs fs'.toList∧cu J w ι cs cs'.toList:=by
  have e0:cg.ev G (aZ s.env)=cg.ev G s.get:=rfl
  rw [← e0] at jq
  change dm J w ι (cg.ev G (aZ s.env)) _ at Ac
  generalize cg.ev G (aZ s.env)=x at jq Ac
  unfold callee at jq
  split at jq
  ·cases jq
   obtain ⟨fs',cs',h1,h2,h3⟩:=Ac
   exact ⟨fs',cs',h1,h2.A_,h3.A_⟩
  ·cases jq
   obtain ⟨fs',cs',h1,h2,h3⟩:=Ac
   exact ⟨fs',cs',h1,h2,h3⟩
  ·cases jq
 have adO:=E.ev.size
 refine wpIn_rangeFunc fun fn hfn=>?_
 let rc:LoopState→Option Code→Loop:=fun st pe=>{ state:=st,pending:=pe,fn,tmps:=a.tmps,params:=ps,assign:=ca,body:=cb,defers:=w.heap.size }
 let W1:=(w.alloc (.deferred (some []))).alloc (.loop (rc .ready none))
 have sz1:W1.heap.size=w.heap.size+2:=by simp [W1]
 have hL1:W1.heap[w.heap.size+1]? = some (.loop (rc .ready none)):=by
  have:=World.alloc_heap_new (w.alloc (.deferred (some []))) (.loop (rc .ready none)); rwa [World.size_alloc] at this
 have hD1:W1.heap[w.heap.size]? = some (.deferred (some [])):=(jZ (by simp)).trans (World.alloc_heap_new w _)
 have hCN:CN w W1:=(CN.alloc w _).trans (CN.alloc _ _)
 have abV:∀ b,b<w.heap.size→W1.heap[b]? = w.heap[b]?:=fun b hb=>(jZ (by simp; omega)).trans (jZ hb)
 let x_:Nat→Nat→Option Nat:=fun o n=>if o=s.af.length∧n=0 then some (w.heap.size+1) else ι o n
 have hfree:∀ n,ι s.af.length n=none:=by
  have h0:=S.store.rep s.af.length
  have hf:s.obj s.af.length=.free:=cR (Nat.le_refl _)
  rw [hf] at h0; exact h0
 have hi1:∀ o n b,ι o n=some b→x_ o n=some b:=fun o n b hb=>by
  simp only [x_]
  rw [if_neg]
  ·exact hb
  ·rintro ⟨rfl,rfl⟩; rw [hfree] at hb; cases hb
 have YA:∀ o,aD (s.af++[none]) o=.dead∨(aD (s.af++[none]) o=s.obj o∧∀ n,x_ o n=ι o n):=fun o=>by
  rcases Nat.lt_trichotomy o s.af.length with ho | ho | ho
  ·refine .inr ⟨?_,fun n=>?_⟩
   ·simp only [aD,St.obj,List.getElem?_append_left ho]
   ·simp only [x_]; rw [if_neg (fun h=>by omega)]
  ·subst ho; left; simp [aD]
  ·refine .inr ⟨?_,fun n=>?_⟩
   ·rw [cR (by simp; omega)]; exact (cR (by omega)).symm
   ·simp only [x_]; rw [if_neg (fun h=>by omega)]
 have S1:aI G J W1 x_ (aD (s.af++[none])):=S.store.cn hCN hi1 YA
 have Ae:∀ b,Own x_ s.obj b↔Own ι s.obj b:=fun b=>by
  constructor
  ·rintro ⟨o,ho⟩
   by_cases hol:o=s.af.length
   ·subst hol
    have hf:s.obj s.af.length=.free:=cR (Nat.le_refl _)
    rw [hf] at ho; exact ho.elim
   ·exact ⟨o,(cF.lS (fun n=>by simp only [x_]; rw [if_neg (fun h=>hol h.1)])).1 ho⟩
  ·rintro ⟨o,ho⟩
   by_cases hol:o=s.af.length
   ·subst hol
    have hf:s.obj s.af.length=.free:=cR (Nat.le_refl _)
    rw [hf] at ho; exact ho.elim
   ·exact ⟨o,(cF.lS (fun n=>by simp only [x_]; rw [if_neg (fun h=>hol h.1)])).2 ho⟩
 have E1:Ext s.obj (aD (s.af++[none])) J J x_ x_ w W1:=by
  refine ⟨⟨rfl,rfl,rfl,by omega,fun b hb _=>abV b hb,fun b hb=>?_,fun _ h=>h,fun _ h=>.inl h,fun _ _ _ h=>h⟩,fun b hb=>?_⟩
  ·unfold World.shape?; rw [abV b hb]
  ·obtain ⟨o,ho⟩:=hb
   rcases YA o with h1 | ⟨h1,h2⟩
   ·rw [h1] at ho; exact ho.elim
   ·rw [h1] at ho; exact .inl ⟨o,ho⟩
 -- from the acS aaM on
 have back:∀ {o':Nat→cF} {J':Nat→Prop} {ι':Nat→Nat→Option Nat} {w':World},Ext s.obj o' J J' x_ ι' w w'→Ext s.obj o' J J' ι ι' w w':=fun e=>
  ⟨⟨e.ev.os,e.ev.tape,e.ev.output,e.ev.size,fun b hb hn=>e.ev.same b hb (fun h=>hn ((Ae b).1 h)),e.ev.shape,e.ev.iB,fun b hb=>(e.ev.vZ b hb).imp id (fun h=>h.imp id (fun h=>(Ae b).1 h)),fun o n b hb=>e.ev.iC o n b (hi1 o n b hb)⟩,fun b hb=>(e.own b hb).imp (fun h=>(Ae b).1 h) id⟩
 refine ⟨w.heap.size+1,[{ target:=.collected w.heap.size,args:=#[] }],W1,{ target:=.fn (.func k) cs',args:=fs'++#[.func (.yield (w.heap.size+1)) #[] #[]] },W1,k,fs'++#[.func (.yield (w.heap.size+1)) #[] #[]]++cs',W1,run_enterLoop_outer _ _ _ _ _,?_,fun _ _=>trivial,?_,(fun hh=>by cases hh),?_⟩
 ·simp only [resolve,hval,Deferred.ofValue,Sem.run_pure]; simp [Act.eval]
 ·simp only [invoke]; exact oa hent _ _
 have hargs:cu J W1 x_ (fs++[.yl s.af.length]++cs) (fs'++#[Value.func (.yield (w.heap.size+1)) #[] #[]]++cs').toList:=by
  simp only [Array.toList_append]
  have hy1:cu J W1 x_ [.yl s.af.length] [Value.func (.yield (w.heap.size+1)) #[] #[]]:=⟨⟨w.heap.size+1,by simp [x_],rfl⟩,trivial⟩
  exact ((Rw.cn S.store hCN hi1).append hy1).append (hcs.cn S.store hCN hi1)
 have abG:RZ (w.heap.size+1) w.heap.size rc jm jf W1:=⟨(fun _=>hL1),(fun h=>by cases h),(fun _=>hD1),rfl⟩
 have aac:=hit (R3 (w.heap.size+1) w.heap.size rc jm) s.obj J x_ w J x_ W1 (fs'++#[.func (.yield (w.heap.size+1)) #[] #[]]++cs') rfl rfl S1 hargs E1 abG
 clear hit
 have DY:∀ N_1,pF P G none (qw P G jm ps.toList xa xb s) (R3 (w.heap.size+1) w.heap.size rc jm) N_1 s.obj J x_ w:=by
  clear aac
  intro Nit oy as af ys K' hYv get a2 w2 F7 hys y vs gh
  obtain ⟨acY,hhd,hlen,hv⟩:=hYv
  simp only [List.head?_cons,Option.some.injEq,LV.yl.injEq] at hhd
  subst hhd
  simp only [List.tail_cons] at hlen hv
  obtain ⟨J2,xZ,S2,E2,lE,U4⟩:=gh
  obtain ⟨b,hb,rfl⟩:=lE
  have yB:b=w.heap.size+1:=by
   have:=E2.ev.iC s.af.length 0 (w.heap.size+1) (by simp [x_])
   rw [this] at hb; cases hb; rfl
  subst yB
  refine ⟨_,rfl,fun n2=>?_⟩
  have tn:RZ (w.heap.size+1) w.heap.size rc jm jf w2:=by
   have:=S2.ys
   rw [hys,acY] at this; exact this
  have hL2:=tn.1 rfl
  have hD2:=tn.2.2.1 (by simp [jf])
  have E2':=back E2
  have hvl:vs.length=ps.size:=by rw [← U4.length]; simpa using hlen
  refine ⟨fn,_,ca,cb,run_yield (P:=P) (args:=vs.toArray) hL2 (by simpa using hvl),?_⟩
  refine roundIn_of_wpIn (F:=fz none) trivial ?_
  have Mm:(ps.zip vs.toArray).foldl (fun (tmps:Array Value) (p:Tmp×Value)=>tmps.setIfInBounds p.1 p.2) a.tmps=(ps.toList.zip vs).foldl (fun t (p:Nat×Value)=>t.setIfInBounds p.1 p.2) a.tmps:=by
   rw [← Array.foldl_toList]; simp [Array.toList_zip]
  have hA3:oq G (Dk.plain [] false) N (aD af) J2 xZ w2 ⟨sL ps.toList as s.env,af⟩ ⟨(ps.zip vs.toArray).foldl (fun (tmps:Array Value) (p:Tmp×Value)=>tmps.setIfInBounds p.1 p.2) a.tmps,[]⟩ w2:=by
   refine ⟨J2,xZ,⟨S2.store,fun t=>?_,?_,Marks.plain _ _,trivial,S.lim⟩,Ext.refl ..⟩
   ·rw [Mm]
    exact CS ps.toList as vs s.env a.tmps N S.size Z3 (by simpa using hlen) U4 (fun q=>(S.env q).ev S.store E2'.ev) t
   ·rw [Mm]; simp only [Ar]; exact S.size
  refine wpIn_mono (iha (ro:=some (w.heap.size+1)) _ _ hv pF.no (Nu.no _) _ _ hA3) ?_
  rintro e a3 w3 hq
  cases e with
  | normal=>
    obtain ⟨s1,hA4,hvb⟩:=hq
    obtain ⟨J3,YZ,S3,E3⟩:=hA4.ex
    have nc3:=E3.nc S2.store
    have Vf:=nc3 _ _ hL2 rfl
    have hD3:=nc3 _ _ hD2 rfl
    refine ⟨_,run_beginRound (P:=P) Vf rfl,?_⟩
    have S4:=S3.store.put (.loop { rc .ready none with state:=.busy }) Vf rfl
    have hL4:(w3.putObj (w.heap.size+1) (.loop { rc .ready none with state:=.busy })).heap[w.heap.size+1]? = some (.loop (rc .busy none)):=World.putObj_heap_same (Array.getElem?_eq_some_iff.1 Vf).1
    have hD4:(w3.putObj (w.heap.size+1) (.loop { rc .ready none with state:=.busy })).heap[w.heap.size]? = some (.deferred (some [])):=(World.putObj_heap_other (by omega)).trans hD3
    have CN3:=CN.put (.loop { rc .ready none with state:=.busy }) Vf rfl
    have hA5:oq G (Dk.plain [] false) N s1.obj J3 YZ (w3.putObj (w.heap.size+1) (.loop { rc .ready none with state:=.busy })) s1 a3 (w3.putObj (w.heap.size+1) (.loop { rc .ready none with state:=.busy })):=by
     refine ⟨J3,YZ,⟨S4,fun t=>(S3.env t).cn S3.store CN3 (fun _ _ _ h=>h),S3.size,?_,trivial,S3.lim⟩,Ext.refl ..⟩
     have:=S3.defers.none rfl
     rw [this]; exact Marks.plain _ _
    have E4:Ext s.obj s1.obj J J3 x_ YZ w (w3.putObj (w.heap.size+1) (.loop { rc .ready none with state:=.busy })):=(E2.trans E3).put _ Vf rfl (by omega) rfl
    refine wpIn_mono (ihb (ro:=some (w.heap.size+1)) _ _ hvb pF.no (Nu.no _) a3 _ hA5) ?_
    rintro e a5 w5 hq
    have close:∀ (s5:St) (pe:Option Code) (yv:LV) (bb:Bool),oq G (Dk.plain [] false) N s1.obj J3 YZ (w3.putObj (w.heap.size+1) (.loop { rc .ready none with state:=.busy })) s5 a5 w5→K' yv bb s5.af→bb=pe.isNone→(∀ (J:Nat→Prop) w ι,dm J w ι yv Go.undef)→
      (∀ w6:World,w6.heap[w.heap.size+1]? = some (.loop (rc (if pe.isNone then .ready else .done) pe))→w6.heap[w.heap.size]? = some (.deferred (some []))→RZ (w.heap.size+1) w.heap.size rc jm yv w6)→
      ∃ v w6,(Instr.endRound (w.heap.size+1) pe).run P w5=.ok v w6∧(fun (e:Ending) w'=>∃ ys' b aA,e=.returned (.bool b)∧K' ys' b aA∧∀ dst,(∀ d,dst=some d→d<Nit)→At G (R3 (w.heap.size+1) w.heap.size rc jm) Nit s.obj J x_ w (gD dst (.bool b) (fun t=>if YS=t then ys' else get t)) (aD aA) (a2.put dst (.bool b)) w') (.returned v) w6:=by
     intro s5 pe yv bb hA6 hk hbb abD hrecv
     obtain ⟨J5,ι5,S5,E5⟩:=hA6.ex
     have nc5:=E5.nc S4
     have hL5:=nc5 _ _ hL4 rfl
     have hD5:=nc5 _ _ hD4 rfl
     have CN5:=CN.put (.loop { rc .busy none with state:=if pe.isNone then .ready else .done,pending:=pe }) hL5 rfl
     refine ⟨_,_,run_endRound (P:=P) pe hL5,yv,bb,s5.af,by rw [hbb],hk,fun dst hd=>?_⟩
     refine ⟨J5,ι5,⟨S5.store.put _ hL5 rfl,fun t=>?_,?_,?_,?_,S2.lim⟩,(E4.trans E5).put _ hL5 rfl (by omega) rfl⟩
     ·have hold:∀ t,dm J5 (w5.putObj (w.heap.size+1) (.loop { rc .busy none with state:=if pe.isNone then .ready else .done,pending:=pe })) ι5 (if YS=t then yv else get t) (a2.tmps.getD t Go.undef):=by
       intro t
       by_cases ht:YS=t
       ·rw [if_pos ht]
        have:a2.tmps.getD t Go.undef=Go.undef:=by
         have h1:=S2.size
         have h2:=S2.lim
         rw [Array.getD_eq_getD_getElem?,Array.getElem?_eq_none (by omega)]; rfl
        rw [this]; exact abD _ _ _
       ·rw [if_neg ht]
        exact ((((S2.env t).ev S2.store E3.ev).cn S3.store CN3 (fun _ _ _ h=>h)).ev S4 E5.ev).cn S5.store CN5 (fun _ _ _ h=>h)
      cases dst with
      | none=>simpa [gD,Act.put] using hold t
      | some d=>
        have Vc:=hd d rfl
        simp only [gD,Act.put,Option.some.injEq]
        by_cases ht:d=t
        ·subst ht
         rw [if_pos rfl]
         have:(a2.tmps.setIfInBounds d (.bool bb)).getD d Go.undef=.bool bb:=by simp [Array.getD_eq_getD_getElem?,S2.size,Vc]
         rw [this]; rfl
        ·rw [if_neg ht]
         have:(a2.tmps.setIfInBounds d (.bool bb)).getD t Go.undef=a2.tmps.getD t Go.undef:=by
          simp [Array.getD_eq_getD_getElem?,Array.getElem?_setIfInBounds_ne ht]
         rw [this]; exact hold t
     ·cases dst <;> simp [Act.put,S2.size]
     ·have h1:=S2.defers.none rfl
      have h2:(a2.put dst (.bool bb)).defers=a2.defers:=by cases dst <;> rfl
      rw [h2,h1]; exact Marks.plain (R3 (w.heap.size+1) w.heap.size rc jm) _
     ·have h2:gD dst (.bool bb) (fun t=>if YS=t then yv else get t) YS=yv:=by
       unfold gD
       rw [if_neg]
       ·simp
       ·intro h
        have h3:=hd YS h
        have:=S2.lim
        omega
      rw [h2]
      exact hrecv _ (World.putObj_heap_same (Array.getElem?_eq_some_iff.1 hL5).1) ((World.putObj_heap_other (by omega)).trans hD5)
    cases e with
    | normal=>
      obtain ⟨s5,hA6,hk⟩:=hq
      exact close s5 none jf true hA6 hk rfl (fun _ _ _=>rfl) (fun w6 h1 h2=>⟨(fun _=>h1),(fun h=>by cases h),(fun _=>h2),rfl⟩)
    | exit i=>
      obtain ⟨Rv,s5,hA6,_,hjm,hk⟩:=hq
      subst hjm
      exact close s5 (some (.exit i)) kj false hA6 hk rfl (fun _ _ _=>⟨#[],rfl,trivial⟩) (fun w6 h1 h2=>⟨(fun h=>by cases h),(fun _=>h1),(fun _=>h2),rfl⟩)
    | ret=>
      obtain ⟨s5,hA6,hjm,hk⟩:=hq
      subst hjm
      exact close s5 (some .ret) kj false hA6 hk rfl (fun _ _ _=>⟨#[],rfl,trivial⟩) (fun w6 h1 h2=>⟨(fun h=>by cases h),(fun _=>h1),(fun _=>h2),rfl⟩)
    | goto l=>exact hq.elim
    | panic ch=>
      obtain ⟨v,s',_,_,_,hx,_⟩:=hq
      exact (hx rfl).elim
    | outgrown=>exact hq.elim
  | exit i=>exact hq.2.elim (fun _ h=>h.2)
  | ret=>exact hq.elim (fun _ h=>h.2)
  | goto l=>exact hq.elim
  | panic ch=>
    obtain ⟨v,s',_,_,_,hx⟩:=hq
    exact hx.elim
  | outgrown=>exact hq.elim
 refine nZ.2 (Calls.mono (aac DY) ?_)
 clear aac DY
 rintro e w3 ⟨v,rfl,yv,aA,J3,YZ,hR,tn,S3,E3⟩
 have E3':=back E3
 have fin:∀ (st:LoopState) (pe:Option Code),w3.heap[w.heap.size+1]? = some (.loop (rc st pe))→w3.heap[w.heap.size]? = some (.deferred (some []))→
   oq G D N bu J0 ck w0 ⟨s.env,aA⟩ { a with defers:=[{ target:=.collected w.heap.size,args:=#[] }]++a.defers } (w3.putObj (w.heap.size+1) (.loop { rc st pe with state:=.exhausted })):=by
  intro st pe Vf hD3
  have CN3:=CN.put (.loop { rc st pe with state:=.exhausted }) Vf rfl
  have E4:=E3'.put (.loop { rc st pe with state:=.exhausted }) Vf rfl (by omega) rfl
  have nc:j4 w (w3.putObj (w.heap.size+1) (.loop { rc st pe with state:=.exhausted })):=E4.nc S.store
  refine ⟨J3,YZ,⟨S3.put _ Vf rfl,fun t=>((S.env t).ev S.store E3'.ev).cn S3 CN3 (fun _ _ _ h=>h),S.size,?_,D.keep _ _ _ nc S.ys,S.lim⟩,E.trans E4⟩
  obtain ⟨Bs,h1,h2,h3,h4⟩:=S.defers
  refine ⟨w.heap.size::Bs,(fun h=>by rw [hmk] at h; cases h),List.nodup_cons.2 ⟨fun h=>?_,h2⟩,by simp [h3],fun b hb=>?_⟩
  ·have:=(Array.getElem?_eq_some_iff.1 (h4 _ h).2).1
   omega
  ·rcases List.mem_cons.1 hb with rfl | hb
   ·exact ⟨by omega,(World.putObj_heap_other (by omega)).trans hD3⟩
   ·exact ⟨(h4 b hb).1,nc _ _ (h4 b hb).2 rfl⟩
 rcases hend yv aA hR with ⟨rfl,hk⟩ | ⟨rfl,hk⟩
 ·exact ⟨none,_,run_endLoop (P:=P) (tn.1 rfl) (by simp [rc]),_,fin _ _ (tn.1 rfl) (tn.2.2.1 (by simp [jf])),hk⟩
 ·refine ⟨some (Wg jm),_,run_endLoop (P:=P) (tn.2.1 rfl) (by simp [rc]),?_⟩
  have hf:=fin _ _ (tn.2.1 rfl) (tn.2.2.1 (by simp [kj]))
  cases jm with
  | none=>exact wpIn_ret ⟨_,hf,hk⟩
  | some i=>exact wpIn_exit ⟨hk.1,_,hf,hk.2⟩
theorem eU:∀ (code:Code) (c:C) {N:Nat},eR P N code=some c→∀ {ro:Option Nat} {nn:Nat} {D:Dk} {bu:Nat→cF} {J0:Nat→Prop} {ck:Nat→Nat→Option Nat} {w0:World} (hrf:kf c=true∨(ro=none∧D.xm=true∧D.lo≤w0.heap.size)) (s:St) (K:wL),vc P G c s K→pF P G ro K.y D N bu J0 ck w0→Nu K.b ck→∀ a w,oq G D N bu J0 ck w0 s a w→code.wpIn (fz ro) nn P (KQ G D N bu J0 ck w0 K) a w
 | .skip,c,N,hc,ro,nn,D,bu,J0,ck,w0,hrf,s,K,h,hY,hB,a,w,hA=>by
   simp only [eR] at hc; cases hc
   exact wpIn_skip ⟨s,hA,h⟩
 | .region rid ops draw,c,N,hc,ro,nn,D,bu,J0,ck,w0,hrf,s,K,h,hY,hB,a,w,hA=>by
   simp only [eR] at hc
   split at hc
   ·rename_i fN Bp
    cases hc
    cases draw with
    | false=>
      simp only [Bool.false_eq_true,if_false,vc] at h
      simp only [mU,Bool.false_eq_true,if_false] at Bp
      obtain ⟨h1,h2⟩:=mV Bp
      exact wpIn_region_list (vL hY (K:=K.n) (fun s a w hA hK=>⟨s,hA,hK⟩) (fun v s a w hd hO hX=>⟨v,s,rfl,hd,hO,hX⟩) _ _ _ _ _ h1 h2 h hA)
    | true=>
      simp only [if_true] at h
      unfold Hp at h
      split at h
      ·rename_i p hp
       split at h
       ·rename_i io oo
        simp only [vc] at h
        exact QV hY (K:=K.n) (fun s a w hA hK=>⟨s,hA,hK⟩) (fun v s a w hd hO hX=>⟨v,s,rfl,hd,hO,hX⟩) Bp oo (List.find?_some hp) h hA
       ·simp only [vc] at h
        exact Ay (K:=K.n) (fun s a w hA hK=>⟨s,hA,hK⟩) (fun v s a w hd hO hX=>⟨v,s,rfl,hd,hO,hX⟩) Bp h hA
      ·simp only [vc] at h
       exact Ay (K:=K.n) (fun s a w hA hK=>⟨s,hA,hK⟩) (fun v s a w hd hO hX=>⟨v,s,rfl,hd,hO,hX⟩) Bp h hA
   ·cases hc
 | .seq x y,c,N,hc,ro,nn,D,bu,J0,ck,w0,hrf,s,K,h,hY,hB,a,w,hA=>by
   simp only [eR] at hc
   split at hc
   ·rename_i cx cy h1 h2
    cases hc
    have cv:kf cx=true∨(ro=none∧D.xm=true∧D.lo≤w0.heap.size):=hrf.imp (fun h=>by simp only [kf,Bool.and_eq_true] at h; exact h.1) id
    have lE:kf cy=true∨(ro=none∧D.xm=true∧D.lo≤w0.heap.size):=hrf.imp (fun h=>by simp only [kf,Bool.and_eq_true] at h; exact h.2) id
    refine wpIn_seq (wpIn_mono (eU x cx h1 cv s _ h hY hB a w hA) (fun e a' w' hq=>?_))
    cases e with
    | normal=>obtain ⟨s',uR,hk⟩:=hq; exact eU y cy h2 lE s' K hk hY hB a' w' uR
    | exit i=>exact hq
    | ret=>exact hq
    | goto l=>exact hq.elim
    | panic ch=>exact hq
    | outgrown=>exact hq.elim
   ·cases hc
 | .cond x y z,c,N,hc,ro,nn,D,bu,J0,ck,w0,hrf,s,K,h,hY,hB,a,w,hA=>by
   simp only [eR] at hc
   split at hc
   ·rename_i cx cy cz h1 h2 h3
    cases hc
    have lE:kf cy=true∨(ro=none∧D.xm=true∧D.lo≤w0.heap.size):=hrf.imp (fun h=>by simp only [kf,Bool.and_eq_true] at h; exact h.1) id
    have hrz:kf cz=true∨(ro=none∧D.xm=true∧D.lo≤w0.heap.size):=hrf.imp (fun h=>by simp only [kf,Bool.and_eq_true] at h; exact h.2) id
    simp only [vc] at h
    split at h
    ·rename_i t ht
     have hv:a.eval x=.bool t:=by
      obtain ⟨J,ι,S,E⟩:=hA.ex
      have hr:=bf S.store S.env h1
      rw [ht] at hr
      exact hr
     exact wpIn_cond_split hv (fun hh=>eU y cy h2 lE s K (by rw [if_pos hh] at h; exact h) hY hB a w hA) (fun hh=>eU z cz h3 hrz s K (by rw [if_neg (by simp [hh])] at h; exact h) hY hB a w hA)
    ·rename_i ht
     obtain ⟨t,hv⟩:∃ t,a.eval x=.bool t:=by
      obtain ⟨J,ι,S,E⟩:=hA.ex
      have hr:=bf S.store S.env h1
      rw [ht] at hr
      exact hr
     exact wpIn_cond_split hv (fun hh=>eU y cy h2 lE s K h.1 hY hB a w hA) (fun hh=>eU z cz h3 hrz s K h.2 hY hB a w hA)
    ·exact h.elim
   ·cases hc
 | .block i x,c,N,hc,ro,nn,D,bu,J0,ck,w0,hrf,s,K,h,hY,hB,a,w,hA=>by
   simp only [eR] at hc
   split at hc
   ·rename_i cx h1
    by_cases Rv:i=gY
    ·rw [if_pos Rv] at hc; cases hc
    rw [if_neg Rv] at hc
    cases hc
    refine wpIn_block (wpIn_mono (eU x cx h1 hrf s _ h hY hB a w hA) (fun e a' w' hq=>?_))
    cases e with
    | normal=>exact hq
    | exit j=>
      obtain ⟨hjP,s',uR,hk⟩:=hq
      simp only [Exit.inBlock]
      dsimp only at hk
      by_cases hj:j=i
      ·rw [if_pos hj] at hk ⊢; exact ⟨s',uR,hk⟩
      ·rw [if_neg hj] at hk ⊢; exact ⟨hjP,s',uR,hk⟩
    | ret=>exact hq
    | goto l=>exact hq.elim
    | panic ch=>
      obtain ⟨v,s',h1,h2,h3,hk⟩:=hq
      dsimp only at hk
      rw [if_neg (fun e=>Rv e.symm)] at hk
      exact ⟨v,s',h1,h2,h3,hk⟩
    | outgrown=>exact hq.elim
   ·cases hc
 | .loop x,c,N,hc,ro,nn,D,bu,J0,ck,w0,hrf,s,K,h,hY,hB,a,w,hA=>by
   simp only [eR] at hc
   split at hc
   ·rename_i cx h1
    cases hc
    simp only [vc] at h
    obtain ⟨ts,I,M,ad,hI,hstep⟩:=h
    replace hA:=hA.dg ad
    have hm:∀ o n b,ck o n=some b→o<(dg ad s).af.length:=fun o n b hb=>hA.bound hb
    have key:∀ n k s' a w,k<n→I k s'→oq G D N bu J0 ck w0 s' a w→Code.roundsIn (fz ro) nn P x (KQ G D N bu J0 ck w0 K) n a w:=by
     intro n
     induction n with
     | zero=>intro k _ _ _ hk; omega
     | succ n ih=>
       intro k s' a w hk hIk uR
       rw [roundsIn_succ]
       refine wpIn_mono (eU x cx h1 hrf s' _ (hstep k s' hIk) hY hB a w uR) (fun e a' w' hq=>?_)
       cases e with
       | normal=>
         obtain ⟨s'',adA,j,hj,s3,hIj,himp⟩:=hq
         exact ih j _ a' w' (by omega) hIj (himp _ _ _ _ _ _ _ _ (hB.lt hm) adA)
       | exit i=>exact hq
       | ret=>exact hq
       | goto l=>exact hq.elim
       | panic ch=>exact hq
       | outgrown=>exact hq.elim
    exact wpIn_loop_rounds (M+1) (key (M+1) M _ a w (by omega) hI (hA.aa4 ts))
   ·cases hc
 | .exit i,c,N,hc,ro,nn,D,bu,J0,ck,w0,hrf,s,K,h,hY,hB,a,w,hA=>by
   simp only [eR] at hc
   by_cases Rv:i=gY
   ·rw [if_pos Rv] at hc; cases hc
   rw [if_neg Rv] at hc
   cases hc
   exact wpIn_exit ⟨Rv,s,hA,h⟩
 | .scope x,c,N,hc,ro,nn,D,bu,J0,ck,w0,hrf,s,K,h,hY,hB,a,w,hA=>by
   simp only [eR] at hc
   split at hc
   ·rename_i cx h1
    cases hc
    refine rY (wpIn_mono (eU x cx h1 hrf s K h hY hB a w hA) (fun e a' w' hq=>?_))
    cases e with
    | normal=>exact hq
    | exit i=>exact hq
    | ret=>exact hq
    | goto l=>exact hq.elim
    | panic ch=>exact hq
    | outgrown=>exact hq.elim
   ·cases hc
 | .ret,c,N,hc,ro,nn,D,bu,J0,ck,w0,hrf,s,K,h,hY,hB,a,w,hA=>by
   simp only [eR] at hc; cases hc
   exact wpIn_ret ⟨s,hA,h⟩
 | .label _,c,N,hc,ro,nn,D,bu,J0,ck,w0,hrf,s,K,h,hY,hB,a,w,hA=>by
   simp only [eR] at hc; cases hc
   exact wpIn_label ⟨s,hA,h⟩
 | .goto _,c,N,hc,_,_,_,_,_,_,_,_,_,_,_,_,_,_,_,_=>by simp [eR] at hc
 | .refuse _,c,N,hc,_,_,_,_,_,_,_,_,_,_,_,_,_,_,_,_=>by simp [eR] at hc
 | .rangeFunc g ps ca cb,c,N,hc,ro,nn,D,bu,J0,ck,w0,hrf,s,K,h,hY,hB,a,w,hA=>by
   simp only [eR] at hc
   split at hc
   ·rename_i cg xa xb h1 h2 h3
    split at hc
    ·rename_i hok
     cases hc
     simp only [Bool.and_eq_true,List.all_eq_true,decide_eq_true_eq] at hok
     obtain ⟨⟨hna,hnb⟩,Z3⟩:=hok
     obtain ⟨hro,hmk,hlo⟩:ro=none∧D.xm=true∧D.lo≤w0.heap.size:=hrf.resolve_left (by simp [kf])
     subst hro
     simp only [vc] at h
     split at h
     ·rename_i k fs cs jq
      exact Lw h1 Z3 hmk hlo (fun s K h hY hB a w hA=>eU ca xa h2 (.inl hna) s K h hY hB a w hA) (fun s K h hY hB a w hA=>eU cb xb h3 (.inl hnb) s K h hY hB a w hA) jq h a w hA
     ·exact h.elim
    ·cases hc
   ·cases hc
end
def RV.of (s:St):RV→Option LV
 | .t n=>some (s.get n)
 | .c1 n=>match s.get n with
   | .ptr o col=>match s.obj o with
     | .live (.box _ cells)=>cells[col]?
     | _=>none
   | _=>none
 | .cn n size=>match s.get n with
   | .ptr o col=>match s.obj o with
     | .live (.box _ cells)=>if ((cells.drop col).take size).length=size then some (.agg ((cells.drop col).take size)) else none
     | _=>none
   | _=>none
def yE.of (s:St):List RV→Option (List LV)
 | []=>some []
 | x::xs=>match x.of s,yE.of s xs with
   | some v,some vs=>some (v::vs)
   | _,_=>none
def aU:List LV→LV
 | [x]=>x
 | xs=>.dJ xs
def Eo (P:Program):ResultVar→Option RV
 | .tmp t=>some (.t t)
 | .cell a T=>match og P T,dS P T with
   | some true,some n=>some (.cn a n)
   | some false,some _=>some (.c1 a)
   | _,_=>none
def o8 (P:Program):List ResultVar→Option (List RV)
 | []=>some []
 | x::xs=>match Eo P x,o8 P xs with
   | some y,some ys=>some (y::ys)
   | _,_=>none
def aj (P:Program) (fn:Func):Option (Nat×C×List RV):=match fn.body with
 | some code=>match eR P fn.ntmps code,o8 P fn.results.toList with
   | some c,some rv=>if fn.ntmps≤YS then some (fn.ntmps,c,rv) else none
   | _,_=>none
 | none=>none
def fF:Nat→List LV→List (Nat×LV)
 | _,[]=>[]
 | k,x::xs=>(k,x)::fF (k+1) xs
def acI (rv:List RV) (k:Nat) (r:LV) (ax:List aH) (s:St):Prop:=
 ∃ vs ρ Z,yE.of s rv=some vs∧ρ.take k=List.range k∧ρ.Nodup∧(∀ z∈Z,z∉ρ)∧(∀ z∈Z,∃ et e rows,s.obj z=.live (.dat et e rows)∨s.obj z=.live (.kW et e rows))∧ax.length=ρ.length∧
   (∀ (i o:Nat),ρ[i]? = some o→∃ ob,ax[i]? = some ob∧s.obj o=.live (fB (bB ρ 0) ob))∧ax.all (dZ ρ.length)=true∧ah s.obj ρ Z (aU vs) r
def vv (rv:List RV) (k:Nat) (r:LV) (ax:List aH) (s:St):Prop:=∃ ad,acI rv k r ax (dg ad s)
def Fh (tmps:Array Value):ResultVar→Sem Value
 | .tmp q=>pure (tmps.getD q Go.undef)
 | .cell p T=>do loadVar T (← asAddr (tmps.getD p Go.undef))
theorem sZ (fn:Func) (tmps:Array Value):results fn tmps=(do let vs ← fn.results.mapM (Fh tmps); pure (if h:vs.size=1 then vs[0] else .tuple vs)):=rfl
section
variable {P:Program} {G:Nat→Option (List DV)} {N:Nat} {J:Nat→Prop} {w:World} {ι:Nat→Nat→Option Nat}
theorem RV.sound {s:St} {a:Act} (S:aI G J w ι s.obj) (he:∀ t,dm J w ι (s.get t) (a.tmps.getD t Go.undef)) {x:ResultVar} {y:RV} (hc:Eo P x=some y) {r:LV} (hr:y.of s=some r) :
  ∃ v,(Fh a.tmps x).run P w=.ok v w∧dm J w ι r v:=by
 cases x with
 | tmp q=>
   simp only [Eo] at hc; cases hc
   simp only [RV.of] at hr; cases hr
   exact ⟨_,rfl,he q⟩
 | cell p T=>
   simp only [Eo] at hc
   split at hc
   ·rename_i n ha hs
    cases hc
    simp only [RV.of] at hr
    split at hr
    ·rename_i o col hg
     split at hr
     ·rename_i et cells ho
      split at hr
      ·rename_i hl
       cases hr
       have hp:=he p
       rw [hg] at hp
       obtain ⟨b,hb,hv⟩:=hp
       have h0:=S.rep o
       rw [ho] at h0
       obtain ⟨⟨b',Cc,h1,h2,h3⟩,_⟩:=h0
       rw [hb] at h1; cases h1
       have h4:=(h3.drop col).take n
       have hrun:=Dq (P:=P) ha hs (lQ h2 col n) (by rw [← h4.length,hl])
       refine ⟨_,?_,⟨_,rfl,by simpa using h4⟩⟩
       simp only [Fh]
       rw [hv]
       simpa [Instr.loadAt,Instr.sureAddr,asAddr] using hrun
      ·cases hr
     ·cases hr
    ·cases hr
   ·rename_i n ha hs
    cases hc
    simp only [RV.of] at hr
    split at hr
    ·rename_i o col hg
     split at hr
     ·rename_i et cells ho
      have hp:=he p
      rw [hg] at hp
      obtain ⟨b,hb,hv⟩:=hp
      have h0:=S.rep o
      rw [ho] at h0
      obtain ⟨⟨b',Cc,h1,h2,h3⟩,_⟩:=h0
      rw [hb] at h1; cases h1
      obtain ⟨u,hu,_,Io⟩:=h3.get hr
      have hrun:=yf (P:=P) (w:=w) ha (b:=b) (o:=col) (v:=u) (by rw [cell_of_row w b col Cc et _ h2]; simpa using hu)
      refine ⟨u,?_,Io⟩
      simp only [Fh]
      rw [hv]
      simpa [Instr.loadAt,Instr.sureAddr,asAddr] using hrun
     ·cases hr
    ·cases hr
   ·cases hc
theorem yE.sound {s:St} {a:Act} (S:aI G J w ι s.obj) (he:∀ t,dm J w ι (s.get t) (a.tmps.getD t Go.undef)):∀ {xs:List ResultVar} {ys:List RV},o8 P xs=some ys→∀ {rs:List LV},yE.of s ys=some rs→
  ∃ vs,(xs.mapM (Fh a.tmps)).run P w=.ok vs w∧cu J w ι rs vs
 | [],ys,hc,rs,hr=>by
   simp only [o8] at hc; cases hc
   simp only [yE.of] at hr; cases hr
   exact ⟨[],rfl,trivial⟩
 | x::xs,ys,hc,rs,hr=>by
   simp only [o8] at hc
   split at hc
   ·rename_i y ys' h1 h2
    cases hc
    simp only [yE.of] at hr
    split at hr
    ·rename_i v vs h3 h4
     cases hr
     obtain ⟨u,hu,Io⟩:=RV.sound S he h1 h3
     obtain ⟨us,Yw,Bk⟩:=yE.sound S he h2 h4
     refine ⟨u::us,?_,Io,Bk⟩
     rw [List.mapM_cons,Sem.run_bind,hu]
     simp only [Result.andThen_ok,Sem.run_bind,Yw,Sem.run_pure]
    ·cases hr
   ·cases hc
theorem mu:∀ (xs:List LV) (vs:List Value) (k t:Nat),cu J w ι xs vs→dm J w ι (aZ (fF k xs) t) (if k≤t then (vs[t-k]?).getD Go.undef else Go.undef)
 | [],[],k,t,_=>trivial
 | x::xs,v::vs,k,t,h=>by
   simp only [fF,aZ]
   by_cases hk:k=t
   ·subst hk; simpa using h.1
   ·rw [if_neg hk]
    have:=mu xs vs (k+1) t h.2
    by_cases hlt:k≤t
    ·rw [if_pos (by omega)] at this
     rw [if_pos hlt]
     have e:t-k=(t-(k+1))+1:=by omega
     rw [e]; simpa using this
    ·rw [if_neg (by omega)] at this
     rw [if_neg hlt]; exact this
 | [],_::_,_,_,h=>h.elim
 | _::_,[],_,_,h=>h.elim
theorem uJ {n:Nat} {fn:Func} {tmps:Array Value} {R:Ending→World→Prop} {obj bu:Nat→cF} {J0:Nat→Prop} {ck:Nat→Nat→Option Nat} {w0:World} {get:Nat→LV}
  (fin:∀ w,aI G J w ι obj→(∀ t,dm J w ι (get t) (tmps.getD t Go.undef))→Ext bu obj J0 J ck ι w0 w→∃ v,(results fn tmps).run P w=.ok v w∧R (.returned v) w) :
  ∀ (Bs:List Nat) (w:World),Bs.Nodup→(∀ b∈Bs,w0.heap.size≤b∧w.heap[b]? = some (.deferred (some [])))→aI G J w ι obj→(∀ t,dm J w ι (get t) (tmps.getD t Go.undef))→Ext bu obj J0 J ck ι w0 w→
    LeavesInM (fz none) n P fn tmps R (Bs.map fun b=>{ target:=.collected b,args:=#[] }) .returning w
 | [],w,_,_,S,he,E=>fin w S he E
 | b::Bs,w,hn,hb,S,he,E=>by
   obtain ⟨h1,h2⟩:=hb b (by simp)
   have hn':=List.nodup_cons.1 hn
   have CN3:=CN.put (.deferred none) h2 rfl
   refine ⟨by simp,.inl ⟨b,_,rfl,run_takeDeferred (P:=P) h2,?_⟩⟩
   refine uJ fin Bs _ hn'.2 (fun b' hb'=>?_) (S.put _ h2 rfl) (fun t=>(he t).cn S CN3 (fun _ _ _ h=>h)) (E.put _ h2 rfl h1 rfl)
   have hne:b'≠b:=fun e=>hn'.1 (e ▸ hb')
   exact ⟨(hb b' (by simp [hb'])).1,(World.putObj_heap_other hne).trans (hb b' (by simp [hb'])).2⟩
theorem RG {f:Nat} {fn:Func} {c:C} {rv:List RV} {args:List LV} {aK ax:List aH} {r:LV} (hf:P.funcs[f]? = some fn) (hn:fn.name≠ "runtime.NumGoroutine") (g_:aj P fn=some (N,c,rv)) (hl:args.length≤N) (bb:Option Nat)
  (h:vc P G c ⟨fF 0 args,aK.map some⟩ ⟨vv rv aK.length r ax,fun _ _=>False,vv rv aK.length r ax,rN,bb⟩) (hbb:∀ B,bb=some B→aK.length≤B):bw P G f args aK r ax:=by
 unfold aj at g_
 split at g_
 ·rename_i code hbody
  split at g_
  ·rename_i c' rv' hc Mn
   split at g_
   case isFalse=>cases g_
   rename_i hlim
   cases g_
   refine ⟨by simp [mS,hf,hn,hbody],fun J0 ck w0 vs S0 hargs=>?_⟩
   have hvl:vs.size=args.length:=by have:=hargs.length; simpa using this.symm
   refine (nZ (ro:=none) (n:=0)).1 (callsIn_of_wp_marks hf hbody trivial (wpIn_mono (eU (N:=fn.ntmps) (D:=Dk.plain [] true w0.heap.size) (bu:=aD (aK.map some)) (J0:=J0) (ck:=ck) (w0:=w0) code c hc (.inr ⟨rfl,rfl,Nat.le_refl _⟩) _ _ h pF.no (fun B hB o n x hx=>Nat.lt_of_not_le (fun ho=>by
    have:=S0.rep o
    rw [cR (by have:=hbb B hB; simp; omega)] at this
    rw [this n] at hx; cases hx)) _ w0 ⟨J0,ck,⟨S0,fun t=>?_,?_,Marks.plain _ _,trivial,hlim⟩,Ext.refl ..⟩) (fun e a w hq=>?_)))
   ·have h1:=mu args vs.toList 0 t hargs
    simp only [Nat.zero_le,if_true,Nat.sub_zero] at h1
    have h2:(vs++Array.replicate (fn.ntmps-vs.size) Go.undef).getD t Go.undef=(vs.toList[t]?).getD Go.undef:=by
     simp only [Array.getD_eq_getD_getElem?,Array.getElem?_append,Array.getElem?_toList]
     by_cases ht:t<vs.size
     ·rw [if_pos ht]
     ·rw [if_neg ht,Array.getElem?_eq_none (Nat.le_of_not_lt ht),Array.getElem?_replicate]
      split <;> rfl
    rw [h2]; exact h1
   ·simp; omega
   ·have fin:∀ s,oq G (Dk.plain [] true w0.heap.size) fn.ntmps (aD (aK.map some)) J0 ck w0 s a w→vv rv aK.length r ax s→
     LeavesInM (fz none) 0 P fn a.tmps (fun e w'=>∃ v,e=.returned v∧bg G (aD (aK.map some)) (aD (ax.map some)) J0 ck w0 r v w') a.defers .returning w:=by
     intro s hA hB
     obtain ⟨ad,hB⟩:=hB
     replace hA:=hA.dg ad
     generalize dg ad s=s at hA hB
     obtain ⟨J,ι,S,E⟩:=hA.ex
     obtain ⟨rs,ρ,Z,Cx,hk,hnd,hz,Bt,hlen,eX,hid,hR⟩:=hB
     obtain ⟨Bs,_,hBn,hBd,hBm⟩:=S.defers
     have acj:a.defers=Bs.map (fun b=>{ target:=.collected b,args:=#[] }):=by rw [hBd]; simp [Dk.plain]
     rw [acj]
     refine uJ (get:=s.get) ?_ Bs w hBn hBm S.store S.env E
     clear hA hBm
     have acD:=S.env
     have Sst:=S.store
     clear S E hBd acj
     intro w Sst acD E
     obtain ⟨us,Yw,Bk⟩:=yE.sound Sst acD Mn Cx
     have hm:(fn.results.mapM (Fh a.tmps)).run P w=.ok us.toArray w:=by
      rw [Array.mapM_eq_mapM_toList,Sem.run_map,Yw]; rfl
     have hv:∃ v,(results fn a.tmps).run P w=.ok v w∧dm J w ι (aU rs) v:=by
      refine ⟨if h:us.toArray.size=1 then us.toArray[0] else .tuple us.toArray,?_,?_⟩
      ·rw [sZ,Sem.run_bind,hm]
       rfl
      ·have PL:=Bk.length
       cases rs with
       | nil=>
         cases us with
         | nil=>exact ⟨#[],rfl,trivial⟩
         | cons _ _=>simp at PL
       | cons x xs=>
         cases us with
         | nil=>simp at PL
         | cons u us=>
           cases xs with
           | nil=>
             cases us with
             | nil=>exact Bk.1
             | cons _ _=>simp at PL
           | cons y ys=>
             cases us with
             | nil=>simp at PL
             | cons u2 us=>exact ⟨_,by simp,Bk⟩
     obtain ⟨v,hv1,Il⟩:=hv
     refine ⟨v,hv1,v,rfl,?_⟩
     obtain ⟨S',hown⟩:=Sst.sub (base:=0) hnd hz hlen eX hid Bt
     refine ⟨_,_,S',pE Sst _ _ v hR Il,⟨E.ev.os,E.ev.tape,E.ev.output,E.ev.size,E.ev.same,E.ev.shape,fun b hb=>.inl (E.ev.iB b hb),fun b hb=>?_,fun o n b hb=>?_⟩,?_⟩
     ·rcases hb with hb | ⟨z,ZX,Ij⟩
      ·exact E.ev.vZ b hb
      ·rcases E.own b ⟨z,Ij⟩ with h1 | h1
       ·exact .inr (.inr h1)
       ·exact .inr (.inl h1)
     ·have ho:o<aK.length:=by
       rcases Nat.lt_or_ge o aK.length with h1 | h1
       ·exact h1
       ·have:=S0.rep o
        rw [cR (by simpa using h1)] at this
        rw [this n] at hb; cases hb
      have acU:ρ[o]? = some o:=by
       have h1:(ρ.take aK.length)[o]? = some o:=by rw [hk]; simp [ho]
       rwa [List.getElem?_take_of_lt ho] at h1
      exact lM acU (E.ev.iC o n b hb)
     ·rintro b ⟨i,hb⟩
      obtain ⟨o,_,h2⟩:=hown i b hb
      exact E.own b ⟨o,h2⟩
    cases e with
    | normal=>obtain ⟨s,hA,hB⟩:=hq; exact fin s hA hB
    | ret=>obtain ⟨s,hA,hB⟩:=hq; exact fin s hA hB
    | exit i=>obtain ⟨_,s,hA,hB⟩:=hq; exact hB.elim
    | goto l=>exact hq.elim
    | panic ch=>obtain ⟨v,s,h1,h2,h3,hk⟩:=hq; exact hk.elim
    | outgrown=>exact hq.elim
  ·cases g_
 ·cases g_
theorem yQ {f:Nat} {fn:Func} {c:C} {rv:List RV} {args:List LV} {aK ax:List aH} {r:LV} (hf:P.funcs[f]? = some fn) (hn:fn.name≠ "runtime.NumGoroutine") (g_:aj P fn=some (N,c,rv)) (hl:args.length≤N)
  (h:vc P G c ⟨fF 0 args,aK.map some⟩ ⟨vv rv aK.length r ax,fun _ _=>False,vv rv aK.length r ax,rN,none⟩):bw P G f args aK r ax:=
 RG hf hn g_ hl none h (fun _ h=>by cases h)
theorem Kc {f:Nat} {fn:Func} {c:C} {rv:List RV} {args:List LV} {af:List (Option aH)} {Y:YO} {R:LV→List (Option aH)→Prop} (hf:P.funcs[f]? = some fn) (hn:fn.name≠ "runtime.NumGoroutine") (g_:aj P fn=some (N,c,rv)) (hl:args.length≤N) (Iu:kf c=true)
  (h:vc P G c ⟨(YS,jf)::fF 0 args,af⟩ ⟨fun s=>R (s.get YS) s.af∧rv=[],fun _ _=>False,fun s=>R (s.get YS) s.af∧rv=[],Y,none⟩):GU P G f args af Y R:=by
 unfold aj at g_
 split at g_
 ·rename_i code hbody
  split at g_
  ·rename_i c' rv' hc Mn
   split at g_
   case isFalse=>cases g_
   rename_i hlim
   cases g_
   refine ⟨by simp [mS,hf,hn,hbody],fun D bu J0 ck w0 J ι w vs hds hmk S0 hargs E0 hys hY=>?_⟩
   have hvl:vs.size=args.length:=by have:=hargs.length; simpa using this.symm
   refine (nZ (ro:=none) (n:=0)).1 (callsIn_of_wp hf hbody trivial (wpIn_mono (eU (N:=fn.ntmps) (D:=D) (bu:=bu) (J0:=J0) (ck:=ck) (w0:=w0) code c hc (.inl Iu) _ _ h (hY _) (Nu.no _) _ w ⟨J,ι,⟨S0,fun t=>?_,?_,?_,?_,hlim⟩,E0⟩) (fun e a w hq=>?_)))
   ·have hsz:(vs++Array.replicate (fn.ntmps-vs.size) Go.undef).size=fn.ntmps:=by simp; omega
    show dm J w ι (if YS=t then jf else aZ (fF 0 args) t) _
    by_cases ht:YS=t
    ·rw [if_pos ht]
     have:(vs++Array.replicate (fn.ntmps-vs.size) Go.undef).getD t Go.undef=Go.undef:=by
      rw [Array.getD_eq_getD_getElem?,Array.getElem?_eq_none (by omega)]; rfl
     rw [this]; rfl
    rw [if_neg ht]
    have h1:=mu args vs.toList 0 t hargs
    simp only [Nat.zero_le,if_true,Nat.sub_zero] at h1
    have h2:(vs++Array.replicate (fn.ntmps-vs.size) Go.undef).getD t Go.undef=(vs.toList[t]?).getD Go.undef:=by
     simp only [Array.getD_eq_getD_getElem?,Array.getElem?_append,Array.getElem?_toList]
     by_cases ht:t<vs.size
     ·rw [if_pos ht]
     ·rw [if_neg ht,Array.getElem?_eq_none (Nat.le_of_not_lt ht),Array.getElem?_replicate]
      split <;> rfl
    rw [h2]; exact h1
   ·simp; omega
   ·show Marks D [] _
    rw [← hds]; exact Marks.plain _ _
   ·exact hys
   ·have fin:∀ s,oq G D fn.ntmps bu J0 ck w0 s a w→R (s.get YS) s.af∧rv=[]→
     a.defers=[]∧∃ v,(results fn a.tmps).run P w=.ok v w∧(fun (e:Ending) w'=>∃ v,e=.returned v∧∃ yv aA J' ι',R yv aA∧D.ys yv w'∧aI G J' w' ι' (aD aA)∧Ext bu (aD aA) J0 J' ck ι' w0 w') (.returned v) w:=by
     intro s hA hB
     obtain ⟨J,ι,S,E⟩:=hA.ex
     have hd:a.defers=[]:=by rw [S.defers.none hmk,hds]
     refine ⟨hd,?_⟩
     obtain ⟨hR,rfl⟩:=hB
     obtain ⟨us,Yw,Bk⟩:=yE.sound S.store S.env Mn (rs:=[]) rfl
     have hm:(fn.results.mapM (Fh a.tmps)).run P w=.ok us.toArray w:=by
      rw [Array.mapM_eq_mapM_toList,Sem.run_map,Yw]; rfl
     refine ⟨if h:us.toArray.size=1 then us.toArray[0] else .tuple us.toArray,?_,_,rfl,_,_,J,ι,hR,S.ys,S.store,E⟩
     rw [sZ,Sem.run_bind,hm]
     rfl
    cases e with
    | normal=>obtain ⟨s,hA,hB⟩:=hq; exact fin s hA hB
    | ret=>obtain ⟨s,hA,hB⟩:=hq; exact fin s hA hB
    | exit i=>obtain ⟨_,s,hA,hB⟩:=hq; exact hB.elim
    | goto l=>exact hq.elim
    | panic ch=>obtain ⟨v,s,h1,h2,h3,hk⟩:=hq; exact hk.elim
    | outgrown=>exact hq.elim
  ·cases g_
 ·cases g_
end
end Dv
