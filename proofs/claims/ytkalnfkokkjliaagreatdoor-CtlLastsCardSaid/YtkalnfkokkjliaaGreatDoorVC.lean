/- part -/
import Derived.Test.YtkalnfkokkjliaaGreatDoorVB
import Derived.Laws.BytesString
import Derived.OwnWalk
import Derived.MapKept
import Derived.Laws.LoneSync
import Derived.LoopN
import Derived.OwnWalkIn
import Derived.RangeFuncCalls
import Derived.RangeFuncIn
import Derived.RangeFuncNested
import Derived.RangeFuncBound
import Derived.Scope
import Derived.Below
import Derived.LoopNIn
import Derived.RangeFuncLeaves
set_option linter.all false
set_option maxHeartbeats 400000
namespace Dv
open Go
def DH:Operand→Operand→Bool
 | .tmp i,.tmp j=>i==j
 | .const (.int k a),.const (.int k' b)=>k==k'&&a==b
 | _,_=>false
theorem Fk {x y:Operand} (h:DH x y=true) (a:Act):a.eval x=a.eval y:=by
 unfold DH at h
 split at h
 ·rename_i i j
  have:i=j:=by simpa using h
  rw [this]
 ·simp only [Bool.and_eq_true,beq_iff_eq] at h
  rw [h.1,h.2]
 ·cases h
def Ay (P:Program) (t:TypeId):Bool:=match P.underlying t with
 | some (.int .i64)=>true
 | _=>false
theorem F7 {P:Program} {t:TypeId} (h:Ay P t=true):P.underlying t=some (.int .i64):=by
 unfold Ay at h
 split at h
 ·assumption
 ·cases h
def iN (P:Program):Op→Option M
 | .slice T x lo hi none=>match aL x,fK lo,fK hi,P.underlying T with
   | some x,some lo,some hi,some (.array n e)=>if dX P e=some 1 then some (.sla n x lo hi) else none
   | _,_,_,_=>none
 | .call ⟨.builtin .copy,args,ts⟩=>match args.toList,ts.toList with
   | [x,y],[tx,ty]=>match aL x,aL y,P.underlying tx with
     | some x,some y,some (.slice e)=>if dX P e=some 1∧Og P ty=true then some (.cpy x y) else none
     | _,_,_=>none
   | _,_=>none
 | .makeSlice T l c=>match aL l,P.underlying T with
   | some n,some (.slice e)=>match p_ P e,xY P e with
     | some z,some (size,bytes)=>if DH l c=true∧z.length=size then some (.xN e size bytes z n) else none
     | _,_=>none
   | _,_=>none
 | .convert S T x=>match aL x,P.underlying S,P.underlying T with
   | some x,some (.slice e),some .string=>match P.underlying e with
     | some (.int .u8)=>some (.b2s x)
     | _=>none
   | _,_,_=>none
 | .unOp .xor _ x=>match aL x with
   | some x=>some (.cpl x)
   | none=>none
 | .call ⟨.builtin .clear,args,ts⟩=>match args.toList,ts.toList with
   | [x],[tx]=>match aL x,P.underlying tx with
     | some x,some (.slice e)=>match p_ P e,dX P e with
       | some z,some n=>if z.length=n then some (.clr n z x) else none
       | _,_=>none
     | _,_=>none
   | _,_=>none
 | .makeMap _ none=>some .mkm
 | .mapUpdate T m k x=>match aL m,aL k,aL x,P.underlying T with
   | some m,some k,some x,some (.map kt _)=>if Ay P kt=true then some (.mup m k x) else none
   | _,_,_,_=>none
 | .insert T m k x=>match aL m,aL k,aL x,P.underlying T with
   | some m,some k,some x,some (.map kt _)=>if Ay P kt=true then some (.mup m k x) else none
   | _,_,_,_=>none
 | .lookup T m k ok=>match aL m,aL k,P.underlying T with
   | some m,some k,some (.map kt et)=>match P.info? et with
     | some i=>match i.zero with
       | some z=>if Ay P kt=true then some (.mlk z ok m k) else none
       | none=>none
     | none=>none
   | _,_,_=>none
 | _=>none
def A9 (P:Program):Op→Option M
 | .call ⟨.value (.func f),args,_⟩=>match P.funcs[f]? with
   | some fn=>if fn.body.isNone=true∧fn.origin = "" then
     (if fn.name = "sync/atomic.LoadInt64" then (match args.toList with
      | [x]=>match aL x with
        | some x=>some (.atl x)
        | none=>none
      | _=>none)
     else if fn.name = "sync/atomic.AddInt64" then (match args.toList with
      | [x,y]=>match aL x,aL y with
        | some x,some y=>some (.ata x y)
        | _,_=>none
      | _=>none)
     else none) else none
   | none=>none
 | _=>none
def nq (P:Program) (op:Op):Option I:=match A9 P op with
 | some m=>some (.more m)
 | none=>match cT P op with
   | some i=>some i
   | none=>match iN P op with
     | some m=>some (.more m)
     | none=>some (.more .stk)
theorem x_ {P:Program} {op:Op} {i:I} (h:nq P op=some i):cT P op=some i∨∃ m,i=.more m∧(iN P op=some m∨A9 P op=some m∨m=.stk):=by
 unfold nq at h
 split at h
 ·rename_i m hm; cases h; exact .inr ⟨m,rfl,.inr (.inl hm)⟩
 ·split at h
  ·rename_i j hj; cases h; exact .inl hj
  ·split at h
   ·rename_i m hm; cases h; exact .inr ⟨m,rfl,.inl hm⟩
   ·cases h; exact .inr ⟨_,rfl,.inr (.inr rfl)⟩
theorem tT {P:Program} {op:Op} {f:bX} {as:List bX} (h:nq P op=some (.call f as)):cT P op=some (.call f as):=by
 rcases x_ h with h | ⟨m,h,_⟩
 ·exact h
 ·cases h
theorem Q8 {fn:Func} (h:fn.name = "sync/atomic.AddInt64"):Extern.find fn=some (Extern.Atomic.update (Op.intArith .add) .i64 true):=by
 unfold Extern.find
 rw [h]
 kernel_rfl
theorem MV {fn:Func} (h:fn.name = "sync/atomic.LoadInt64"):Extern.find fn=some (Extern.Atomic.loadT (.int .i64)):=by
 unfold Extern.find
 rw [h]
 kernel_rfl
theorem Pj {fn:Func} (h:fn.name = "sync/atomic.AddInt64") (h2:fn.origin = ""):Extern.findNext fn=none:=by
 unfold Extern.findNext
 rw [h2,h]
 kernel_rfl
theorem L_ {fn:Func} (h:fn.name = "sync/atomic.LoadInt64") (h2:fn.origin = ""):Extern.findNext fn=none:=by
 unfold Extern.findNext
 rw [h2,h]
 kernel_rfl
section
variable {P:Program} {G:Nat→Option (List DV)} {J:Nat→Prop} {w w':World} {ι:Nat→Nat→Option Nat} {obj:Nat→cG} {a:Act} {get:Nat→LV} {base:Nat}
theorem R7 {T e:TypeId} {n:Nat} (hu:P.underlying T=some (.array n e)) (hs:dX P e=some 1) {b col l h:Nat} {lo hi:Option Value} (h1:BV lo 0 l) (h2:BV hi n h) (k1:l≤h) (k2:h≤n) (w:World) :
  (Instr.sliceAt T (.pointer (some ⟨b,col,none⟩)) lo hi none).run P w=.ok (.slice (some ⟨b,if n=l then col else col+l,none⟩) (h-l) (n-l)) w:=by
 obtain ⟨i,hi',hn⟩:=cw hs
 obtain ⟨m',p1,p2,hrun⟩:=kG (P:=P) (b:=false) (mx:=none) (cap:=n) h1 h2 (.inl ⟨rfl,rfl⟩) k1 k2 (Nat.le_refl _) (Nat.le_refl _) (.inl rfl) w
 have hm:m'=n:=by omega
 subst hm
 have hsz:(Go.sizeOf e).run P w=.ok 1 w:=by simp [Go.sizeOf,typeInfo,hi',hn]
 simp only [Instr.sliceAt,Sem.run_bind,run_underlying hu w,Result.andThen_ok,Instr.sureAddr,Sem.run_pure,hrun,hsz]
 split <;> simp [Addr.add_mid]
theorem VT {m:M} {e:fC} (h:fQ G get obj base m=some e):∀ p∈e.wr,∃ ob,obj p.1=.live ob:=by
 intro p hp
 cases m <;> simp only [fQ] at h <;> (repeat' split at h) <;> (try (cases h; done)) <;> cases h <;> first
  | (cases hp; done)
  | (simp only [List.mem_singleton] at hp; subst hp; exact ⟨_,by assumption⟩)
theorem LH (S:aJ G J w ι obj) (he:∀ t,dz J w ι (get t) (a.tmps.getD t Go.undef)) {X:Operand} {x:bX} (hx:aL X=some x) {lo hi:Option Operand} {lo' hi':Option bX} (hl:fK lo=some lo') (hh:fK hi=some hi')
  {T el:TypeId} {n:Nat} (hu:P.underlying T=some (.array n el)) (hs:dX P el=some 1) {e:fC} (hE:fQ G get obj base (.sla n x lo' hi')=some e) :
  ∃ v,(Instr.sliceAt T (a.eval X) (lo.map a.eval) (hi.map a.eval) none).run P w=.ok v w∧dz J w ι e.r v∧e.nw=[]∧e.wr=[]:=by
 have cC:=bg S he hx
 simp only [fQ] at hE
 split at hE
 ·rename_i o col eo
  rw [eo] at cC
  obtain ⟨b,hb,hv⟩:=cC
  split at hE
  ·rename_i et cells ho
   split at hE
   ·rename_i l h b1 b2
    split at hE
    ·rename_i hc
     obtain ⟨k1,k2,k3⟩:=hc
     cases hE
     have hrun:=R7 (P:=P) hu hs (b:=b) (col:=col) (kS S he hl b1) (kS S he hh b2) k1 k2 w
     refine ⟨_,by rw [hv]; exact hrun,?_,rfl,rfl⟩
     have h0:=S.rep o
     rw [ho] at h0
     obtain ⟨⟨b',C,m1,m2,m3⟩,_⟩:=h0
     rw [hb] at m1; cases m1
     by_cases hz:n=l
     ·left
      rw [show n-l=0 by omega,show h-l=0 by omega]
      exact ⟨rfl,_,rfl⟩
     ·right
      refine ⟨b,n-l,et,C.size,hb,by rw [if_neg hz,Nat.mul_one],by omega,by simp [World.shape?,m2],?_⟩
      have:=m3.length
      simp at this; omega
    ·cases hE
   ·cases hE
  ·cases hE
 ·cases hE
theorem xy {α:Type} {rows news:List (List α)} {aS lo:Nat} (h1:∀ r∈rows,r.length=aS) (h2:∀ r∈news,r.length=aS):(splice rows lo news).flatten=splice rows.flatten (lo*aS) news.flatten:=by
 have key:∀ (l:List (List α)) (n:Nat),(∀ r∈l,r.length=aS)→(l.take n).flatten=l.flatten.take (n*aS)∧(l.drop n).flatten=l.flatten.drop (n*aS):=by
  intro l
  induction l with
  | nil=>intro n _; simp
  | cons r l ih=>
    intro n hl
    have hr:=hl r (by simp)
    cases n with
    | zero=>simp
    | succ n=>
      obtain ⟨i1,i2⟩:=ih n (fun x hx=>hl x (by simp [hx]))
      rw [List.take_succ_cons,List.drop_succ_cons,List.flatten_cons,List.flatten_cons,i1,i2,Nat.add_mul,Nat.one_mul,List.take_append,List.drop_append]
      rw [show n*aS+aS-r.length=n*aS by omega,List.take_of_length_le (l:=r) (by omega),List.drop_eq_nil_of_le (as:=r) (by omega)]
      simp
 have hlen:news.flatten.length=news.length*aS:=by
  clear key
  induction news with
  | nil=>simp
  | cons r l ih=>
    have hr:=h2 r (by simp)
    rw [List.flatten_cons,List.length_append,ih (fun x hx=>h2 x (by simp [hx])),hr,List.length_cons,Nat.add_mul]; omega
 unfold splice
 rw [List.flatten_append,List.flatten_append,(key rows lo h1).1,(key rows (lo+news.length) h1).2,hlen,Nat.add_mul]
theorem bn.setRows (S:aJ G J w ι obj) {o:Nat} {et:TypeId} {aS:Nat} {rows news:List (List DV)} {lo:Nat} {vs:List Value} (ho:obj o=.live (.dat et aS rows))
  (h:bD J w news.flatten vs) (yZ:∀ v∈vs,v.oneCell'=true) (hn:∀ r∈news,r.length=aS) (hl:lo+news.length≤rows.length) (hne:rows≠[]) :
  ∃ b,ι o rows.length=some b∧w.there b (lo*aS) vs.length∧
    bn G obj (fun k=>if k=o then .live (.dat et aS (splice rows lo news)) else obj k) J ι w .undef Go.undef (w.setCells b (lo*aS) vs):=by
 have h0:=S.rep o
 rw [ho] at h0
 obtain ⟨⟨hsome,Gh⟩,hkey⟩:=h0
 obtain ⟨b,h1⟩:=Option.isSome_iff_exists.1 (hsome.resolve_left hne)
 obtain ⟨⟨C,h2⟩,h3⟩:=Gh b h1
 have hown:Own ι obj b:=⟨o,by rw [ho]; exact h1⟩
 have E:Ev (Own ι obj) J J ι ι w (w.setCells b (lo*aS) vs):=Ev.setCells J w b _ vs hown (fun _ _ _ h=>h)
 obtain ⟨ack,hfl⟩:=h3.flat
 have hrl:∀ r∈rows,r.length=aS:=fun r hr=>by
  obtain ⟨i,hi⟩:=List.getElem?_of_mem hr
  exact (h3.get hi).1
 obtain ⟨us,u1,u2,u3⟩:=ack.vals
 have Qe:us.length=rows.length*aS:=by rw [← hfl]; exact u1.length.symm
 have hnl:news.flatten.length=news.length*aS:=by
  have:=xy (rows:=([]:List (List DV))) (news:=news) (lo:=0) (by simp) hn
  clear this
  clear h hl
  induction news with
  | nil=>simp
  | cons r l ih=>
    have hr:=hn r (by simp)
    rw [List.flatten_cons,List.length_append,ih (fun x hx=>hn x (by simp [hx])),hr,List.length_cons,Nat.add_mul]; omega
 have hvl:vs.length=news.length*aS:=by rw [← hnl]; exact h.length.symm
 have hroom:lo*aS+vs.length≤us.length:=by
  rw [hvl,Qe,← Nat.add_mul]; exact Nat.mul_le_mul_right _ hl
 have tI:w.there b (lo*aS) vs.length:=fun j hj=>by
  have hj2:lo*aS+j<us.length:=by omega
  have:=u3 (lo*aS+j) us[lo*aS+j] (List.getElem?_eq_getElem hj2)
  rw [Nat.zero_add] at this
  refine ⟨by rw [this]; rfl,?_⟩
  simp [World.frozen?,h2]
 have hout:∀ x:Addr,x.block=b→(x.off<lo*aS∨lo*aS+vs.length≤x.off)→(w.setCells b (lo*aS) vs).cell? x=w.cell? x:=fun x hx hj=>
  World.cell?_setCells_out b vs _ w x (fun _ _=>hj)
 have hin:=World.rangeAt_setCells_same w b (lo*aS) vs tI
 have hrows:bJ J (w.setCells b (lo*aS) vs) aS (splice rows lo news) b 0:=by
  refine bJ.Dt (fun r hr=>?_) ?_
  ·simp only [splice,List.mem_append] at hr
   rcases hr with (hr | hr) | hr
   ·exact hrl r (List.mem_of_mem_take hr)
   ·exact hn r hr
   ·exact hrl r (List.mem_of_mem_drop hr)
  ·rw [xy hrl hn]
   have e1:bP J w ι (splice (rows.flatten.map .d) (lo*aS) (news.flatten.map .d)) (splice us (lo*aS) vs):=bP.splice _ (bD.yu u1 u2) (bD.yu h yZ)
   have e2:splice (rows.flatten.map LV.d) (lo*aS) (news.flatten.map LV.d)=(splice rows.flatten (lo*aS) news.flatten).map .d:=by simp only [splice,List.map_append,List.map_take,List.map_drop,List.length_map]
   rw [e2] at e1
   have e3:=(e1.ev S E).BA
   have back:∀ {w0:World} (xs:List DV) (ys:List Value),cA J w0 ι (xs.map .d) ys→bD J w0 xs ys:=fun {w0} xs=>by
    induction xs with
    | nil=>intro ys h; cases ys with
      | nil=>trivial
      | cons _ _=>exact h.elim
    | cons x xs ih=>intro ys h; cases ys with
      | nil=>exact h.elim
      | cons y ys=>exact ⟨h.1,ih ys h.2⟩
   refine dP.of (vs:=splice us (lo*aS) vs) (back _ _ e3) (fun v hv=>e1.one v hv) (fun j v hv=>?_)
   rw [Nat.zero_add]
   by_cases hj1:j<lo*aS
   ·rw [hout _ rfl (.inl hj1)]
    have:=u3 j v (by
     rw [← hv]
     simp only [splice,List.append_assoc]
     rw [List.getElem?_append_left (by simp; omega),List.getElem?_take_of_lt hj1])
    rwa [Nat.zero_add] at this
   ·by_cases hj2:j<lo*aS+vs.length
    ·have:=hin (j-lo*aS) v (by
      rw [← hv]
      simp only [splice]
      rw [List.getElem?_append_left (by simp; omega),List.getElem?_append_right (by simp; omega)]
      congr 1; simp; omega)
     rwa [show lo*aS+(j-lo*aS)=j by omega] at this
    ·rw [hout _ rfl (.inr (by show _≤j; omega))]
     have:=u3 j v (by
      rw [← hv]
      simp only [splice]
      rw [List.getElem?_append_right (by simp; omega),List.getElem?_drop]
      congr 1; simp; omega)
     rwa [Nat.zero_add] at this
 obtain ⟨C',k1,k2⟩:∃ C',(w.setCells b (lo*aS) vs).heap[b]? = some (.cells C' et (0,0))∧True:=by
  have hs:lo*aS+vs.length≤C.size∨vs.length=0:=by
   rcases Nat.eq_zero_or_pos vs.length with hz | hz
   ·exact .inr hz
   ·left
    have:=(tI (vs.length-1) (by omega)).1
    simp only [World.cell?,h2] at this
    simp at this
    omega
  rcases hs with hs | hs
  ·obtain ⟨C',k1,_⟩:=iK vs _ w C h2 hs; exact ⟨C',k1,trivial⟩
  ·have:vs=[]:=by simpa using hs
   subst this; exact ⟨C,h2,trivial⟩
 have yW:(splice rows lo news).length=rows.length:=j5 _ _ _ (by omega)
 refine ⟨b,h1,tI,?_⟩
 have hT:=aJ.um S o (.live (.dat et aS (splice rows lo news))) E (fun _ _ _=>rfl) (fun k hk hn=>heap_setCells_other (fun e=>hn (by rw [ho,e]; exact h1)) vs _ w)
  ⟨⟨.inr (by rw [yW]; simp [h1]),fun k hk=>by
    rw [yW,h1] at hk; cases hk
    exact ⟨⟨C',k1⟩,hrows⟩⟩,fun n hn=>by rw [yW] at hn; exact hkey n hn⟩
  (fun k hk=>.inl (by
   rw [ho]
   simp only [cG.own,aG.own,yW] at hk ⊢
   exact hk))
 exact ⟨J,ι,hT.1,rfl,hT.2⟩
theorem Nh (S:aJ G J w ι obj) (he:∀ t,dz J w ι (get t) (a.tmps.getD t Go.undef)) {X Y:Operand} {x y:bX} (hx:aL X=some x) (hy:aL Y=some y) {tx ty rt el:TypeId} (hu:P.underlying tx=some (.slice el)) (hs:dX P el=some 1)
  (hty:Og P ty=true) {e:fC} (hE:fQ G get obj base (.cpy x y)=some e) :
  ∃ v w',(Builtin.copy_ #[tx,ty] rt #[a.eval X,a.eval Y]).run P w=.ok v w'∧bn G obj (bO obj base e) J ι w e.r v w':=by
 have cC:=bg S he hx
 have lH:=bg S he hy
 have hk:(∃ e',P.underlying ty=some (.slice e'))∨P.underlying ty=some .string:=by
  unfold Og at hty
  split at hty
  ·rename_i e' h; exact .inl ⟨_,h⟩
  ·rename_i h; exact .inr h
  ·cases hty
 simp only [fQ] at hE
 split at hE
 ·rename_i new rd hsrc
  obtain ⟨news,hS,hD,hrl⟩:=v7 S hk hsrc lH
  split at hE
  ·rename_i o lo len eo
   rw [eo] at cC
   split at hE
   ·rename_i et cells ho
    split at hE
    ·rename_i hc
     obtain ⟨hc,hnl⟩:=hc
     cases hE
     have hnews:=hS.newsLen
     rw [Nat.mul_one] at hnews
     have hfl:(new.flatten.map LV.d).length=new.length:=by rw [List.length_map,hD.length,hnews]
     obtain ⟨b,hb,NQ,hA⟩:=bn.zA S (col:=lo) (cs:=new.flatten.map LV.d) (vs:=news) ho (hD.yu hS.one) (by rw [hfl]; omega)
     refine ⟨.int .i64 new.length,w.setCells b lo news,?_,?_⟩
     ·obtain ⟨i,hi',hn⟩:=cw hs
      have hsz:∀ w:World,(Go.sizeOf el).run P w=.ok 1 w:=fun w=>by simp [Go.sizeOf,typeInfo,hi',hn]
      have hst:=run_storeCells_cells (P:=P) b lo news 0 w (fun j hj=>by simpa using (NQ j hj).1) (fun j hj=>by simpa using (NQ j hj).2) hS.one
      simp only [Nat.add_zero] at hst
      rcases cC with ⟨hz,sa,hv⟩ | ⟨b',cap,et',C,hb',hv,hcap,_,_⟩
      ·have hn0:news=[]:=List.eq_nil_of_length_eq_zero (by omega)
       have hl0:new.length=0:=by omega
       subst hn0
       have hcl:=hS.cells
       rw [hl0] at hcl
       cases sa with
       | none=>simp [Builtin.copy_,run_underlying hu,hv,hS.len,hl0,hsz,hcl,goInt,World.setCells]
       | some sa=>simp [Builtin.copy_,run_underlying hu,hv,hS.len,hl0,hsz,hcl,goInt,storeCells,World.setCells]
      ·rw [hb] at hb'; cases hb'
       simp [Builtin.copy_,run_underlying hu,hv,hS.len,hsz,hS.cells,goInt,Nat.min_eq_left hnl,hst]
     ·have e1:bO obj base { r:=.int new.length,rd:=o::rd,wr:=[(o,.box et (splice cells lo (new.flatten.map .d)))] } = fun k=>if k=o then .live (.box et (splice cells lo (new.flatten.map .d))) else obj k:=by
       funext k; simp only [bO,qU,de]
      rw [e1]
      obtain ⟨J',ι',h1,_,h3⟩:=hA
      exact ⟨J',ι',h1,rfl,h3⟩
    ·cases hE
   ·cases hE
  ·rename_i o n lo len _ eo
   rw [eo] at cC
   split at hE
   ·rename_i et rows ho
    split at hE
    ·rename_i hc
     obtain ⟨hn,hc,hnl,hne⟩:=hc
     subst hn
     cases hE
     have hnews:=hS.newsLen
     rw [Nat.mul_one] at hnews
     obtain ⟨b,hb,NQ,hA⟩:=bn.setRows S (lo:=lo) (news:=new) (vs:=news) ho hD hS.one hrl (by omega) hne
     rw [Nat.mul_one] at NQ hA
     refine ⟨.int .i64 new.length,w.setCells b lo news,?_,?_⟩
     ·obtain ⟨i,hi',hn⟩:=cw hs
      have hsz:∀ w:World,(Go.sizeOf el).run P w=.ok 1 w:=fun w=>by simp [Go.sizeOf,typeInfo,hi',hn]
      have hst:=run_storeCells_cells (P:=P) b lo news 0 w (fun j hj=>by simpa using (NQ j hj).1) (fun j hj=>by simpa using (NQ j hj).2) hS.one
      simp only [Nat.add_zero] at hst
      rcases cC with ⟨hz,sa,hv⟩ | ⟨b',cap,et',C,hb',hv,hcap,_,_⟩
      ·have hn0:news=[]:=List.eq_nil_of_length_eq_zero (by omega)
       have hl0:new.length=0:=by omega
       subst hn0
       have hcl:=hS.cells
       rw [hl0] at hcl
       cases sa with
       | none=>simp [Builtin.copy_,run_underlying hu,hv,hS.len,hl0,hsz,hcl,goInt,World.setCells]
       | some sa=>simp [Builtin.copy_,run_underlying hu,hv,hS.len,hl0,hsz,hcl,goInt,storeCells,World.setCells]
      ·rw [hb] at hb'; cases hb'
       rw [Nat.mul_one] at hv
       simp [Builtin.copy_,run_underlying hu,hv,hS.len,hsz,hS.cells,goInt,Nat.min_eq_left hnl,hst]
     ·have e1:bO obj base { r:=.int new.length,rd:=o::rd,wr:=[(o,.dat et 1 (splice rows lo new))] } = fun k=>if k=o then .live (.dat et 1 (splice rows lo new)) else obj k:=by
       funext k; simp only [bO,qU,de]
      rw [e1]
      obtain ⟨J',ι',h1,_,h3⟩:=hA
      exact ⟨J',ι',h1,rfl,h3⟩
    ·cases hE
   ·cases hE
  ·cases hE
 ·cases hE
theorem R8 {T e:TypeId} {size bytes:Nat} (hu:P.underlying T=some (.slice e)) (hel:xY P e=some (size,bytes)) {k:IntKind} {n:Nat} (hn:n*bytes≤70368744177664) (h63:(n:Int)≤9223372036854775807) (w:World) :
  ∃ z:Value,(zeroValue e).run P w=.ok z w∧z.cells.size=size∧(Instr.makeSlice T (.int k n) (.int k n)).run P w=.ok (.slice (some ⟨w.heap.size,0,none⟩) n n) (w.alloc (.cells ((Array.range (n*size)).map ((if n*size=0 then #[] else z.cells)[· % (if n*size=0 then #[] else z.cells).size]!)) e)):=by
 obtain ⟨i,z,hi,hz,hsz,hby,hzc,_,hpos⟩:=mu hel
 have YR:∀ w:World,(zeroValue e).run P w=.ok z w:=fun w=>by simp [zeroValue,typeInfo,hi,hz]
 refine ⟨z,YR w,by rw [hzc,hsz],?_⟩
 have KK:∀ w:World,(Go.sizeOf e).run P w=.ok size w:=fun w=>by simp [Go.sizeOf,typeInfo,hi,hsz]
 have wn:IntKind.i64.wrap (n:Int)=n:=by rw [IntKind.wrap_i64]; omega
 have n1:¬ (n:Int)<0:=by omega
 have hb':(bytes:Int)*(n:Int)≤70368744177664:=by
  have:((n*bytes:Nat):Int)≤70368744177664:=by omega
  rw [Int.mul_comm,← Int.natCast_mul]; exact this
 have n2:¬ (281474976710656<(bytes:Int)*n):=by omega
 have n3:¬ (n:Int)<(n:Int):=by omega
 by_cases h0:n*size=0
 ·simp [Instr.makeSlice,run_underlying hu,typeInfo,hi,hby,asInt,asIntOf,wn,n1,n2,n3,KK,h0,newRow,askRoom]
 ·simp [Instr.makeSlice,run_underlying hu,typeInfo,hi,hby,asInt,asIntOf,wn,n1,n2,n3,KK,h0,YR,newRow,askRoom]
theorem AT {α:Type} (l:List α):∀ (n j:Nat),j<n*l.length→((List.replicate n l).flatten)[j]? = l[j % l.length]?
 | 0,j,h=>by simp at h
 | n+1,j,h=>by
   rw [List.replicate_succ,List.flatten_cons]
   by_cases hj:j<l.length
   ·rw [List.getElem?_append_left hj,Nat.mod_eq_of_lt hj]
   ·have h2:j-l.length<n*l.length:=by rw [Nat.add_mul] at h; omega
    rw [List.getElem?_append_right (by omega),AT l n (j-l.length) h2]
    congr 1
    rw [Nat.mod_eq_sub_mod (by omega:l.length≤j)]
theorem Gx {α:Type} (l:List α) (n:Nat):(List.replicate n l).flatten.length=n*l.length:=by
 induction n with
 | zero=>simp
 | succ n ih=>rw [List.replicate_succ,List.flatten_cons,List.length_append,ih,Nat.add_mul]; omega
theorem tu (J:Nat→Prop) (w:World):∀ l:List Value,bD J w (l.map .val) l
 | []=>trivial
 | v::l=>⟨rfl,tu J w l⟩
theorem wk {J:Nat→Prop} {w:World} {z:List DV} {vs:List Value} (h:bD J w z vs):∀ n,bD J w (List.replicate n z).flatten (List.replicate n vs).flatten
 | 0=>trivial
 | n+1=>by rw [List.replicate_succ,List.replicate_succ,List.flatten_cons,List.flatten_cons]; exact bD.append h (wk h n)
theorem Mf (S:aJ G J w ι obj) (he:∀ t,dz J w ι (get t) (a.tmps.getD t Go.undef)) {X Y:Operand} {x:bX} (hx:aL X=some x) (hXY:DH X Y=true) {T el:TypeId} {size bytes:Nat} {z:List DV} (hu:P.underlying T=some (.slice el)) (hel:xY P el=some (size,bytes))
  (hz:p_ P el=some z) (hzl:z.length=size) (hb:obj base=.free) {e:fC} (hE:fQ G get obj base (.xN el size bytes z x)=some e) :
  ∃ v w',(Instr.makeSlice T (a.eval X) (a.eval Y)).run P w=.ok v w'∧bn G obj (bO obj base e) J ι w e.r v w':=by
 have cC:=bg S he hx
 simp only [fQ] at hE
 split at hE
 ·rename_i k n eo
  rw [eo] at cC
  have hX:a.eval X=.int k n:=cC
  split at hE
  ·rename_i hc
   obtain ⟨k1,k2,k3⟩:=hc
   cases hE
   obtain ⟨n,rfl⟩:=Int.eq_ofNat_of_zero_le k1
   rw [Int.toNat_natCast] at k2
   obtain ⟨zv,h1,h2,h3⟩:=R8 (P:=P) hu hel (k:=k) k2 k3 w
   have hzz:z=zv.cells.toList.map .val∧∀ u∈zv.cells.toList,u.oneCell'=true:=by
    unfold p_ at hz
    split at hz
    ·rename_i i hi
     split at hz
     ·rename_i v hv
      split at hz
      ·rename_i hall
       cases hz
       have YR:(zeroValue el).run P w=.ok v w:=by simp [zeroValue,typeInfo,hi,hv]
       rw [YR] at h1
       cases h1
       exact ⟨rfl,fun u hu=>by
        rw [Array.all_eq_true_iff_forall_mem] at hall
        exact hall u (by simpa using hu)⟩
      ·cases hz
     ·cases hz
    ·cases hz
   refine ⟨_,_,by rw [hX,← Fk hXY a,hX]; exact h3,?_⟩
   have hcl:zv.cells.toList.length=size:=by rw [Array.length_toList,h2]
   generalize hC:((Array.range (n*size)).map ((if n*size=0 then #[] else zv.cells)[· % (if n*size=0 then #[] else zv.cells).size]!))=C
   have hCs:C.size=n*size:=by rw [← hC]; simp
   have:=bn.dat (G:=G) (J:=J) (w:=w) (ι:=ι) S hb el size (List.replicate n z) C w.drawn n (by simp) (by rw [hCs]; exact Nat.le_refl _) (fun ι' E=>by
    refine bJ.uM (vs:=(List.replicate n zv.cells.toList).flatten) (wk (by rw [hzz.1]; exact tu _ _ _) n) (fun u hu=>?_) (fun r hr=>by rw [List.eq_of_mem_replicate hr]; exact hzl) (ek { w with drawn:=w.drawn } _) (fun j u hu=>?_)
    ·obtain ⟨l,hl,hm⟩:=List.mem_flatten.1 hu
     rw [List.eq_of_mem_replicate hl] at hm
     exact hzz.2 u hm
    ·have hj:j<n*size:=by
      have:=(List.getElem?_eq_some_iff.1 hu).1
      rw [Gx,hcl] at this; exact this
     rw [AT _ _ _ (by rw [hcl]; exact hj),hcl] at hu
     have hpos:0<size:=Nat.pos_of_ne_zero (fun h0=>by rw [h0] at hj; simp at hj)
     have hm:j % size<zv.cells.size:=by rw [h2]; exact Nat.mod_lt _ hpos
     rw [← hC]
     simp [show ¬ (n*size=0) by omega,h2,hj]
     rw [Array.getElem?_toList] at hu
     rw [getElem!_pos zv.cells (j % size) hm]
     rw [Array.getElem?_eq_getElem hm] at hu
     exact (Option.some.inj hu))
   simp only [List.length_replicate] at this
   exact this
  ·cases hE
 ·cases hE
theorem LC (S:aJ G J w ι obj) {aS:Nat} {y:LV} {v:Value} {new:List (List DV)} {rd:List Nat} (h:bq obj aS y=some (new,rd)) (hy:dz J w ι y v) (hs:∀ s,y≠.d (.val (.string s))) :
  ∃ sa cap,v=.slice sa new.length cap∧(sa=none→new=[]):=by
 cases y with
 | d x=>
   cases x with
   | dO e rows=>
     simp only [bq] at h
     split at h
     ·cases h
      obtain ⟨a,n,cap,rfl,hn,hc,hr⟩:=hy
      subst hn
      refine ⟨a,cap,rfl,fun ha=>?_⟩
      rcases hr with hr | ⟨b,off,hb,_⟩
      ·exact hr
      ·rw [ha] at hb; cases hb
     ·cases h
   | val u=>
     have hvu:v=u:=hy
     subst hvu
     cases v with
     | slice sa n c=>
       cases sa with
       | some _=>simp [bq] at h
       | none=>
         cases n with
         | succ _=>simp [bq] at h
         | zero=>
           cases c with
           | succ _=>simp [bq] at h
           | zero=>simp [bq] at h; exact ⟨none,0,by rw [h.1]; rfl,fun _=>h.1⟩
     | string s=>exact absurd rfl (hs s)
     | _=>simp [bq] at h
   | fn f a b=>simp [bq] at h
   | gd t y=>simp [bq] at h
   | agg cs=>simp [bq] at h
 | sl o n e lo len=>
   have hlen:new.length=len:=by
    simp only [bq] at h
    split at h
    ·split at h
     ·rename_i hc; cases h; simp; omega
     ·cases h
    ·split at h
     ·rename_i hc; cases h; simp; omega
     ·cases h
    ·split at h
     ·rename_i hc
      split at h
      ·rename_i ds hds; cases h; rw [List.length_map,zi hds]; simp; omega
      ·cases h
     ·cases h
    ·cases h
   rcases hy with ⟨hz,a,rfl⟩ | ⟨b,cap,et',C,hb,rfl,hcap,_,_⟩
   ·exact ⟨a,0,by rw [hlen,hz],fun _=>List.eq_nil_of_length_eq_zero (by omega)⟩
   ·exact ⟨_,cap,by rw [hlen],fun h=>by cases h⟩
 | top=>simp [bq] at h
 | dV=>simp [bq] at h
 | ptr o c=>simp [bq] at h
 | rp o n e r c=>simp [bq] at h
 | ip r c=>simp [bq] at h
 | fn f a b=>simp [bq] at h
 | agg cs=>simp [bq] at h
 | dM cs=>simp [bq] at h
 | gd t y=>simp [bq] at h
 | yl o=>simp [bq] at h
 | mr o=>simp [bq] at h
theorem vF:∀ {rows:List (List DV)} {bs:List UInt8} {vs:List Value},bytesOf rows=some bs→bD J w rows.flatten vs→∃ ns:List Int,vs=ns.map (Value.int .u8)∧bs=ns.map fun n=>UInt8.ofNat n.toNat
 | [],bs,vs,h,hv=>by
   simp only [bytesOf] at h; cases h
   cases vs with
   | nil=>exact ⟨[],rfl,rfl⟩
   | cons _ _=>exact hv.elim
 | r::rows,bs,vs,h,hv=>by
   unfold bytesOf at h
   split at h
   ·cases ‹_::_=[]›
   ·rename_i n r' heq
    cases heq
    split at h
    ·rename_i bs' RN
     cases h
     simp only [List.flatten_cons,List.cons_append,List.nil_append] at hv
     cases vs with
     | nil=>exact hv.elim
     | cons v vs=>
       obtain ⟨h1,h2⟩:=hv
       obtain ⟨ns,e1,e2⟩:=vF RN h2
       have h1:v=.int .u8 n:=h1
       exact ⟨n::ns,by rw [h1,e1]; rfl,by rw [e2]; rfl⟩
    ·cases h
   ·cases h
theorem foldl_push:∀ (ns:List Int) (s:ByteArray),ns.foldl (fun r n=>r.push (UInt8.ofNat n.toNat)) s=⟨(s.data.toList++ns.map fun n=>UInt8.ofNat n.toNat).toArray⟩
 | [],s=>by cases s; simp
 | n::ns,s=>by
   rw [List.foldl_cons,foldl_push ns]
   cases s
   simp [ByteArray.push]
theorem Ns (S:aJ G J w ι obj) (he:∀ t,dz J w ι (get t) (a.tmps.getD t Go.undef)) {X:Operand} {x:bX} (hx:aL X=some x) {T T2 el:TypeId} (hu:P.underlying T=some (.slice el)) (hel:P.underlying el=some (.int .u8)) (hs:P.underlying T2=some .string)
  {e:fC} (hE:fQ G get obj base (.b2s x)=some e) :
  ∃ v,(convert T T2 (a.eval X)).run P w=.ok v w∧dz J w ι e.r v∧e.nw=[]∧e.wr=[]:=by
 have cC:=bg S he hx
 simp only [fQ] at hE
 split at hE
 ·cases hE
 ·rename_i hns
  split at hE
  ·rename_i rows rd hsrc
   split at hE
   ·rename_i bs RN
    cases hE
    obtain ⟨news,hS,hD,_⟩:=v7 S (.inl ⟨_,hu⟩) hsrc cC
    obtain ⟨sa,cap,hv,nN⟩:=LC S hsrc cC (fun s h=>hns s h)
    obtain ⟨ns,e1,e2⟩:=vF RN hD
    refine ⟨.string ⟨bs.toArray⟩,?_,rfl,rfl,rfl⟩
    rw [hv,run_convert_bytes_string w T T2 el sa _ cap hu hel hs]
    cases sa with
    | none=>
      have h0:=nN rfl
      subst h0
      simp only [bytesOf] at RN
      cases RN
      simp [Conv.bytesToString]
      rfl
    | some sa=>
      have hc:=hS.cells
      rw [hv,e1] at hc
      have RL:(loadCells sa rows.length).run P w=.ok (ns.map (Value.int .u8)).toArray w:=by
       simpa [Builtin.firstCells] using hc
      rw [run_bytesToString w sa _ cap ns RL,foldl_push,e2]
      rfl
   ·cases hE
  ·cases hE
theorem Lj (z:Array Value) (n:Nat):(Builtin.zeroCells z n).toList=(List.replicate n z.toList).flatten:=by
 apply List.ext_getElem?
 intro j
 by_cases hj:j<n*z.size
 ·rw [AT _ _ _ (by simpa using hj),Array.length_toList]
  have hpos:0<z.size:=Nat.pos_of_ne_zero (fun h0=>by rw [h0] at hj; simp at hj)
  have hm:j % z.size<z.size:=Nat.mod_lt _ hpos
  unfold Builtin.zeroCells
  simp only [Array.toList_map,Array.toList_range,List.getElem?_map,List.getElem?_range hj,Option.map_some]
  rw [getElem!_pos z (j % z.size) hm,Array.getElem?_toList,Array.getElem?_eq_getElem hm]
 ·rw [List.getElem?_eq_none (by rw [Array.length_toList,size_zeroCells]; omega),List.getElem?_eq_none (by rw [Gx,Array.length_toList]; omega)]
theorem Hs {el:TypeId} {z:List DV} (hz:p_ P el=some z):∃ zv:Value,z=zv.cells.toList.map .val∧(∀ u∈zv.cells.toList,u.oneCell'=true)∧∀ w:World,(zeroValue el).run P w=.ok zv w:=by
 unfold p_ at hz
 split at hz
 ·rename_i i hi
  split at hz
  ·rename_i v hv
   split at hz
   ·rename_i hall
    cases hz
    exact ⟨v,rfl,fun u hu=>by
     rw [Array.all_eq_true_iff_forall_mem] at hall
     exact hall u (by simpa using hu),fun w=>by simp [zeroValue,typeInfo,hi,hv]⟩
   ·cases hz
  ·cases hz
 ·cases hz
theorem Nl (S:aJ G J w ι obj) (he:∀ t,dz J w ι (get t) (a.tmps.getD t Go.undef)) {X:Operand} {x:bX} (hx:aL X=some x) {tx rt el:TypeId} {n:Nat} {z:List DV} (hu:P.underlying tx=some (.slice el)) (hz:p_ P el=some z) (hzl:z.length=n)
  {e:fC} (hE:fQ G get obj base (.clr n z x)=some e) :
  ∃ v w',(Builtin.clear_ #[tx] rt #[a.eval X]).run P w=.ok v w'∧bn G obj (bO obj base e) J ι w e.r v w':=by
 have cC:=bg S he hx
 simp only [fQ] at hE
 split at hE
 ·rename_i o m e0 lo len eo
  rw [eo] at cC
  split at hE
  ·rename_i et e' rows ho
   split at hE
   ·rename_i hc
    obtain ⟨rfl,rfl,rfl,hl,hpos⟩:=hc
    cases hE
    obtain ⟨zv,hzz,hone,hzr⟩:=Hs hz
    have hcl:zv.cells.toList.length=e':=by rw [← hzl,hzz,List.length_map]
    have hne:rows≠[]:=by intro h0; rw [h0] at hl; simp at hl; omega
    obtain ⟨b,hb,NQ,hA⟩:=bn.setRows S (lo:=lo) (news:=List.replicate len z) (vs:=(List.replicate len zv.cells.toList).flatten) ho (wk (by rw [hzz]; exact tu _ _ _) len)
     (fun u hu=>by
      obtain ⟨l,hl,hm⟩:=List.mem_flatten.1 hu
      rw [List.eq_of_mem_replicate hl] at hm
      exact hone u hm) (fun r hr=>by rw [List.eq_of_mem_replicate hr]; exact hzl) (by rw [List.length_replicate]; exact hl) hne
    refine ⟨.tuple #[],w.setCells b (lo*e') (List.replicate len zv.cells.toList).flatten,?_,?_⟩
    ·have hst:=run_storeCells_cells (P:=P) b (lo*e') (List.replicate len zv.cells.toList).flatten 0 w (fun j hj=>by simpa using (NQ j hj).1) (fun j hj=>by simpa using (NQ j hj).2) (fun u hu=>by
      obtain ⟨l,hl,hm⟩:=List.mem_flatten.1 hu
      rw [List.eq_of_mem_replicate hl] at hm
      exact hone u hm)
     simp only [Nat.add_zero] at hst
     rcases cC with ⟨hz0,_⟩ | ⟨b',cap,et',C,hb',hv,hcap,_,_⟩
     ·omega
     ·rw [hb] at hb'; cases hb'
      obtain ⟨k,rfl⟩:∃ k,len=k+1:=⟨len-1,by omega⟩
      simp [Builtin.clear_,run_underlying hu,hv,hzr,Lj,hst]
    ·have e1:bO obj base { r:=.undef,rd:=[o],wr:=[(o,.dat et e' (splice rows lo (List.replicate len z)))] } = fun k=>if k=o then .live (.dat et e' (splice rows lo (List.replicate len z))) else obj k:=by
      funext k; simp only [bO,qU,de]
     rw [e1]
     exact hA
   ·cases hE
  ·cases hE
 ·rename_i e0 eo
  cases hE
  rw [eo] at cC
  obtain ⟨ad,n,cap,hv,hn,_⟩:=cC
  have hn0:n=0:=hn
  subst hn0
  have e1:bO obj base { r:=.undef } = obj:=by funext k; simp [bO,qU,de]
  rw [e1]
  refine ⟨.tuple #[],w,?_,bn.stay S rfl⟩
  rw [hv]
  cases ad <;> simp [Builtin.clear_,run_underlying hu]
 ·cases hE
theorem Nt (S:aJ G J w ι obj) (he:∀ t,dz J w ι (get t) (a.tmps.getD t Go.undef)) {X:Operand} {x:bX} (hx:aL X=some x) {e:fC} (hE:fQ G get obj base (.atl x)=some e) :
  ∃ ad n,a.eval X=.pointer (some ad)∧w.cell? ad=some (.int .i64 n)∧e.r=.int n∧e.nw=[]∧e.wr=[]:=by
 have cC:=bg S he hx
 simp only [fQ] at hE
 split at hE
 ·rename_i o c eo
  rw [eo] at cC
  obtain ⟨b,hb,hv⟩:=cC
  split at hE
  ·rename_i et cells ho
   split at hE
   ·rename_i n hc
    cases hE
    have h0:=S.rep o
    rw [ho] at h0
    obtain ⟨⟨b',C,m1,m2,m3⟩,_⟩:=h0
    rw [hb] at m1; cases m1
    obtain ⟨v,IG,_,hr⟩:=m3.get hc
    have hr:v=.int .i64 n:=hr
    subst hr
    refine ⟨_,n,hv,?_,rfl,rfl,rfl⟩
    simp only [World.cell?,m2]
    simpa using IG
   ·cases hE
  ·cases hE
 ·cases hE
theorem Nu (S:aJ G J w ι obj) (he:∀ t,dz J w ι (get t) (a.tmps.getD t Go.undef)) {X Y:Operand} {x y:bX} (hx:aL X=some x) (hy:aL Y=some y) {e:fC} (hE:fQ G get obj base (.ata x y)=some e) :
  ∃ ad n d,a.eval X=.pointer (some ad)∧a.eval Y=.int .i64 d∧w.cell? ad=some (.int .i64 n)∧w.frozen? ad=false∧bn G obj (bO obj base e) J ι w e.r (.int .i64 (IntKind.i64.wrap (n+d))) (w.setCell ad (.int .i64 (IntKind.i64.wrap (n+d)))):=by
 have cC:=bg S he hx
 have lH:=bg S he hy
 simp only [fQ] at hE
 split at hE
 ·rename_i o c d eo QC
  rw [eo] at cC
  rw [QC] at lH
  obtain ⟨b,hb,hv⟩:=cC
  have hY:a.eval Y=.int .i64 d:=lH
  split at hE
  ·rename_i et cells ho
   split at hE
   ·rename_i n hc
    cases hE
    have ad6:c<cells.length:=(List.getElem?_eq_some_iff.1 hc).1
    have h0:=S.rep o
    rw [ho] at h0
    obtain ⟨⟨b',C,m1,m2,m3⟩,_⟩:=h0
    rw [hb] at m1; cases m1
    obtain ⟨v,IG,_,hr⟩:=m3.get hc
    have hr:v=.int .i64 n:=hr
    subst hr
    obtain ⟨b2,hb2,NQ,hA⟩:=bn.zA S (col:=c) (cs:=[.int (IntKind.i64.wrap (n+d))]) (vs:=[.int .i64 (IntKind.i64.wrap (n+d))]) ho ⟨rfl,rfl,trivial⟩ (by simp; omega)
    rw [hb] at hb2; cases hb2
    refine ⟨⟨b,c,none⟩,n,d,hv,hY,?_,by simp [World.frozen?,m2],?_⟩
    ·simp only [World.cell?,m2]
     simpa using IG
    ·have e1:bO obj base { r:=.int (IntKind.i64.wrap (n+d)),rd:=[o],wr:=[(o,.box et (splice cells c [.int (IntKind.i64.wrap (n+d))]))] } = fun k=>if k=o then .live (.box et (splice cells c [.int (IntKind.i64.wrap (n+d))])) else obj k:=by
      funext k; simp only [bO,qU,de]
     rw [e1]
     have e2:w.setCell ⟨b,c,none⟩ (.int .i64 (IntKind.i64.wrap (n+d)))=w.setCells b c [.int .i64 (IntKind.i64.wrap (n+d))]:=by simp only [World.setCells]
     rw [e2]
     obtain ⟨J',ι',h1,_,h3⟩:=hA
     exact ⟨J',ι',h1,rfl,h3⟩
   ·cases hE
  ·cases hE
 ·cases hE
theorem Jp (S:aJ G J w ι obj) (he:∀ t,dz J w ι (get t) (a.tmps.getD t Go.undef)) {m:M} {e:fC} (hE:fQ G get obj base m=some e) {o:Oper} (hc:A9 P o.op=some m) :
  cR P o a w (bn G obj (bO obj base e) J ι w e.r):=by
 obtain ⟨dst,op,type,pos,after,guard⟩:=o
 dsimp only at hc
 unfold A9 at hc
 split at hc
 ·rename_i f args ts
  split at hc
  ·rename_i fn hf
   split at hc
   ·rename_i hfn
    obtain ⟨hb,ab3⟩:=hfn
    have ex:∀ vs:Array Value,args.map a.eval=vs→execOp a.eval { dst:=dst,op:=Op.call { callee:=Callee.value (.func f),args:=args,argTypes:=ts },type:=type,pos:=pos,after:=after,guard:=guard } = callFunc f vs:=by
     intro vs hvs
     have ef:a.eval (.func f)=.func (.func f) #[] #[]:=rfl
     unfold execOp
     simp [resolve,Deferred.ofValue,invoke,ef,hvs]
    split at hc
    ·rename_i hn
     split at hc
     ·rename_i x hargs
      have ha:args=#[x]:=by apply Array.ext'; simpa using hargs
      subst ha
      split at hc
      ·rename_i x' h1
       cases hc
       obtain ⟨ad,n,hX,hcell,hr,h6,h7⟩:=Nt S he h1 hE
       refine cR.of_run (v:=.int .i64 n) (w':=w) ?_ ?_
       ·rw [ex #[a.eval x] (by simp),hX]
        exact run_call_load hf (by rw [hn]; rfl) hb (L_ hn ab3) .i64 (MV hn) hcell
       ·simp only [bO,h6,h7,qU,de]
        exact bn.stay S (by rw [hr]; rfl)
      ·cases hc
     ·cases hc
    ·split at hc
     ·rename_i hn
      split at hc
      ·rename_i x y hargs
       have ha:args=#[x,y]:=by apply Array.ext'; simpa using hargs
       subst ha
       split at hc
       ·rename_i x' y' h1 h2
        cases hc
        obtain ⟨ad,n,d,hX,hY,hcell,hz,hA⟩:=Nu S he h1 h2 hE
        refine cR.of_run ?_ hA
        rw [ex #[a.eval x,a.eval y] (by simp),hX,hY]
        exact run_call_add hf (by rw [hn]; rfl) hb (Pj hn ab3) .i64 (Q8 hn) hcell hz rfl
       ·cases hc
      ·cases hc
     ·cases hc
   ·cases hc
  ·cases hc
 ·cases hc
theorem wj:∀ (es:List (Int×LV)) (E:List MapEntry) (n:Int) (i:Nat),jd J w ι es E→
  (getM es n=none∧Instr.findNow (.int .i64) (.int .i64 n) E i=some none∧∀ y v c,dz J w ι y v→jd J w ι (BE es n y) (E++[⟨.int .i64 n,v,c⟩]))∨
  ∃ y j e,getM es n=some y∧Instr.findNow (.int .i64) (.int .i64 n) E i=some (some (i+j,e.val))∧E[j]? = some e∧e.key=.int .i64 n∧dz J w ι y e.val∧∀ y v,dz J w ι y v→jd J w ι (BE es n y) (E.set j ⟨.int .i64 n,v,e.born⟩)
 | [],[],n,i,_=>.inl ⟨rfl,rfl,fun y v c h=>⟨rfl,h,trivial⟩⟩
 | (k,x)::r,e::E,n,i,h=>by
   obtain ⟨h1,h2,h3⟩:=h
   by_cases hk:n=k
   ·subst hk
    refine .inr ⟨x,0,e,by simp [getM],by simp [Instr.findNow,Instr.sameNow,h1],rfl,h1,h2,fun y v hy=>?_⟩
    simp only [BE,if_true,List.set_cons_zero]
    exact ⟨rfl,hy,h3⟩
   ·have hf:Instr.findNow (.int .i64) (.int .i64 n) (e::E) i=Instr.findNow (.int .i64) (.int .i64 n) E (i+1):=by
     simp [Instr.findNow,Instr.sameNow,h1,show (n==k)=false from beq_eq_false_iff_ne.2 hk]
    rcases wj r E n (i+1) h3 with ⟨q1,q2,q3⟩ | ⟨y,j,e',q1,q2,q3,q4,q5,q6⟩
    ·refine .inl ⟨by simp [getM,hk,q1],by rw [hf,q2],fun y v c hy=>?_⟩
     simp only [BE,if_neg hk]
     exact ⟨h1,h2,q3 y v c hy⟩
    ·refine .inr ⟨y,j+1,e',by simp [getM,hk,q1],by rw [hf,q2]; simp; omega,by simpa using q3,q4,q5,fun y v hy=>?_⟩
     simp only [BE,if_neg hk,List.set_cons_succ]
     exact ⟨h1,h2,q6 y v hy⟩
 | [],_::_,_,_,h=>h.elim
 | _::_,[],_,_,h=>h.elim
theorem bn.mkm (S:aJ G J w ι obj) (hb:obj base=.free):bn G obj (fun o=>if o=base then .live (.mp []) else obj o) J ι w (.mr base) (.map (some w.heap.size)) (w.alloc (.map #[] 0)):=by
 have hfree:∀ n,ι base n=none:=by have:=S.rep base; rw [hb] at this; exact this
 let ι':Nat→Nat→Option Nat:=fun o n=>if o=base then (if n=0 then some w.heap.size else none) else ι o n
 have hi:∀ o n b,ι o n=some b→ι' o n=some b:=fun o n b e_=>by
  by_cases ho:o=base
  ·subst ho; rw [hfree] at e_; cases e_
  ·simp only [ι',if_neg ho]; exact e_
 have E:Ev (Own ι obj) J J ι ι' w (w.alloc (.map #[] 0)):=Ev.alloc _ _ w w.drawn _ hi
 have hT:=aJ.um S base (.live (.mp [])) E (fun o ho n=>by simp only [ι',if_neg ho]) (fun b hlt _=>fI w _ b hlt)
  ⟨⟨w.heap.size,#[],0,by simp [ι'],ek w _,trivial⟩,trivial⟩ (fun b e_=>by
    have:ι' base 0=some b:=e_
    simp [ι'] at this; exact .inr (by omega))
 exact ⟨J,ι',hT.1,⟨w.heap.size,by simp [ι'],rfl⟩,hT.2⟩
theorem bn.On (S:aJ G J w ι obj) {o b:Nat} {es es':List (Int×LV)} {E E':Array MapEntry} {c c':Nat} (ho:obj o=.live (.mp es)) (h1:ι o 0=some b) (h2:w.heap[b]? = some (.map E c)) (h3:jd J w ι es' E'.toList) :
  bn G obj (fun k=>if k=o then .live (.mp es') else obj k) J ι w .undef Go.undef { w with heap:=w.heap.setIfInBounds b (.map E' c') }:=by
 have hown:Own ι obj b:=⟨o,by rw [ho]; exact h1⟩
 obtain ⟨k1,k2⟩:=MapKept.heap_set (o':=.map E' c') h2
 have E1:Ev (Own ι obj) J J ι ι w { w with heap:=w.heap.setIfInBounds b (.map E' c') }:=⟨rfl,rfl,rfl,by simp,fun k _ hn=>k2 k (fun e=>hn (by rw [e]; exact hown)),fun k _=>by
  by_cases e:k=b
  ·subst e; simp only [World.shape?,k1,h2]
  ·exact bM (k2 k e),fun _ h=>h,fun _ h=>.inl h,fun _ _ _ h=>h⟩
 have hT:=aJ.um S o (.live (.mp es')) E1 (fun _ _ _=>rfl) (fun k _ hn=>k2 k (fun e=>hn (by rw [ho,e]; exact h1)))
  ⟨⟨b,E',c',h1,k1,h3.ev S E1⟩,trivial⟩ (fun k hk=>.inl (by rw [ho]; exact hk))
 exact ⟨J,ι,hT.1,rfl,hT.2⟩
theorem CA (S:aJ G J w ι obj) (he:∀ t,dz J w ι (get t) (a.tmps.getD t Go.undef)) {X K Y:Operand} {x k y:bX} (hx:aL X=some x) (hk:aL K=some k) (hy:aL Y=some y) {T kt et:TypeId} (hu:P.underlying T=some (.map kt et)) (hi:Ay P kt=true) {e:fC} (hE:fQ G get obj base (.mup x k y)=some e) :
  ∃ w',(Instr.mapUpdate T (a.eval X) (a.eval K) (a.eval Y)).run P w=.ok () w'∧bn G obj (bO obj base e) J ι w e.r Go.undef w':=by
 have cC:=bg S he hx
 have hrk:=bg S he hk
 have lH:=bg S he hy
 have hd:=F7 hi
 simp only [fQ] at hE
 split at hE
 ·rename_i o n eo QC
  rw [eo] at cC
  rw [QC] at hrk
  obtain ⟨b,hb,hX⟩:=cC
  have hK:a.eval K=.int .i64 n:=hrk
  split at hE
  ·rename_i es ho
   cases hE
   have h0:=S.rep o
   rw [ho] at h0
   obtain ⟨⟨b',C,c,m1,m2,m3⟩,_⟩:=h0
   rw [hb] at m1; cases m1
   have e1:bO obj base { r:=.undef,rd:=[o],wr:=[(o,.mp (BE es n (y.ev G get)))] } = fun k=>if k=o then .live (.mp (BE es n (y.ev G get))) else obj k:=by
    funext k; simp only [bO,qU,de]
   rw [e1,hX,hK]
   have hck:=MapKept.run_checkKey (w:=w) (k:=.int .i64 n) hd (by simp [MapKept.IsKey]) false 9999
   rcases wj es C.toList n 0 m3 with ⟨_,q2,q3⟩ | ⟨_,j,e',_,q2,q3,q4,_,q6⟩
   ·refine ⟨_,?_,bn.On S ho hb m2 (E':=C.push ⟨.int .i64 n,a.eval Y,c⟩) (c':=c+1) (by simpa using q3 _ (a.eval Y) c lH)⟩
    simp [Instr.mapUpdate,run_underlying hu,Result.andThen,MapKept.run_getObj_map m2,hck,MapKept.run_findKey hd q2,MapKept.run_setObj_map _ m2]
   ·have hj:C[j]? = some e':=by simpa using q3
    obtain ⟨key,val,born⟩:=e'
    dsimp only at q4
    subst q4
    have hmod:(C.modify j fun e=>{ e with key:=.int .i64 n,val:=a.eval Y }).toList=C.toList.set j ⟨.int .i64 n,a.eval Y,born⟩:=by
     apply List.ext_getElem?
     intro i
     simp only [Array.getElem?_toList,Array.getElem?_modify,List.getElem?_set]
     by_cases hij:j=i
     ·subst hij
      have hlt:j<C.size:=(Array.getElem?_eq_some_iff.1 hj).1
      have:=(Array.getElem?_eq_some_iff.1 hj).2
      simp [hlt,this]
     ·simp [hij]
    refine ⟨_,?_,bn.On S ho hb m2 (E':=C.modify j fun e=>{ e with key:=.int .i64 n,val:=a.eval Y }) (c':=c) (by rw [hmod]; exact q6 _ _ lH)⟩
    simp [Instr.mapUpdate,run_underlying hu,Result.andThen,MapKept.run_getObj_map m2,hck,MapKept.run_findKey hd q2,hj,MapKept.run_keyThatStays (k:=.int .i64 n) (d:=.int .i64) (by simp [MapKept.IsKey]),MapKept.run_setObj_map _ m2]
  ·cases hE
 ·cases hE
theorem Me (S:aJ G J w ι obj) (he:∀ t,dz J w ι (get t) (a.tmps.getD t Go.undef)) {X K:Operand} {x k:bX} (hx:aL X=some x) (hk:aL K=some k) {T kt et:TypeId} {ok:Bool} {i:TypeInfo} {z:Value} (hu:P.underlying T=some (.map kt et)) (hi:Ay P kt=true) (hin:P.info? et=some i) (hz:i.zero=some z) {e:fC} (hE:fQ G get obj base (.mlk z ok x k)=some e) :
  ∃ v,(Instr.lookup T (a.eval X) (a.eval K) ok).run P w=.ok v w∧dz J w ι e.r v∧e.nw=[]∧e.wr=[]:=by
 have cC:=bg S he hx
 have hrk:=bg S he hk
 have hd:=F7 hi
 have hzr:(zeroValue et).run P w=.ok z w:=by simp [zeroValue,typeInfo,hin,hz]
 simp only [fQ] at hE
 split at hE
 ·rename_i o n eo QC
  rw [eo] at cC
  rw [QC] at hrk
  obtain ⟨b,hb,hX⟩:=cC
  have hK:a.eval K=.int .i64 n:=hrk
  split at hE
  ·rename_i es ho
   have h0:=S.rep o
   rw [ho] at h0
   obtain ⟨⟨b',C,c,m1,m2,m3⟩,_⟩:=h0
   rw [hb] at m1; cases m1
   have hck:=fun e=>MapKept.run_checkKey (w:=w) (k:=.int .i64 n) hd (by simp [MapKept.IsKey]) e 9999
   rw [hX,hK]
   rcases wj es C.toList n 0 m3 with ⟨q1,q2,q3⟩ | ⟨y,j,e',q1,q2,q3,q4,q5,_⟩
   ·rw [q1] at hE; cases hE
    refine ⟨if ok=true then .tuple #[z,.bool false] else z,?_,?_,rfl,rfl⟩
    ·simp [Instr.lookup,run_underlying hu,Result.andThen,MapKept.run_getObj_map m2,hck,MapKept.run_findKey hd q2,hzr]
    ·cases ok
     ·exact rfl
     ·exact ⟨_,rfl,rfl,rfl,trivial⟩
   ·rw [q1] at hE; cases hE
    refine ⟨if ok=true then .tuple #[e'.val,.bool true] else e'.val,?_,?_,rfl,rfl⟩
    ·simp [Instr.lookup,run_underlying hu,Result.andThen,MapKept.run_getObj_map m2,hck,MapKept.run_findKey hd q2]
    ·cases ok
     ·exact q5
     ·exact ⟨_,rfl,q5,rfl,trivial⟩
  ·cases hE
 ·cases hE
theorem Jn (S:aJ G J w ι obj) (he:∀ t,dz J w ι (get t) (a.tmps.getD t Go.undef)) {m:M} {e:fC} (hE:fQ G get obj base m=some e) (hfree:∀ j,j<e.nw.length→obj (base+j)=.free) {o:Oper} (hc:iN P o.op=some m) :
  cR P o a w (bn G obj (bO obj base e) J ι w e.r):=by
 obtain ⟨dst,op,type,pos,after,guard⟩:=o
 dsimp only at hc
 have stay:∀ {e:fC} {v:Value},e.nw=[]→e.wr=[]→dz J w ι e.r v→bn G obj (bO obj base e) J ι w e.r v w:=by
  intro e v h1 h2 h3
  simp only [bO,h1,h2,qU,de]
  exact bn.stay S h3
 cases op with
 | slice T x lo hi mx=>
   cases mx with
   | some _=>simp [iN] at hc
   | none=>
     simp only [iN] at hc
     split at hc
     ·rename_i x' lo' hi' n el h1 h2 h3 hu
      split at hc
      ·rename_i hs
       cases hc
       obtain ⟨v,hv,hr,h6,h7⟩:=LH S he h1 h2 h3 hu hs hE
       exact cR.value (s:=Instr.sliceAt T (a.eval x) (lo.map a.eval) (hi.map a.eval) none) rfl hv (stay h6 h7 hr)
      ·cases hc
     ·cases hc
 | makeSlice T l c=>
   simp only [iN] at hc
   split at hc
   ·rename_i n el h1 hu
    split at hc
    ·rename_i z size bytes h2 h3
     split at hc
     ·rename_i oe
      cases hc
      have hb:obj base=.free:=by
       have hlen:0<e.nw.length:=by
        have RO:=hE
        simp only [fQ] at RO
        split at RO
        ·split at RO
         ·cases RO; simp
         ·cases RO
        ·cases RO
       simpa using hfree 0 hlen
      obtain ⟨v,w',hv,hA⟩:=Mf S he h1 oe.1 hu h3 h2 oe.2 hb hE
      exact cR.value (s:=Instr.makeSlice T (a.eval l) (a.eval c)) rfl hv hA
     ·cases hc
    ·cases hc
   ·cases hc
 | convert S' T x=>
   simp only [iN] at hc
   split at hc
   ·rename_i y el h1 h2 h3
    split at hc
    ·rename_i h4
     cases hc
     obtain ⟨v,hv,hr,h6,h7⟩:=Ns S he h1 h2 h4 h3 hE
     exact cR.value (s:=Go.convert S' T (a.eval x)) rfl hv (stay h6 h7 hr)
    ·cases hc
   ·cases hc
 | call c=>
   obtain ⟨callee,args,ts⟩:=c
   cases callee with
   | value f=>simp [iN] at hc
   | invoke r m=>simp [iN] at hc
   | builtin b=>
     cases b with
     | copy=>
       simp only [iN] at hc
       split at hc
       ·rename_i x y tx ty hargs hT
        have ha:args=#[x,y]:=by apply Array.ext'; simpa using hargs
        have ht:ts=#[tx,ty]:=by apply Array.ext'; simpa using hT
        subst ha ht
        split at hc
        ·rename_i x' y' el h1 h2 h3
         split at hc
         ·rename_i oe
          cases hc
          obtain ⟨v,w',hv,hA⟩:=Nh (rt:=type) S he h1 h2 h3 oe.1 oe.2 hE
          exact cR.value (s:=Builtin.copy_ #[tx,ty] type #[a.eval x,a.eval y]) (by simp [execOp,resolve,invoke,builtin]) hv hA
         ·cases hc
        ·cases hc
       ·cases hc
     | clear=>
       simp only [iN] at hc
       split at hc
       ·rename_i x tx hargs hT
        have ha:args=#[x]:=by apply Array.ext'; simpa using hargs
        have ht:ts=#[tx]:=by apply Array.ext'; simpa using hT
        subst ha ht
        split at hc
        ·rename_i x' el h1 h2
         split at hc
         ·rename_i z n h3 h4
          split at hc
          ·rename_i oe
           cases hc
           obtain ⟨v,w',hv,hA⟩:=Nl (rt:=type) S he h1 h2 h3 oe hE
           exact cR.value (s:=Builtin.clear_ #[tx] type #[a.eval x]) (by simp [execOp,resolve,invoke,builtin]) hv hA
          ·cases hc
         ·cases hc
        ·cases hc
       ·cases hc
     | _=>simp [iN] at hc
 | unOp u T x=>
   cases u with
   | xor=>
     simp only [iN] at hc
     split at hc
     ·rename_i y h1
      cases hc
      have cC:=bg S he h1
      simp only [fQ] at hE
      split at hE
      ·rename_i k n eo
       rw [eo] at cC
       have hX:a.eval x=.int k n:=cC
       cases hE
       exact cR.value (s:=Op.unary .xor (a.eval x)) rfl (by rw [hX]; rfl) (stay rfl rfl rfl)
      ·cases hE
     ·cases hc
   | _=>simp [iN] at hc
 | makeMap T r=>
   cases r with
   | some _=>simp [iN] at hc
   | none=>
     simp only [iN,Option.some.injEq] at hc
     subst hc
     simp only [fQ,Option.some.injEq] at hE
     subst hE
     have hb:obj base=.free:=by simpa using hfree 0 (by simp)
     refine cR.value (s:=Instr.makeMap T none) rfl rfl ?_
     have e1:bO obj base { r:=.mr base,nw:=[.mp []] } = fun o=>if o=base then .live (.mp []) else obj o:=by funext k; simp [bO,qU,de]
     rw [e1]
     exact bn.mkm S hb
 | mapUpdate T m k x=>
   simp only [iN] at hc
   split at hc
   ·rename_i h1 h2 h3 h4
    split at hc
    ·rename_i h5
     cases hc
     obtain ⟨w',hv,hA⟩:=CA S he h1 h2 h3 h4 h5 hE
     refine cR.yP (w':=w') ?_ hA
     simp [execOp,hv,Result.andThen]
    ·cases hc
   ·cases hc
 | insert T m k x=>
   simp only [iN] at hc
   split at hc
   ·rename_i h1 h2 h3 h4
    split at hc
    ·rename_i h5
     cases hc
     obtain ⟨w',hv,hA⟩:=CA S he h1 h2 h3 h4 h5 hE
     refine cR.yP (w':=w') ?_ hA
     simp [execOp,hv,Result.andThen]
    ·cases hc
   ·cases hc
 | lookup T m k ok=>
   simp only [iN] at hc
   split at hc
   ·rename_i h1 h2 h3
    split at hc
    ·rename_i i h4
     split at hc
     ·rename_i z h5
      split at hc
      ·rename_i h6
       cases hc
       obtain ⟨v,hv,hr,h7,h8⟩:=Me S he h1 h2 h3 h6 h4 h5 hE
       exact cR.value (s:=Instr.lookup T (a.eval m) (a.eval k) ok) rfl hv (stay h7 h8 hr)
      ·cases hc
     ·cases hc
    ·cases hc
   ·cases hc
 | _=>simp [iN] at hc
theorem Jo (S:aJ G J w ι obj) (he:∀ t,dz J w ι (get t) (a.tmps.getD t Go.undef)) {i:I} {e:fC} (hE:cO G get obj base i=some e) (hfree:∀ j,j<e.nw.length→obj (base+j)=.free) {o:Oper} (hc:nq P o.op=some i) :
  cR P o a w (bn G obj (bO obj base e) J ι w e.r):=by
 rcases x_ hc with h | ⟨m,rfl,h⟩
 ·exact M7 S he hE hfree h
 ·have RO:fQ G get obj base m=some e:=by simpa only [cO] using hE
  rcases h with h | h | rfl
  ·exact Jn S he RO hfree h
  ·exact Jp S he RO h
  ·cases RO
end
end Dv
namespace Dv
open Go
def fz (ro:Option Nat):Fence:={ fn:=fun _=>True,depth:=none,alive:=false,round:=ro }
theorem om {ro:Option Nat} {n:Nat} {P:Program} {f:FuncId} {args:Array Value} {w:World} {R:Ending→World→Prop} : CallsIn (fz ro) n P f args w R↔Calls P f args w R:=by
 have:CallsIn (fz ro) n P f args w R=CallsIn Fence.wide n P f args w R:=rfl
 rw [this]; exact callsIn_wide
theorem VH {ro:Option Nat} {n:Nat} {P:Program} {row:String} {args:Array Value} {w:World} {R:Value→World→Prop} (h:Rows P row args w R):RowsIn (fz ro) n P row args w R:=by
 intro b cs _
 obtain ⟨v,w',h1,h2⟩:=h b cs
 exact ⟨v,w',h1,stepsIn_wide.2 h2⟩
theorem Y9 {ro:Option Nat} {n:Nat} {P:Program} {o:Oper} {a:Act} {w:World} {next:Act→World→Prop} {Q:Exit→Act→World→Prop} (hd:∀ c,o.op≠.defer c) (h:o.wp P a w next Q):o.wpIn (fz ro) n P a w next Q:=by
 refine ⟨fun _ _=>trivial,?_⟩
 rw [Oper.semAt_eq _ _ _ hd]
 unfold Oper.wp at h
 generalize (execOp a.eval o).run P w=r at h
 unfold Oper.upon at h
 unfold Oper.uponIn
 split at h
 ·exact h
 ·exact h
 ·exact h
 ·exact ⟨(fun hh=>by cases hh),om.2 (Calls.mono h (fun e w' q=>by cases e <;> exact q))⟩
 ·exact ⟨(fun hh=>by cases hh),VH h⟩
 ·exact h
 ·exact h.elim
structure St where
 env:List (Nat×LV)
 af:List (Option aG)
def aY:List (Nat×LV)→Nat→LV
 | [],_=>.top
 | (k,v)::r,t=>if k=t then v else aY r t
def ei (dst:Option Nat) (r:LV) (env:List (Nat×LV)):List (Nat×LV):=match dst with
 | some d=>(d,r)::env
 | none=>env
def St.get (s:St) (t:Nat):LV:=aY s.env t
def St.obj (s:St) (o:Nat):cG:=aC s.af o
def fU:List (Nat×aG)→List (Option aG)→List (Option aG)
 | [],l=>l
 | (k,ob)::r,l=>(fU r l).set k (some ob)
def St.app (s:St) (dst:Option Nat) (e:fC):St:={ env:=ei dst e.r s.env,af:=fU e.wr s.af++e.nw.map some }
def St.put (s:St) (dst:Option Nat) (r:LV):St:={ s with env:=ei dst r s.env }
def callee:LV→Option (Nat×List LV×List LV)
 | .d (.fn (.func k) fs cs)=>some (k,fs.map .d,cs.map .d)
 | .fn (.func k) fs cs=>some (k,fs,cs)
 | _=>none
def lB (P:Program) (G:Nat→Option (List DV)) (get:Nat→LV) (obj:Nat→cG) (base:Nat) (i:I) (e:fC):Prop:=
 match i with
 | .call f args=>match callee (f.ev G get) with
   | some (k,fs,cs)=>cD P G k (fs++args.map (·.ev G get)++cs) obj base e
   | none=>False
 | i=>cO G get obj base i=some e
section
variable {P:Program} {G:Nat→Option (List DV)} {J:Nat→Prop} {w w':World} {ι:Nat→Nat→Option Nat} {obj:Nat→cG} {a:Act} {get:Nat→LV} {base:Nat}
theorem cA.append:∀ {xs ys:List LV} {vs us:List Value},cA J w ι xs vs→cA J w ι ys us→cA J w ι (xs++ys) (vs++us)
 | [],ys,[],us,_,h=>h
 | x::xs,ys,v::vs,us,h,k=>⟨h.1,cA.append h.2 k⟩
 | [],_,_::_,_,h,_=>h.elim
 | _::_,_,[],_,h,_=>h.elim
theorem xw (keep:Nat→Bool):∀ (l:List (Nat×aG)) (obj:Nat→cG),(l.map (·.1)).Nodup→(∀ p∈l,keep p.1=false→obj p.1=.live p.2)→de (l.filter fun p=>keep p.1) obj=de l obj
 | [],_,_,_=>rfl
 | (k,ob)::r,obj,hn,h=>by
   simp only [List.map_cons,List.nodup_cons] at hn
   have ih:=xw keep r obj hn.2 (fun p hp=>h p (by simp [hp]))
   cases hk:keep k with
   | true=>rw [List.filter_cons_of_pos (by simpa using hk)]; simp only [de,ih]
   | false=>
     rw [List.filter_cons_of_neg (by simp [hk]),ih]
     funext o
     simp only [de]
     split
     ·rename_i ho
      subst ho
      have hout:∀ (l:List (Nat×aG)) (o:Nat),o∉l.map (·.1)→de l obj o=obj o:=by
       intro l
       induction l with
       | nil=>intro o _; rfl
       | cons p l ihl=>
         intro o ho
         obtain ⟨a,b⟩:=p
         simp only [List.map_cons,List.mem_cons,not_or] at ho
         simp only [de]; rw [if_neg ho.1]; exact ihl o ho.2
      rw [hout r _ hn.1]
      exact h (o,ob) (by simp) hk
     ·rfl
theorem Ew (obj:Nat→cG):∀ (Z:List Nat),∀ p∈gJ obj Z,p.1∈Z
 | [],p,h=>by cases h
 | z::Z,p,h=>by
   simp only [gJ] at h
   split at h
   ·rcases List.mem_cons.1 h with rfl | h
    ·simp
    ·exact List.mem_cons_of_mem _ (Ew obj Z p h)
   ·exact List.mem_cons_of_mem _ (Ew obj Z p h)
theorem GX {ρ Z:List Nat} {tmp:Bool} {aI ax:List aG} {base:Nat} {r:LV} (hn:ρ.Nodup) (hz:∀ z∈Z,z∉ρ) {obj:Nat→cG}
  (ho:∀ (i o:Nat),ρ[i]? = some o→∃ ob,aI[i]? = some ob∧obj o=.live (fq (bC ρ base) ob)) {keep:Nat→Bool} (hk:∀ (i o:Nat),ρ[i]? = some o→keep o=false→ax[i]? = aI[i]?) (nw:List aG) :
  bO obj base { r:=rn (bC ρ base) r,rd:=ρ++Z,wr:=((ρ.zip (ax.map (fq (bC ρ base)))).filter fun p=>keep p.1)++(if tmp then [] else gJ obj Z),nw:=nw } =
   bO obj base { r:=rn (bC ρ base) r,rd:=ρ++Z,wr:=(ρ.zip (ax.map (fq (bC ρ base))))++(if tmp then [] else gJ obj Z),nw:=nw }:=by
 unfold bO
 dsimp only
 have hap:∀ (l m:List (Nat×aG)) (obj:Nat→cG),de (l++m) obj=de l (de m obj):=by
  intro l m obj
  induction l with
  | nil=>rfl
  | cons p l ih=>obtain ⟨a,b⟩:=p; simp only [List.cons_append,de,ih]
 rw [hap,hap,xw]
 ·have sub:∀ (ρ:List Nat) (l:List aG),((ρ.zip l).map (·.1)).Sublist ρ:=by
   intro ρ
   induction ρ with
   | nil=>intro l; simp
   | cons a r ih=>
     intro l
     cases l with
     | nil=>simp
     | cons b l=>simpa using ih l
  exact hn.sublist (sub _ _)
 ·intro p hp hkp
  obtain ⟨i,hi⟩:=List.mem_iff_getElem?.1 hp
  rw [List.getElem?_zip_eq_some] at hi
  obtain ⟨h1,h2⟩:=hi
  have h3:=hk i p.1 h1 hkp
  obtain ⟨ob,h4,h5⟩:=ho i p.1 h1
  rw [List.getElem?_map,h3,h4] at h2
  simp only [Option.map_some,Option.some.injEq] at h2
  have hout:∀ (l:List (Nat×aG)) (o:Nat),o∉l.map (·.1)→de l obj o=obj o:=by
   intro l
   induction l with
   | nil=>intro o _; rfl
   | cons p l ihl=>
     intro o ho
     obtain ⟨a,b⟩:=p
     simp only [List.map_cons,List.mem_cons,not_or] at ho
     simp only [de]; rw [if_neg ho.1]; exact ihl o ho.2
  rw [hout _ _ ?_,h5,← h2]
  intro hm
  obtain ⟨q,hq,IP⟩:=List.mem_map.1 hm
  split at hq
  ·cases hq
  ·exact hz _ (Ew obj Z q hq) (IP ▸ List.mem_of_getElem? h1)
theorem JG (S:aJ G J w ι obj) (he:∀ t,dz J w ι (get t) (a.tmps.getD t Go.undef)) {f:bX} {args:List bX} {e:fC} (hE:lB P G get obj base (.call f args) e) (hfree:∀ j,j<e.nw.length→obj (base+j)=.free) {o:Oper} (hc:nq P o.op=some (.call f args)) :
  cR P o a w (bn G obj (bO obj base e) J ι w e.r):=by
 replace hc:=tT hc
 obtain ⟨dst,op,type,pos,after,guard⟩:=o
 dsimp only at hc
 obtain ⟨F,as,ts,rfl,hF,hargs⟩:∃ F as ts,op=.call ⟨.value F,as,ts⟩∧aL F=some f∧dY as.toList=some args:=by
  cases op with
  | call c=>
    obtain ⟨callee,as,ts⟩:=c
    cases callee with
    | value F=>
      simp only [cT] at hc
      split at hc
      ·rename_i f' args' h1 h2; cases hc; exact ⟨F,as,ts,rfl,h1,h2⟩
      ·cases hc
    | invoke r m=>simp [cT] at hc
    | builtin b=>
      exfalso
      cases b <;> simp only [cT] at hc <;> (repeat' split at hc) <;> cases hc
  | unOp u T x=>exfalso; cases u <;> simp only [cT] at hc <;> (try (cases hc; done)) <;> (repeat' split at hc) <;> cases hc
  | _=>
    exfalso
    simp only [cT] at hc <;> (repeat' split at hc) <;> cases hc
 simp only [lB] at hE
 split at hE
 ·rename_i k fs cs jy
  have AD:=bg S he hF
  have hrA:=rQ S he hargs
  obtain ⟨fs',cs',hval,Vo,hcs⟩:∃ fs' cs',a.eval F=.func (.func k) fs' cs'∧cA J w ι fs fs'.toList∧cA J w ι cs cs'.toList:=by
   generalize f.ev G get=x at jy AD
   unfold callee at jy
   split at jy
   ·cases jy
    obtain ⟨fs',cs',h1,h2,h3⟩:=AD
    exact ⟨fs',cs',h1,h2.BA,h3.BA⟩
   ·cases jy
    obtain ⟨fs',cs',h1,h2,h3⟩:=AD
    exact ⟨fs',cs',h1,h2,h3⟩
   ·cases jy
  obtain ⟨ρ,Z,tmp,a_,aI,r,ax,keep,hkeep,hn,hz,yw,hl,e_,hid,vf,Gb,hle,Eo,rfl⟩:=hE.ex
  obtain ⟨hent,IZ⟩:=Eo
  obtain ⟨SF,_⟩:=S.sub (base:=base) hn hz hl e_ hid yw
  have IM:cA J w ι (fs++args.map (·.ev G get)++cs) (fs'++as.map a.eval++cs').toList:=by
   simp only [Array.toList_append,Array.toList_map]
   exact (Vo.append hrA).append hcs
  have Gj:=IZ _ _ w (fs'++as.map a.eval++cs') SF (gO S _ _ _ vf IM)
  have hrun:(execOp a.eval ⟨dst,.call ⟨.value F,as,ts⟩,type,pos,after,guard⟩).run P w=.ok (.enter k (fs'++as.map a.eval++cs')) w:=by
   simp only [execOp,resolve,Sem.run_bind,hval,Deferred.ofValue,Sem.run_pure,Result.andThen_ok,invoke]
   exact oq hent _ w
  intro next Q hnext
  unfold Oper.wp
  rw [hrun,Oper.upon_enter]
  refine Calls.mono Gj (fun e w'' ⟨v,eo,hA⟩=>?_)
  subst eo
  refine hnext v w'' ?_
  simp only [List.length_map,List.length_drop] at hfree
  rw [GX hn hz e_ hkeep]
  exact bn.call S hn hz hl e_ hid yw Gb hle hfree hA
 ·exact hE.elim
theorem Rs (S:aJ G J w ι obj) (he:∀ t,dz J w ι (get t) (a.tmps.getD t Go.undef)) {f:bX} {args:List bX} {e:fC} {p:Value} {k:Nat} {fs cs:List LV} (jy:callee (f.ev G get)=some (k,fs,cs)) (hE:fD P G k (fs++args.map (·.ev G get)++cs) obj base p e) (hfree:∀ j,j<e.nw.length→obj (base+j)=.free) {o:Oper} (hc:nq P o.op=some (.call f args))
  (next:Act→World→Prop) (Q:Exit→Act→World→Prop) (hQ:∀ w',bn G obj (bO obj base e) J ι w .top Go.undef w'→Q (.panic [{ v:=p,recovered:=false }]) a w'):o.wp P a w next Q:=by
 replace hc:=tT hc
 obtain ⟨dst,op,type,pos,after,guard⟩:=o
 dsimp only at hc
 obtain ⟨F,as,ts,rfl,hF,hargs⟩:∃ F as ts,op=.call ⟨.value F,as,ts⟩∧aL F=some f∧dY as.toList=some args:=by
  cases op with
  | call c=>
    obtain ⟨callee,as,ts⟩:=c
    cases callee with
    | value F=>
      simp only [cT] at hc
      split at hc
      ·rename_i f' args' h1 h2; cases hc; exact ⟨F,as,ts,rfl,h1,h2⟩
      ·cases hc
    | invoke r m=>simp [cT] at hc
    | builtin b=>
      exfalso
      cases b <;> simp only [cT] at hc <;> (repeat' split at hc) <;> cases hc
  | unOp u T x=>exfalso; cases u <;> simp only [cT] at hc <;> (try (cases hc; done)) <;> (repeat' split at hc) <;> cases hc
  | _=>
    exfalso
    simp only [cT] at hc <;> (repeat' split at hc) <;> cases hc
 have AD:=bg S he hF
 have hrA:=rQ S he hargs
 obtain ⟨fs',cs',hval,Vo,hcs⟩:∃ fs' cs',a.eval F=.func (.func k) fs' cs'∧cA J w ι fs fs'.toList∧cA J w ι cs cs'.toList:=by
  generalize f.ev G get=x at jy AD
  unfold callee at jy
  split at jy
  ·cases jy
   obtain ⟨fs',cs',h1,h2,h3⟩:=AD
   exact ⟨fs',cs',h1,h2.BA,h3.BA⟩
  ·cases jy
   obtain ⟨fs',cs',h1,h2,h3⟩:=AD
   exact ⟨fs',cs',h1,h2,h3⟩
  ·cases jy
 obtain ⟨ρ,Z,a_,aI,ax,hn,hz,yw,hl,e_,hid,vf,hle,Eo,rfl⟩:=hE.ex
 obtain ⟨hent,IZ⟩:=Eo
 obtain ⟨SF,_⟩:=S.sub (base:=base) hn hz hl e_ hid yw
 have IM:cA J w ι (fs++args.map (·.ev G get)++cs) (fs'++as.map a.eval++cs').toList:=by
  simp only [Array.toList_append,Array.toList_map]
  exact (Vo.append hrA).append hcs
 have Gj:=IZ _ _ w (fs'++as.map a.eval++cs') SF (gO S _ _ _ vf IM)
 have hrun:(execOp a.eval ⟨dst,.call ⟨.value F,as,ts⟩,type,pos,after,guard⟩).run P w=.ok (.enter k (fs'++as.map a.eval++cs')) w:=by
  simp only [execOp,resolve,Sem.run_bind,hval,Deferred.ofValue,Sem.run_pure,Result.andThen_ok,invoke]
  exact oq hent _ w
 unfold Oper.wp
 rw [hrun,Oper.upon_enter]
 refine Calls.mono Gj (fun e w'' ⟨eo,hA⟩=>?_)
 subst eo
 refine hQ w'' ?_
 simp only [List.length_map,List.length_drop] at hfree
 have:=bn.call (tmp:=false) S hn hz hl e_ hid yw (fun h=>by cases h) hle hfree hA
 simpa [rn] using this
theorem JS (S:aJ G J w ι obj) (he:∀ t,dz J w ι (get t) (a.tmps.getD t Go.undef)) {i:I} {e:fC} (hE:lB P G get obj base i e) (hfree:∀ j,j<e.nw.length→obj (base+j)=.free) {o:Oper} (hc:nq P o.op=some i) :
  cR P o a w (bn G obj (bO obj base e) J ι w e.r):=by
 by_cases h:∃ f args,i=.call f args
 ·obtain ⟨f,args,rfl⟩:=h
  exact JG S he hE hfree hc
 ·have:lB P G get obj base i e=(cO G get obj base i=some e):=by
   cases i <;> first | rfl | (exfalso; exact h ⟨_,_,rfl⟩)
  rw [this] at hE
  exact Jo S he hE hfree hc
end
theorem yQ {l:List (Option aG)} {o:Nat} {ob:aG} (h:aC l o=.live ob):o<l.length:=by
 unfold aC at h
 split at h
 ·cases h
 ·cases h
 ·rename_i hh; exact (List.getElem?_eq_some_iff.1 hh).1
theorem cW {l:List (Option aG)} {o:Nat} (h:l.length≤o):aC l o=.free:=by
 unfold aC; rw [List.getElem?_eq_none h]
theorem qi:∀ (wr:List (Nat×aG)) (l:List (Option aG)),(fU wr l).length=l.length
 | [],_=>rfl
 | (k,ob)::r,l=>by simp only [fU,List.length_set,qi r l]
theorem ze:∀ (wr:List (Nat×aG)) (l:List (Option aG)),(∀ p∈wr,p.1<l.length)→∀ o,aC (fU wr l) o=de wr (aC l) o
 | [],_,_,_=>rfl
 | (k,ob)::r,l,h,o=>by
   have hk:k<(fU r l).length:=by rw [qi]; exact h (k,ob) (by simp)
   simp only [fU,de]
   unfold aC
   by_cases ho:o=k
   ·subst ho
    rw [List.getElem?_set_self hk]; simp
   ·rw [List.getElem?_set_ne (fun e=>ho e.symm),if_neg ho]
    exact ze r l (fun p hp=>h p (by simp [hp])) o
theorem Lb (l:List (Option aG)) (e:fC) (h:∀ p∈e.wr,p.1<l.length):aC (fU e.wr l++e.nw.map some)=bO (aC l) l.length e:=by
 funext o
 simp only [bO,uS]
 have hl:=qi e.wr l
 by_cases ho:l.length≤o
 ·rw [if_pos ho]
  have:aC (fU e.wr l++e.nw.map some) o=(match e.nw[o-l.length]? with | some ob=>.live ob | none=>.free):=by
   unfold aC
   rw [List.getElem?_append_right (by omega),hl,List.getElem?_map]
   cases e.nw[o-l.length]? <;> rfl
  rw [this]
  cases e.nw[o-l.length]? with
  | some ob=>rfl
  | none=>
    show cG.free=de e.wr (aC l) o
    rw [← ze e.wr l h o,cW (by omega)]
 ·rw [if_neg ho,← ze e.wr l h o]
  unfold aC
  rw [List.getElem?_append_left (by omega)]
theorem Gv {obj:Nat→cG} {x:LV} {o:Nat} {ob:aG} {d:DV} (h:ru obj x=some (o,ob,d)):∃ ob',obj o=.live ob':=by
 unfold ru at h
 split at h
 ·split at h
  ·rename_i ho
   split at h
   ·cases h; exact ⟨_,ho⟩
   ·cases h
  ·cases h
 ·cases h
theorem uh {G:Nat→Option (List DV)} {get:Nat→LV} {obj:Nat→cG} {base:Nat} {i:I} {e:fC} (h:cO G get obj base i=some e):∀ p∈e.wr,∃ ob,obj p.1=.live ob:=by
 intro p hp
 by_cases hm:∃ m,i=.more m
 ·obtain ⟨m,rfl⟩:=hm
  exact VT (by simpa only [cO] using h) p hp
 cases i <;> (try (exfalso; exact hm ⟨_,rfl⟩; done)) <;> simp only [cO] at h <;> (repeat' split at h) <;> (try (cases h; done)) <;> cases h <;> first
  | (cases hp; done)
  | (simp only [List.mem_singleton] at hp; subst hp; exact ⟨_,by assumption⟩)
  | (simp only [List.mem_singleton] at hp; subst hp; rename_i hf; exact Gv hf)
theorem rZ (obj:Nat→cG):∀ (Z:List Nat),∀ p∈gJ obj Z,∃ ob,obj p.1=.live ob
 | [],p,h=>by cases h
 | z::Z,p,h=>by
   simp only [gJ] at h
   split at h
   ·rename_i et e rows hz
    rcases List.mem_cons.1 h with rfl | h
    ·exact ⟨_,hz⟩
    ·exact rZ obj Z p h
   ·exact rZ obj Z p h
theorem lB.uh {P:Program} {G:Nat→Option (List DV)} {get:Nat→LV} {obj:Nat→cG} {base:Nat} {i:I} {e:fC} (h:lB P G get obj base i e):∀ p∈e.wr,∃ ob,obj p.1=.live ob:=by
 by_cases hi:∃ f args,i=.call f args
 ·obtain ⟨f,args,rfl⟩:=hi
  simp only [lB] at h
  split at h
  ·obtain ⟨ρ,Z,tmp,a_,aI,r,ax,keep,hkeep,hn,hz,yw,hl,e_,hid,vf,Gb,hle,Eo,rfl⟩:=h.ex
   intro p hp
   simp only [List.mem_append] at hp
   rcases hp with hp | hp
   ·have:p.1∈ρ:=(List.of_mem_zip (List.mem_filter.1 hp).1).1
    obtain ⟨i,hi⟩:=List.mem_iff_getElem?.1 this
    obtain ⟨ob,_,k⟩:=e_ i _ hi
    exact ⟨_,k⟩
   ·split at hp
    ·cases hp
    ·exact rZ obj Z p hp
  ·exact h.elim
 ·have:lB P G get obj base i e=(cO G get obj base i=some e):=by
   cases i <;> first | rfl | (exfalso; exact hi ⟨_,_,rfl⟩)
  rw [this] at h
  exact Dv.uh h
theorem fD.uh {P:Program} {G:Nat→Option (List DV)} {f:Nat} {args:List LV} {obj:Nat→cG} {base:Nat} {p:Value} {e:fC} (h:fD P G f args obj base p e):∀ q∈e.wr,∃ ob,obj q.1=.live ob:=by
 obtain ⟨ρ,Z,a_,aI,ax,hn,hz,yw,hl,e_,hid,vf,hle,Eo,rfl⟩:=h.ex
 intro q hq
 simp only [List.mem_append] at hq
 rcases hq with hq | hq
 ·have:q.1∈ρ:=(List.of_mem_zip hq).1
  obtain ⟨i,hi⟩:=List.mem_iff_getElem?.1 this
  obtain ⟨ob,_,k⟩:=e_ i _ hi
  exact ⟨_,k⟩
 ·exact rZ obj Z q hq
def j9 (w w':World):Prop:=∀ (b:Nat) (ob:Obj),w.heap[b]? = some ob→ob.oa=false→w'.heap[b]? = some ob
theorem j9.refl (w:World):j9 w w:=fun _ _ h _=>h
theorem j9.trans {w w' w'':World} (h:j9 w w') (k:j9 w' w''):j9 w w'':=fun b ob hb hc=>k b ob (h b ob hb hc) hc
theorem Ext.nc {G:Nat→Option (List DV)} {J J':Nat→Prop} {w w':World} {ι ι':Nat→Nat→Option Nat} {obj obj':Nat→cG} (S:aJ G J w ι obj) (E:Ext obj obj' J J' ι ι' w w'):j9 w w':=by
 intro b ob hb hc
 rw [E.ev.same b (Array.getElem?_eq_some_iff.1 hb).1 (fun ho=>?_)]
 ·exact hb
 ·obtain ⟨x,h,hx⟩:=S.wo ho
  rw [hb] at h; cases h; rw [hc] at hx; cases hx
def YS:Nat:=4294967294
def isNil:LV→Bool
 | .d (.val (.slice none 0 0))=>true
 | _=>false
structure Dk where
 ds:List Deferred
 xN:Bool
 lo:Nat
 ys:LV→World→Prop
 keep:∀ v w w',j9 w w'→ys v w→ys v w'
 top:∀ w,ys .top w
 tot:∀ v w,isNil v=true→ys v w→∀ u,ys u w
def Dk.plain (ds:List Deferred) (mk:Bool) (lo:Nat:=0):Dk:=⟨ds,mk,lo,fun _ _=>True,fun _ _ _ _ _=>trivial,fun _=>trivial,fun _ _ _ _ _=>trivial⟩
def Marks (D:Dk) (ds:List Deferred) (w:World):Prop:=∃ Bs:List Nat,(D.xN=false→Bs=[])∧Bs.Nodup∧ds=Bs.map (fun b=>{ target:=.collected b,args:=#[] })++D.ds∧∀ b∈Bs,D.lo≤b∧w.heap[b]? = some (.deferred (some []))
theorem Marks.keep {D:Dk} {ds:List Deferred} {w w':World} (h:Marks D ds w) (k:j9 w w'):Marks D ds w':=by
 obtain ⟨Bs,h1,h2,h3,h4⟩:=h
 exact ⟨Bs,h1,h2,h3,fun b hb=>⟨(h4 b hb).1,k b _ (h4 b hb).2 rfl⟩⟩
theorem Marks.plain (D:Dk) (w:World):Marks D D.ds w:=⟨[],fun _=>rfl,List.nodup_nil,rfl,fun _ h=>by cases h⟩
theorem Marks.none {D:Dk} {ds:List Deferred} {w:World} (h:Marks D ds w) (k:D.xN=false):ds=D.ds:=by
 obtain ⟨Bs,h1,h2,h3,h4⟩:=h
 rw [h1 k] at h3; simpa using h3
structure Sim (G:Nat→Option (List DV)) (D:Dk) (N:Nat) (J:Nat→Prop) (w:World) (ι:Nat→Nat→Option Nat) (a:Act) (get:Nat→LV) (obj:Nat→cG):Prop where
 store:aJ G J w ι obj
 env:∀ t,dz J w ι (get t) (a.tmps.getD t Go.undef)
 size:a.tmps.size=N
 defers:Marks D a.defers w
 ys:D.ys (get YS) w
 lim:N≤YS
def gI (dst:Option Nat) (r:LV) (get:Nat→LV) (t:Nat):LV:=if dst=some t then r else get t
theorem AO (dst:Option Nat) (r:LV) (env:List (Nat×LV)):aY (ei dst r env)=gI dst r (aY env):=by
 funext t
 cases dst with
 | none=>simp [ei,gI]
 | some d=>simp [ei,aY,gI]
theorem Sim.step {G:Nat→Option (List DV)} {D:Dk} {N:Nat} {J:Nat→Prop} {w w':World} {ι:Nat→Nat→Option Nat} {a:Act} {get:Nat→LV} {obj obj':Nat→cG} (S:Sim G D N J w ι a get obj) {dst:Option Nat} (hd:∀ d,dst=some d→d<N) {r:LV} {v:Value}
  (h:bn G obj obj' J ι w r v w'):∃ J' ι',Sim G D N J' w' ι' (a.put dst v) (gI dst r get) obj'∧Ext obj obj' J J' ι ι' w w':=by
 obtain ⟨J',ι',S',hr,E⟩:=h
 have hnc:=E.nc S.store
 refine ⟨J',ι',⟨S',fun t=>?_,?_,?_,?_,S.lim⟩,E⟩
 ·cases dst with
  | none=>simpa [gI,Act.put] using (S.env t).ev S.store E.ev
  | some d=>
    have Vp:=hd d rfl
    simp only [gI,Act.put,Option.some.injEq]
    by_cases ht:d=t
    ·subst ht
     rw [if_pos rfl]
     have:(a.tmps.setIfInBounds d v).getD d Go.undef=v:=by simp [Array.getD_eq_getD_getElem?,S.size,Vp]
     rw [this]; exact hr
    ·rw [if_neg ht]
     have:(a.tmps.setIfInBounds d v).getD t Go.undef=a.tmps.getD t Go.undef:=by
      simp [Array.getD_eq_getD_getElem?,Array.getElem?_setIfInBounds_ne ht]
     rw [this]; exact (S.env t).ev S.store E.ev
 ·cases dst <;> simp [Act.put,S.size]
 ·have h1:=S.defers.keep hnc
  cases dst <;> exact h1
 ·have h1:=D.keep _ _ _ hnc S.ys
  have h2:gI dst r get YS=get YS:=by
   unfold gI
   rw [if_neg]
   intro h
   have h3:=hd YS h
   have:=S.lim
   omega
  rw [h2]; exact h1
end Dv
namespace Dv
open Go
structure rJ where
 tr:List Nat
 td:Option Nat
 r:LV
 rd:List Nat
 ow:List (Nat×aG)
def rJ.wr (e:rJ):List Nat:=e.ow.map (·.1)
theorem uj:∀ (l:List (Nat×aG)) (obj:Nat→cG) (o:Nat),o∉l.map (·.1)→de l obj o=obj o
 | [],_,_,_=>rfl
 | (k,ob)::r,obj,o,h=>by
   simp only [List.map_cons,List.mem_cons,not_or] at h
   simp only [de]; rw [if_neg h.1]; exact uj r obj o h.2
theorem Ds:∀ (l:List (Nat×aG)) (obj obj':Nat→cG) (o:Nat),o∈l.map (·.1)→de l obj o=de l obj' o
 | [],_,_,_,h=>by cases h
 | (k,ob)::r,obj,obj',o,h=>by
   simp only [de]
   by_cases ho:o=k
   ·rw [if_pos ho,if_pos ho]
   ·rw [if_neg ho,if_neg ho]
    exact Ds r obj obj' o (by simpa [ho] using h)
section
variable (E:Nat→rJ) (g0:Nat→LV) (o0:Nat→cG)
def j4 (D:Nat→Bool):Nat→(Nat→LV)×(Nat→cG)
 | 0=>(g0,o0)
 | k+1=>if D k then (gI (E k).td (E k).r (j4 D k).1,de (E k).ow (j4 D k).2) else j4 D k
variable {E g0 o0}
theorem DA {D D':Nat→Bool} {t:Nat} : ∀ k,(∀ j,j<k→(E j).td=some t→D j=D' j)→(j4 E g0 o0 D k).1 t=(j4 E g0 o0 D' k).1 t
 | 0,_=>rfl
 | k+1,h=>by
   have ih:=DA k (fun j hj=>h j (by omega))
   simp only [j4]
   by_cases ht:(E k).td=some t
   ·have:=h k (by omega) ht
    rw [this]
    split
    ·simp [gI,ht]
    ·exact ih
   ·have key:∀ D:Nat→Bool,(if D k=true then (gI (E k).td (E k).r (j4 E g0 o0 D k).1,de (E k).ow (j4 E g0 o0 D k).2) else j4 E g0 o0 D k).1 t=(j4 E g0 o0 D k).1 t:=fun D=>by
     split
     ·simp [gI,ht]
     ·rfl
    rw [key,key]; exact ih
theorem yE {D D':Nat→Bool} {o:Nat} : ∀ k,(∀ j,j<k→o∈(E j).wr→D j=D' j)→(j4 E g0 o0 D k).2 o=(j4 E g0 o0 D' k).2 o
 | 0,_=>rfl
 | k+1,h=>by
   have ih:=yE k (fun j hj=>h j (by omega))
   simp only [j4]
   by_cases ht:o∈(E k).wr
   ·have:=h k (by omega) ht
    rw [this]
    split
    ·exact Ds _ _ _ _ ht
    ·exact ih
   ·have key:∀ D:Nat→Bool,(if D k=true then (gI (E k).td (E k).r (j4 E g0 o0 D k).1,de (E k).ow (j4 E g0 o0 D k).2) else j4 E g0 o0 D k).2 o=(j4 E g0 o0 D k).2 o:=fun D=>by
     split
     ·exact uj _ _ _ ht
     ·rfl
    rw [key,key]; exact ih
theorem B_ {D:Nat→Bool} {t i:Nat} (hD:D i=true) (ht:(E i).td=some t):∀ k,i<k→(∀ j,i<j→j<k→(E j).td=some t→D j=false)→(j4 E g0 o0 D k).1 t=(E i).r
 | 0,h,_=>by omega
 | k+1,h,hl=>by
   simp only [j4]
   by_cases hk:k=i
   ·subst hk; rw [if_pos hD]; simp [gI,ht]
   ·have ih:=B_ hD ht k (by omega) (fun j h1 h2=>hl j h1 (by omega))
    by_cases hkt:(E k).td=some t
    ·have:=hl k (by omega) (by omega) hkt
     rw [if_neg (by simp [this])]; exact ih
    ·split
     ·simpa [gI,hkt] using ih
     ·exact ih
theorem B9 {D:Nat→Bool} {o i:Nat} (hD:D i=true) (ht:o∈(E i).wr):∀ k,i<k→(∀ j,i<j→j<k→o∈(E j).wr→D j=false)→∀ obj,(j4 E g0 o0 D k).2 o=de (E i).ow obj o
 | 0,h,_,_=>by omega
 | k+1,h,hl,obj=>by
   simp only [j4]
   by_cases hk:k=i
   ·subst hk; rw [if_pos hD]; exact Ds _ _ _ _ ht
   ·have ih:=B9 hD ht k (by omega) (fun j h1 h2=>hl j h1 (by omega)) obj
    by_cases hkt:o∈(E k).wr
    ·have:=hl k (by omega) (by omega) hkt
     rw [if_neg (by simp [this])]; exact ih
    ·split
     ·exact (uj _ _ _ hkt).trans ih
     ·exact ih
def vP (x y:rJ):Prop:=
 (∃ t,x.td=some t∧(t∈y.tr∨y.td=some t))∨(∃ t,y.td=some t∧t∈x.tr)∨(∃ o,o∈x.wr∧(o∈y.rd∨o∈y.wr))∨(∃ o,o∈y.wr∧o∈x.rd)
variable {n:Nat} {R:Nat→Nat→Prop} (hR:∀ i j,i<j→j<n→vP (E i) (E j)→R i j)
include hR
theorem vZ {D:Nat→Bool} (kQ:∀ j,j<n→D j=true→∀ i,R i j→D i=true) {i:Nat} (hi:i<n) (AI:D i=false) (jX:∀ k,R k i→D k=true) {t:Nat} (ht:t∈(E i).tr∨(E i).td=some t) :
  (j4 E g0 o0 D n).1 t=(j4 E g0 o0 (fun j=>decide (j<i)) n).1 t:=by
 refine DA n (fun j hj hjt=>?_)
 rcases Nat.lt_trichotomy j i with h | h | h
 ·rw [jX j (hR j i h hi (.inl ⟨t,hjt,ht⟩))]; simp [h]
 ·subst h; simp [AI]
 ·have:D j=false:=by
   cases Vz:D j with
   | false=>rfl
   | true=>
     have hc:vP (E i) (E j):=by
      rcases ht with ht | ht
      ·exact .inr (.inl ⟨t,hjt,ht⟩)
      ·exact .inl ⟨t,ht,.inr hjt⟩
     have:=kQ j hj Vz i (hR i j h hj hc)
     rw [AI] at this; cases this
  rw [this]; simp; omega
theorem B8 {D:Nat→Bool} (kQ:∀ j,j<n→D j=true→∀ i,R i j→D i=true) {i:Nat} (hi:i<n) (AI:D i=false) (jX:∀ k,R k i→D k=true) {o:Nat} (ho:o∈(E i).rd∨o∈(E i).wr) :
  (j4 E g0 o0 D n).2 o=(j4 E g0 o0 (fun j=>decide (j<i)) n).2 o:=by
 refine yE n (fun j hj hjo=>?_)
 rcases Nat.lt_trichotomy j i with h | h | h
 ·rw [jX j (hR j i h hi (.inr (.inr (.inl ⟨o,hjo,ho⟩))))]; simp [h]
 ·subst h; simp [AI]
 ·have:D j=false:=by
   cases Vz:D j with
   | false=>rfl
   | true=>
     have hc:vP (E i) (E j):=by
      rcases ho with ho | ho
      ·exact .inr (.inr (.inr ⟨o,hjo,ho⟩))
      ·exact .inr (.inr (.inl ⟨o,ho,.inr hjo⟩))
     have:=kQ j hj Vz i (hR i j h hj hc)
     rw [AI] at this; cases this
  rw [this]; simp; omega
theorem J6 {D:Nat→Bool} (kQ:∀ j,j<n→D j=true→∀ i,R i j→D i=true) {i:Nat} (hi:i<n) (AI:D i=false) :
  j4 E g0 o0 (fun j=>D j||j==i) n=(gI (E i).td (E i).r (j4 E g0 o0 D n).1,de (E i).ow (j4 E g0 o0 D n).2):=by
 have Qs:∀ j,i<j→j<n→vP (E i) (E j)→D j=false:=fun j h hj hc=>by
  cases Vz:D j with
  | false=>rfl
  | true=>
    have:=kQ j hj Vz i (hR i j h hj hc)
    rw [AI] at this; cases this
 refine Prod.ext (funext fun t=>?_) (funext fun o=>?_)
 ·simp only [gI]
  by_cases ht:(E i).td=some t
  ·rw [if_pos ht]
   refine B_ (D:=fun j=>D j||j==i) (by simp) ht n hi (fun j h1 h2 hj=>?_)
   have:=Qs j h1 h2 (.inl ⟨t,ht,.inr hj⟩)
   simp [this]; omega
  ·rw [if_neg ht]
   refine DA n (fun j hj hjt=>?_)
   have:j≠i:=fun e=>ht (e ▸ hjt)
   simp [this]
 ·show (j4 E g0 o0 (fun j=>D j||j==i) n).2 o=de (E i).ow (j4 E g0 o0 D n).2 o
  by_cases ho:o∈(E i).wr
  ·refine B9 (D:=fun j=>D j||j==i) (by simp) ho n hi (fun j h1 h2 hj=>?_) _
   have:=Qs j h1 h2 (.inr (.inr (.inl ⟨o,ho,.inr hj⟩)))
   simp [this]; omega
  ·rw [uj _ _ _ ho]
   refine yE n (fun j hj hjo=>?_)
   have:j≠i:=fun e=>ho (e ▸ hjo)
   simp [this]
end
theorem count_set:∀ {l:List Bool} {i:Nat},l[i]? = some false→(l.set i true).count false+1=l.count false:=by
 intro l
 induction l with
 | nil=>intro i h; simp at h
 | cons x l ihl=>
   intro i h
   cases i with
   | zero=>simp at h; subst h; simp
   | succ i=>
     have:=ihl (i:=i) (by simpa using h)
     simp only [List.set_cons_succ,List.count_cons]
     omega
theorem Hu {ro:Option Nat} {nn:Nat} {P:Program} {ops:Array Oper} {Q:Exit→Act→World→Prop} {E:Nat→rJ} {g0:Nat→LV} {o0:Nat→cG} {R:Nat→Nat→Prop} (Inv:(Nat→LV)→(Nat→cG)→Act→World→Prop) (lo hi:Nat) (hhi:hi≤ops.size)
  (ML:∀ i j,i<hi→hi≤j→j<ops.size→R i j)
  (hR:∀ i j,i<j→j<ops.size→vP (E i) (E j)→R i j)
  (hpre:∀ j o,ops[j]? = some o→∀ i,R i j→∃ e∈o.after,Region.binds .any e=true∧(e.on=i∨R i e.on))
  (hback:∀ j o,ops[j]? = some o→∀ e∈o.after,Region.binds .any e=true→e.on<j)
  (adL:∀ i j,R i j→i<ops.size)
  (hstep:∀ i g obj,lo≤i→i<hi→(∀ t,t∈(E i).tr∨(E i).td=some t→g t=(j4 E g0 o0 (fun j=>decide (j<i)) ops.size).1 t)→(∀ o,o∈(E i).rd∨o∈(E i).wr→obj o=(j4 E g0 o0 (fun j=>decide (j<i)) ops.size).2 o)→
   ∀ a w K,Inv g obj a w→(∀ a' w',Inv (gI (E i).td (E i).r g) (de (E i).ow obj) a' w'→K a' w')→wpOpIn (fz ro) nn P ops Q i K a w)
  (hQ:∀ listed a w,listed.size=ops.size→(∀ j,listed.getD j false=decide (j<hi))→Inv (j4 E g0 o0 (fun j=>decide (j<hi)) ops.size).1 (j4 E g0 o0 (fun j=>decide (j<hi)) ops.size).2 a w→wpAnyIn (fz ro) nn P .any ops Q (listed.toList.count false) listed a w) :
  ∀ (fuel:Nat) (listed:Array Bool) (a:Act) (w:World),listed.size=ops.size→listed.toList.count false=fuel→(∀ j,listed.getD j false=true→j<hi)→(∀ j,j<lo→listed.getD j false=true)→
    (∀ j o,ops[j]? = some o→listed.getD j false=true→∀ e∈o.after,Region.binds .any e=true→listed.getD e.on false=true)→
    Inv (j4 E g0 o0 (fun j=>listed.getD j false) ops.size).1 (j4 E g0 o0 (fun j=>listed.getD j false) ops.size).2 a w→
    wpAnyIn (fz ro) nn P .any ops Q fuel listed a w:=by
 intro fuel
 induction fuel with
 | zero=>
   intro listed a w hls hc hlh hlo hcl hI
   have hall:∀ j,j<ops.size→listed.getD j false=true:=by
    intro j hj
    have hjj:j<listed.size:=by omega
    have h1:=List.count_eq_zero.1 hc
    cases hx:listed[j] with
    | true=>simp [hjj,hx]
    | false=>exact absurd (by rw [← hx]; simp) h1
   have hD:(fun j=>listed.getD j false)=fun j=>decide (j<hi):=by
    funext j
    cases hx:listed.getD j false with
    | true=>simp [hlh j hx]
    | false=>
      by_cases hj:j<ops.size
      ·rw [hall j hj] at hx; cases hx
      ·simp; omega
   rw [hD] at hI
   have:=hQ listed a w hls (fun j=>congrFun hD j) hI
   rw [hc] at this; exact this
 | succ fuel ih=>
   intro listed a w hls hc hlh hlo hcl hI
   by_cases hfull:∀ j,j<hi→listed.getD j false=true
   ·have hD:(fun j=>listed.getD j false)=fun j=>decide (j<hi):=by
     funext j
     by_cases hj:j<hi
     ·simp [hfull j hj,hj]
     ·cases hx:listed.getD j false with
      | true=>exact absurd (hlh j hx) hj
      | false=>simp [hj]
    rw [hD] at hI
    have:=hQ listed a w hls (fun j=>congrFun hD j) hI
    rw [hc] at this; exact this
   ·obtain ⟨j0,hj0⟩:=Classical.not_forall.1 hfull
    obtain ⟨hj0,Vm⟩:j0<hi∧listed.getD j0 false=false:=by
     by_cases h:j0<hi
     ·exact ⟨h,by cases hx:listed.getD j0 false with
       | true=>exact absurd (fun _=>hx) hj0
       | false=>rfl⟩
     ·exact absurd (fun h'=>absurd h' h) hj0
    -- closed below
    have kQ:∀ j,j<ops.size→listed.getD j false=true→∀ k,R k j→listed.getD k false=true:=by
     intro j
     induction j using Nat.strongRecOn with
     | _ j ihj=>
       intro hj Vz k hk
       obtain ⟨e,he,hb,AH⟩:=hpre j _ (Array.getElem?_eq_getElem hj) k hk
       have hlt:=hback j _ (Array.getElem?_eq_getElem hj) e he hb
       have hDe:=hcl j _ (Array.getElem?_eq_getElem hj) Vz e he hb
       rcases AH with rfl | AH
       ·exact hDe
       ·exact ihj e.on hlt (by omega) hDe k AH
    have hrd:∀ i o,ops[i]? = some o→(∀ e∈o.after,Region.binds .any e=true→listed.getD e.on false=true)→∀ k,R k i→listed.getD k false=true:=by
     intro i o ho hall k hk
     have hilt:=(Array.getElem?_eq_some_iff.1 ho).1
     obtain ⟨e,he,hb,AH⟩:=hpre i o ho k hk
     have hlt:=hback i o ho e he hb
     rcases AH with rfl | AH
     ·exact hall e he hb
     ·exact kQ e.on (by omega) (hall e he hb) k AH
    refine ⟨fun hr=>?_,fun i hi'=>?_⟩
    ·exfalso
     have IW:∀ j,j<ops.size→listed.getD j false=true:=by
      intro j
      induction j using Nat.strongRecOn with
      | _ j ih=>
        intro hj
        cases hl:listed.getD j false with
        | true=>rfl
        | false=>
          have hjj:j<listed.size:=by omega
          have hmem:j∈Region.ready .any ops listed:=by
           rw [mem_ready]
           refine ⟨?_,ops[j],Array.getElem?_eq_getElem hj,fun e he hb=>?_⟩
           ·simp [hjj] at hl ⊢; exact hl
           ·have hlt:=hback j _ (Array.getElem?_eq_getElem hj) e he hb
            exact ih e.on hlt (by omega)
          rw [hr] at hmem; cases hmem
     rw [IW j0 (by omega)] at Vm; cases Vm
    ·rw [mem_ready] at hi'
     obtain ⟨hun,o,ho,hall⟩:=hi'
     have hilt:=(Array.getElem?_eq_some_iff.1 ho).1
     have hil:i<listed.size:=by omega
     have AI:listed.getD i false=false:=by simp [hil] at hun ⊢; exact hun
     have jX:=hrd i o ho hall
     have acg:i<hi:=by
      rcases Nat.lt_or_ge i hi with h | h
      ·exact h
      ·rw [jX j0 (ML j0 i hj0 h hilt)] at Vm; cases Vm
     have adq:lo≤i:=Nat.le_of_not_lt fun h=>by rw [hlo i h] at AI; cases AI
     refine hstep i _ _ adq acg (fun t ht=>vZ (D:=fun j=>listed.getD j false) hR kQ hilt AI jX ht) (fun q hq=>B8 (D:=fun j=>listed.getD j false) hR kQ hilt AI jX hq) a w _ hI (fun a' w' hI'=>?_)
     have hset:∀ j,(listed.setIfInBounds i true).getD j false=(listed.getD j false||j==i):=by
      intro j
      by_cases hj:j=i
      ·subst hj; simp [hil]
      ·rw [getD_set_ne false (fun e=>hj e.symm)]
       simp [hj]
     refine ih (listed.setIfInBounds i true) a' w' (by simpa using hls) ?_ ?_ (fun j hj=>by rw [hset,hlo j hj]; rfl) ?_ ?_
     ·have mh:listed.toList[i]? = some false:=by
       simp [hil] at hun
       simp [hil,hun]
      have:=count_set mh
      rw [Array.toList_setIfInBounds]
      omega
     ·intro j hj
      rw [hset] at hj
      simp only [Bool.or_eq_true,beq_iff_eq] at hj
      rcases hj with hj | rfl
      ·exact hlh j hj
      ·exact acg
     ·intro j oj ES hj e he hb
      rw [hset] at hj ⊢
      simp only [Bool.or_eq_true,beq_iff_eq] at hj ⊢
      rcases hj with hj | rfl
      ·exact .inl (hcl j oj ES hj e he hb)
      ·rw [ho] at ES; cases ES
       exact .inl (hall e he hb)
     ·have e1:(fun j=>(listed.setIfInBounds i true).getD j false)=(fun j=>listed.getD j false||j==i):=funext hset
      rw [e1,J6 hR kQ hilt AI]
      exact hI'
theorem wpAny_done {ro:Option Nat} {nn:Nat} {P:Program} {ops:Array Oper} {Q:Exit→Act→World→Prop} {listed:Array Bool} {a:Act} {w:World} (hls:listed.size=ops.size) (hD:∀ j,listed.getD j false=decide (j<ops.size)) (hQ:Q .normal a w):wpAnyIn (fz ro) nn P .any ops Q (listed.toList.count false) listed a w:=by
 have hc:listed.toList.count false=0:=by
  refine List.count_eq_zero.2 (fun hm=>?_)
  obtain ⟨i,hi,he⟩:=List.mem_iff_getElem.1 hm
  have hi:i<listed.size:=by simpa using hi
  have:=hD i
  rw [show listed.getD i false=listed[i] by simp [hi]] at this
  have he:listed[i]=false:=by simpa using he
  rw [he] at this
  simp at this; omega
 rw [hc]
 refine ⟨?_,hQ⟩
 apply List.eq_nil_iff_forall_not_mem.2
 intro j hj
 rw [mem_ready] at hj
 obtain ⟨h1,o,ho,_⟩:=hj
 have ace:=(Array.getElem?_eq_some_iff.1 ho).1
 have h2:=hD j
 have hjj:j<listed.size:=by omega
 simp [hjj] at h1 h2
 rw [h1] at h2; simp at h2; omega
theorem Lp {ro:Option Nat} {nn:Nat} {P:Program} {ops:Array Oper} {Q:Exit→Act→World→Prop} {R:Nat→Nat→Prop} {p:Nat} (hp:p<ops.size) (ML:∀ j,p<j→j<ops.size→R p j)
  (hpre:∀ j o,ops[j]? = some o→∀ i,R i j→∃ e∈o.after,Region.binds .any e=true∧(e.on=i∨R i e.on))
  (hback:∀ j o,ops[j]? = some o→∀ e∈o.after,Region.binds .any e=true→e.on<j)
  {listed:Array Bool} {a:Act} {w:World} (hls:listed.size=ops.size) (hD:∀ j,listed.getD j false=decide (j<p))
  (h:∀ K:Act→World→Prop,(∀ a' w',(∀ uW:Array Bool,uW.size=ops.size→(∀ j,uW.getD j false=decide (j<p+1))→wpAnyIn (fz ro) nn P .any ops Q (uW.toList.count false) uW a' w')→K a' w')→wpOpIn (fz ro) nn P ops Q p K a w):wpAnyIn (fz ro) nn P .any ops Q (listed.toList.count false) listed a w:=by
 have hlt:∀ j,j<ops.size→∀ i,R i j→i<j:=by
  intro j
  induction j using Nat.strongRecOn with
  | _ j ih=>
    intro hj i hi
    obtain ⟨e,he,hb,AH⟩:=hpre j _ (Array.getElem?_eq_getElem hj) i hi
    have h1:=hback j _ (Array.getElem?_eq_getElem hj) e he hb
    rcases AH with rfl | AH
    ·exact h1
    ·have:=ih e.on h1 (by omega) i AH; omega
 have mg:p<listed.size:=by omega
 have hpf:listed[p]=false:=by have:=hD p; simpa [mg] using this
 have mh:listed.toList[p]? = some false:=by simp [mg,hpf]
 have MJ:=count_set mh
 have hset:∀ j,(listed.setIfInBounds p true).getD j false=decide (j<p+1):=by
  intro j
  by_cases hj:j=p
  ·subst hj; simp [mg]
  ·rw [getD_set_ne false (fun e=>hj e.symm),hD]
   simp; omega
 rw [← Array.toList_setIfInBounds] at MJ
 rw [← MJ]
 have abW:∀ (i:Nat) (o:Oper),ops[i]? = some o→((∀ e∈o.after,Region.binds .any e=true→listed.getD e.on false=true)↔∀ e∈o.after,Region.binds .any e=true→e.on<p):=fun i o _=>by simp only [hD,decide_eq_true_eq]
 refine ⟨fun hr=>?_,fun i hi=>?_⟩
 ·exfalso
  have:p∈Region.ready .any ops listed:=by
   rw [mem_ready]
   exact ⟨by simp [mg,hpf],ops[p],Array.getElem?_eq_getElem hp,(abW p _ (Array.getElem?_eq_getElem hp)).2 fun e he hb=>hback p _ (Array.getElem?_eq_getElem hp) e he hb⟩
  rw [hr] at this; cases this
 ·rw [mem_ready] at hi
  obtain ⟨hun,o,ho,hall⟩:=hi
  have hilt:=(Array.getElem?_eq_some_iff.1 ho).1
  have hil:i<listed.size:=by omega
  have AI:listed.getD i false=false:=by simp [hil] at hun ⊢; exact hun
  rw [hD] at AI
  have hip:i=p:=by
   rcases Nat.lt_trichotomy i p with h1 | h1 | h1
   ·simp [h1] at AI
   ·exact h1
   ·obtain ⟨e,he,hb,AH⟩:=hpre i o ho p (ML i h1 hilt)
    have h2:=(abW i o ho).1 hall e he hb
    rcases AH with h3 | h3
    ·omega
    ·have:=hlt e.on (by omega) p h3; omega
  subst hip
  exact h _ fun a' w' hk=>hk _ (by simpa using hls) hset
theorem Lo {ro:Option Nat} {nn:Nat} {P:Program} {ops:Array Oper} {Q:Exit→Act→World→Prop} {E:Nat→rJ} {g0:Nat→LV} {o0:Nat→cG} {R:Nat→Nat→Prop} (Inv:(Nat→LV)→(Nat→cG)→Act→World→Prop) (lo p:Nat) (hp:p<ops.size)
  (hR:∀ i j,i<j→j<ops.size→vP (E i) (E j)→R i j)
  (hpre:∀ j o,ops[j]? = some o→∀ i,R i j→∃ e∈o.after,Region.binds .any e=true∧(e.on=i∨R i e.on))
  (hback:∀ j o,ops[j]? = some o→∀ e∈o.after,Region.binds .any e=true→e.on<j)
  (adL:∀ i j,R i j→i<ops.size)
  (hstep:∀ i g obj,lo≤i→i<ops.size→i≠p→¬ R p i→(∀ t,t∈(E i).tr∨(E i).td=some t→g t=(j4 E g0 o0 (fun j=>decide (j<i)) ops.size).1 t)→(∀ o,o∈(E i).rd∨o∈(E i).wr→obj o=(j4 E g0 o0 (fun j=>decide (j<i)) ops.size).2 o)→
   ∀ a w K,Inv g obj a w→(∀ a' w',Inv (gI (E i).td (E i).r g) (de (E i).ow obj) a' w'→K a' w')→wpOpIn (fz ro) nn P ops Q i K a w)
  (adk:∀ j,j<ops.size→(E j).wr≠[]→R j p∧j<p)
  (Qm:∀ g obj,(∀ t,t∈(E p).tr→g t=(j4 E g0 o0 (fun j=>decide (j<p)) ops.size).1 t)→obj=(j4 E g0 o0 (fun j=>decide (j<p)) ops.size).2→∀ a w K,Inv g obj a w→wpOpIn (fz ro) nn P ops Q p K a w) :
  ∀ (fuel:Nat) (listed:Array Bool) (a:Act) (w:World),listed.size=ops.size→listed.toList.count false=fuel→
    (∀ j o,ops[j]? = some o→listed.getD j false=true→∀ e∈o.after,Region.binds .any e=true→listed.getD e.on false=true)→
    (∀ j,j<lo→listed.getD j false=true)→listed.getD p false=false→Inv (j4 E g0 o0 (fun j=>listed.getD j false) ops.size).1 (j4 E g0 o0 (fun j=>listed.getD j false) ops.size).2 a w→
    wpAnyIn (fz ro) nn P .any ops Q fuel listed a w:=by
 -- what is ready,when all is listed
 have IW:∀ listed:Array Bool,listed.size=ops.size→Region.ready .any ops listed=[]→∀ j,j<ops.size→listed.getD j false=true:=by
  intro listed hls hr j
  induction j using Nat.strongRecOn with
  | _ j ih=>
    intro hj
    cases hl:listed.getD j false with
    | true=>rfl
    | false=>
      have hjj:j<listed.size:=by omega
      have hmem:j∈Region.ready .any ops listed:=by
       rw [mem_ready]
       refine ⟨?_,ops[j],Array.getElem?_eq_getElem hj,fun e he hb=>?_⟩
       ·simp [hjj] at hl ⊢; exact hl
       ·have hlt:=hback j _ (Array.getElem?_eq_getElem hj) e he hb
        exact ih e.on hlt (by omega)
      rw [hr] at hmem; cases hmem
 intro fuel
 induction fuel with
 | zero=>
   intro listed a w hls hc hcl hlo hDp hI
   exfalso
   have h1:=List.count_eq_zero.1 hc
   have hjj:p<listed.size:=by omega
   have:listed[p]=false:=by simpa [hjj] using hDp
   exact h1 (by rw [← this]; simp)
 | succ fuel ih=>
   intro listed a w hls hc hcl hlo hDp hI
   refine ⟨fun hr=>(by have:=IW listed hls hr p hp; rw [hDp] at this; cases this),fun i hi=>?_⟩
   rw [mem_ready] at hi
   obtain ⟨hun,o,ho,hall⟩:=hi
   have hilt:=(Array.getElem?_eq_some_iff.1 ho).1
   have hil:i<listed.size:=by omega
   have AI:listed.getD i false=false:=by simp [hil] at hun ⊢; exact hun
   -- closed below
   have kQ:∀ j,j<ops.size→listed.getD j false=true→∀ k,R k j→listed.getD k false=true:=by
    intro j
    induction j using Nat.strongRecOn with
    | _ j ihj=>
      intro hj Vz k hk
      obtain ⟨e,he,hb,AH⟩:=hpre j _ (Array.getElem?_eq_getElem hj) k hk
      have hlt:=hback j _ (Array.getElem?_eq_getElem hj) e he hb
      have hDe:=hcl j _ (Array.getElem?_eq_getElem hj) Vz e he hb
      rcases AH with rfl | AH
      ·exact hDe
      ·exact ihj e.on hlt (by omega) hDe k AH
   have jX:∀ k,R k i→listed.getD k false=true:=by
    intro k hk
    obtain ⟨e,he,hb,AH⟩:=hpre i o ho k hk
    have hlt:=hback i o ho e he hb
    rcases AH with rfl | AH
    ·exact hall e he hb
    ·exact kQ e.on (by omega) (hall e he hb) k AH
   by_cases hip:i=p
   ·subst hip
    refine Qm _ _ (fun t ht=>vZ (D:=fun j=>listed.getD j false) hR kQ hilt AI jX (.inl ht)) (funext fun o=>?_) a w _ hI
    refine yE _ (fun j hj hjo=>?_)
    obtain ⟨h1,h2⟩:=adk j hj (List.ne_nil_of_mem hjo)
    rw [jX j h1]; simp [h2]
   have hRp:¬ R p i:=fun h=>by have:=jX p h; rw [hDp] at this; cases this
   refine hstep i _ _ (Nat.le_of_not_lt fun h=>by rw [hlo i h] at AI; cases AI) hilt hip hRp (fun t ht=>vZ (D:=fun j=>listed.getD j false) hR kQ hilt AI jX ht) (fun q hq=>B8 (D:=fun j=>listed.getD j false) hR kQ hilt AI jX hq) a w _ hI (fun a' w' hI'=>?_)
   have hset:∀ j,(listed.setIfInBounds i true).getD j false=(listed.getD j false||j==i):=by
    intro j
    by_cases hj:j=i
    ·subst hj; simp [hil]
    ·rw [getD_set_ne false (fun e=>hj e.symm)]
     simp [hj]
   refine ih (listed.setIfInBounds i true) a' w' (by simpa using hls) ?_ ?_ (fun j hj=>by rw [hset,hlo j hj]; rfl) (by rw [hset,hDp]; simpa using fun e=>hip e.symm) ?_
   ·have mh:listed.toList[i]? = some false:=by
     simp [hil] at hun
     simp [hil,hun]
    have:=count_set mh
    rw [Array.toList_setIfInBounds]
    omega
   ·intro j oj ES hj e he hb
    rw [hset] at hj ⊢
    simp only [Bool.or_eq_true,beq_iff_eq] at hj ⊢
    rcases hj with hj | rfl
    ·exact .inl (hcl j oj ES hj e he hb)
    ·rw [ho] at ES; cases ES
     exact .inl (hall e he hb)
   ·have e1:(fun j=>(listed.setIfInBounds i true).getD j false)=(fun j=>listed.getD j false||j==i):=funext hset
    rw [e1,J6 hR kQ hilt AI]
    exact hI'
end Dv
namespace Dv
open Go
section
variable {P:Program} {G:Nat→Option (List DV)} {get get':Nat→LV} {obj obj':Nat→cG} {base:Nat}
theorem bX.dm {x:bX} (h:∀ t∈x.tmps,get' t=get t):x.ev G get'=x.ev G get:=by
 cases x with
 | t n=>exact h n (by simp [bX.tmps])
 | _=>rfl
theorem oo:∀ {xs:List bX},(∀ t∈xs.flatMap bX.tmps,get' t=get t)→xs.map (·.ev G get')=xs.map (·.ev G get)
 | [],_=>rfl
 | x::xs,h=>by
   simp only [List.flatMap_cons,List.mem_append] at h
   simp only [List.map_cons]
   rw [bX.dm (fun t ht=>h t (.inl ht)),oo (fun t ht=>h t (.inr ht))]
theorem xW:∀ {parts:List (Nat×Nat×bX)} {cells:List LV},(∀ t∈parts.flatMap (fun p=>p.2.2.tmps),get' t=get t)→sW G get' cells parts=sW G get cells parts
 | [],_,_=>rfl
 | (off,size,x)::rest,cells,h=>by
   simp only [List.flatMap_cons,List.mem_append] at h
   simp only [sW]
   rw [bX.dm (fun t ht=>h t (.inl ht))]
   cases (x.ev G get).cells with
   | none=>rfl
   | some cs=>
     dsimp only
     split
     ·exact xW (fun t ht=>h t (.inr ht))
     ·rfl
theorem yb:∀ {xs:List bX},(∀ t∈xs.flatMap bX.tmps,get' t=get t)→vG G get' xs=vG G get xs
 | [],_=>rfl
 | x::xs,h=>by
   simp only [List.flatMap_cons,List.mem_append] at h
   simp only [vG]
   rw [bX.dm (fun t ht=>h t (.inl ht)),yb (fun t ht=>h t (.inr ht))]
theorem uz {aS:Nat} : ∀ {xs:List bX},(∀ t∈xs.flatMap bX.tmps,get' t=get t)→rowsOf G get' aS xs=rowsOf G get aS xs
 | [],_=>rfl
 | x::xs,h=>by
   simp only [List.flatMap_cons,List.mem_append] at h
   simp only [rowsOf]
   rw [bX.dm (fun t ht=>h t (.inl ht)),uz (fun t ht=>h t (.inr ht))]
theorem FG:∀ {xs:List bX},(∀ t∈xs.flatMap bX.tmps,get' t=get t)→Aa G get' xs=Aa G get xs
 | [],_=>rfl
 | [x],h=>by
   simp only [List.flatMap_cons,List.mem_append] at h
   simp only [Aa]
   rw [bX.dm (fun t ht=>h t (.inl ht))]
 | _::_::_,_=>rfl
theorem jR:∀ {o:Option bX},(∀ t∈bX.xI o,get' t=get t)→o.map (·.ev G get')=o.map (·.ev G get)
 | none,_=>rfl
 | some x,h=>by simp only [Option.map_some]; rw [bX.dm h]
theorem Ri {m:M} (h:∀ t∈m.tmps,get' t=get t):fQ G get' obj base m=fQ G get obj base m:=by
 cases m <;> simp only [M.tmps,List.mem_append] at h <;> simp only [fQ] <;> first
  | (rw [bX.dm h]; done)
  | (rw [bX.dm (fun t ht=>h t (.inl ht)),bX.dm (fun t ht=>h t (.inr ht))]; done)
  | (rw [bX.dm (fun t ht=>h t (.inl (.inl ht))),jR (fun t ht=>h t (.inl (.inr ht))),jR (fun t ht=>h t (.inr ht))]; done)
  | (rw [bX.dm (fun t ht=>h t (.inl (.inl ht))),bX.dm (fun t ht=>h t (.inl (.inr ht))),bX.dm (fun t ht=>h t (.inr ht))]; done)
theorem Rk {i:I} (h:∀ t∈i.tmps,get' t=get t):cO G get' obj base i=cO G get obj base i:=by
 cases i <;> simp only [I.tmps,List.mem_append] at h <;> simp only [cO] <;> first
  | rfl
  | exact Ri h
  | (rw [bX.dm h]; done)
  | (rw [bX.dm (fun t ht=>h t (.inl ht)),bX.dm (fun t ht=>h t (.inr ht))]; done)
  | (rw [bX.dm (fun t ht=>h t (.inl (.inl ht))),bX.dm (fun t ht=>h t (.inl (.inr ht))),bX.dm (fun t ht=>h t (.inr ht))]; done)
  | (rw [xW h]; done)
  | (rw [uz h,yb h,FG h]; done)
  | (rw [oo (fun t ht=>h t (.inl ht)),oo (fun t ht=>h t (.inr ht))]; done)
  | (rw [bX.dm (fun t ht=>h t (.inl (.inl (.inl ht)))),jR (fun t ht=>h t (.inl (.inl (.inr ht)))),jR (fun t ht=>h t (.inl (.inr ht))),jR (fun t ht=>h t (.inr ht))]; done)
  | (rw [bX.dm (fun t ht=>h t (.inl (.inl ht))),jR (fun t ht=>h t (.inl (.inr ht))),jR (fun t ht=>h t (.inr ht))]; done)
theorem kf {aS:Nat} {y:LV} {new:List (List DV)} {rd:List Nat} (h:bq obj aS y=some (new,rd)) (ho:∀ o∈rd,obj' o=obj o):bq obj' aS y=some (new,rd):=by
 cases y with
 | sl o n e lo len=>
   simp only [bq] at h ⊢
   have:rd=[o]:=by
    split at h
    ·split at h <;> cases h; rfl
    ·split at h <;> cases h; rfl
    ·split at h
     ·split at h <;> cases h; rfl
     ·cases h
    ·cases h
   subst this
   rw [ho o (by simp)]; exact h
 | d x=>
   have:bq obj' aS (.d x)=bq obj aS (.d x):=by
    cases x with
    | val v=>
      cases v with
      | slice a n c=>cases a <;> cases n <;> cases c <;> rfl
      | _=>rfl
    | _=>rfl
   rw [this]; exact h
 | _=>exact h
theorem Rh {m:M} {e:fC} (h:fQ G get obj base m=some e) (ho:∀ o∈e.rd,obj' o=obj o):fQ G get obj' base m=some e:=by
 cases m with
 | sla n x lo hi=>
   simp only [fQ] at h ⊢
   cases hx:x.ev G get with
   | ptr o col=>
     rw [hx] at h; dsimp only at h ⊢
     have:e.rd=[o]:=by
      (repeat' split at h) <;> (try (cases h; done)) <;> cases h <;> rfl
     rw [ho o (by simp [this])]; exact h
   | _=>rw [hx] at h; exact h
 | cpy x y=>
   simp only [fQ] at h ⊢
   cases hs:bq obj 1 (y.ev G get) with
   | none=>rw [hs] at h; cases h
   | some p=>
     obtain ⟨new,rd⟩:=p
     rw [hs] at h; dsimp only at h
     split at h
     ·rename_i o lo len hx
      have hh:e.rd=o::rd:=by
       split at h
       ·split at h
        ·cases h; rfl
        ·cases h
       ·cases h
      rw [kf hs (fun q hq=>ho q (by rw [hh]; exact List.mem_cons_of_mem _ hq))]
      dsimp only
      rw [ho o (by simp [hh])]; exact h
     ·rename_i o n lo len hno hx
      have hh:e.rd=o::rd:=by
       split at h
       ·split at h
        ·cases h; rfl
        ·cases h
       ·cases h
      rw [kf hs (fun q hq=>ho q (by rw [hh]; exact List.mem_cons_of_mem _ hq))]
      cases n with
      | zero=>exact absurd rfl hno
      | succ n=>
        dsimp only
        rw [ho o (by simp [hh])]; exact h
     ·cases h
 | stk=>cases h
 | cpl x=>exact h
 | clr aS z x=>
   simp only [fQ] at h ⊢
   cases hx:x.ev G get with
   | sl o n e0 lo len=>
     rw [hx] at h; dsimp only at h ⊢
     have:e.rd=[o]:=by
      (repeat' split at h) <;> (try (cases h; done)) <;> cases h <;> rfl
     rw [ho o (by simp [this])]; exact h
   | d v=>
     rw [hx] at h
     cases v with
     | dO e0 rs=>cases rs <;> exact h
     | _=>exact h
   | _=>rw [hx] at h; exact h
 | atl x=>
   simp only [fQ] at h ⊢
   cases hx:x.ev G get with
   | ptr o col=>
     rw [hx] at h; dsimp only at h ⊢
     have:e.rd=[o]:=by
      (repeat' split at h) <;> (try (cases h; done)) <;> cases h <;> rfl
     rw [ho o (by simp [this])]; exact h
   | _=>rw [hx] at h; exact h
 | ata x y=>
   simp only [fQ] at h ⊢
   split at h
   ·rename_i o c d hx hy
    have:e.rd=[o]:=by
     (repeat' split at h) <;> (try (cases h; done)) <;> cases h <;> rfl
    rw [ho o (by simp [this])]; exact h
   ·cases h
 | mkm=>exact h
 | mup x k y=>
   simp only [fQ] at h ⊢
   split at h
   ·rename_i o n hx hy
    have:e.rd=[o]:=by
     (repeat' split at h) <;> (try (cases h; done)) <;> cases h <;> rfl
    rw [ho o (by simp [this])]; exact h
   ·cases h
 | mlk z ok x k=>
   simp only [fQ] at h ⊢
   split at h
   ·rename_i o n hx hy
    have:e.rd=[o]:=by
     (repeat' split at h) <;> (try (cases h; done)) <;> cases h <;> rfl
    rw [ho o (by simp [this])]; exact h
   ·cases h
 | xN et aS bytes z n=>exact h
 | b2s x=>
   simp only [fQ] at h ⊢
   split at h
   ·cases h
   ·rename_i hns
    cases hs:bq obj 1 (x.ev G get) with
    | none=>rw [hs] at h; cases h
    | some p=>
      obtain ⟨rows,rd⟩:=p
      rw [hs] at h; dsimp only at h
      have hh:e.rd=rd:=by
       split at h
       ·cases h; rfl
       ·cases h
      rw [kf hs (fun q hq=>ho q (by rw [hh]; exact hq))]
      dsimp only
      rw [← h]
      try (split <;> first | rfl | (rename_i s hx; exact absurd hx (hns s)))
theorem Jd {x:LV} {o:Nat} {ob:aG} {d:DV} (h:ru obj x=some (o,ob,d)) (ho:obj' o=obj o):ru obj' x=some (o,ob,d):=by
 unfold ru at h ⊢
 split at h
 ·rename_i o1 n e lo len
  have e1:o1=o:=by
   split at h
   ·split at h
    ·cases h; rfl
    ·cases h
   ·cases h
  subst e1
  rw [ho]; exact h
 ·cases h
theorem Rj {i:I} {e:fC} (h:cO G get obj base i=some e) (ho:∀ o∈e.rd,obj' o=obj o):cO G get obj' base i=some e:=by
 cases i with
 | Zc et aS parts=>
   simp only [cO] at h ⊢
   cases hr:rowsOf G get aS parts with
   | some rows=>rw [hr] at h; exact h
   | none=>
     rw [hr] at h; dsimp only at h ⊢
     cases hx:Aa G get parts with
     | none=>rw [hx] at h; exact h
     | some x=>
       rw [hx] at h; dsimp only at h ⊢
       split at h
       ·rename_i h1
        rw [if_pos h1]
        split at h
        ·rename_i o ob d hf
         cases h
         rw [Jd hf (ho o (by simp))]
        ·cases h
       ·cases h
 | ld1 x=>
   simp only [cO] at h ⊢
   cases hx:x.ev G get with
   | ptr o col=>
     rw [hx] at h; dsimp only at h ⊢
     have:e.rd=[o]:=by
      (repeat' split at h) <;> (try (cases h; done)) <;> cases h <;> rfl
     rw [ho o (by simp [this])]; exact h
   | rp o n aS row col=>
     rw [hx] at h; dsimp only at h ⊢
     have:e.rd=[o]:=by
      (repeat' split at h) <;> (try (cases h; done)) <;> cases h <;> rfl
     rw [ho o (by simp [this])]; exact h
   | _=>rw [hx] at h; exact h
 | Ir size x=>
   simp only [cO] at h ⊢
   cases hx:x.ev G get with
   | ptr o col=>
     rw [hx] at h; dsimp only at h ⊢
     have:e.rd=[o]:=by
      (repeat' split at h) <;> (try (cases h; done)) <;> cases h <;> rfl
     rw [ho o (by simp [this])]; exact h
   | rp o n aS row col=>
     rw [hx] at h; dsimp only at h ⊢
     have:e.rd=[o]:=by
      (repeat' split at h) <;> (try (cases h; done)) <;> cases h <;> rfl
     rw [ho o (by simp [this])]; exact h
   | _=>rw [hx] at h; exact h
 | st size x y=>
   simp only [cO] at h ⊢
   cases hy:(y.ev G get).cells with
   | none=>rw [hy] at h; exact h
   | some cs=>
     rw [hy] at h; dsimp only at h ⊢
     split at h
     ·rename_i hl
      rw [if_pos hl]
      cases hx:x.ev G get with
      | ptr o col=>
        rw [hx] at h; dsimp only at h ⊢
        have:e.rd=[o]:=by
         (repeat' split at h) <;> (try (cases h; done)) <;> cases h <;> rfl
        rw [ho o (by simp [this])]; exact h
      | rp o n aS row col=>
        rw [hx] at h; dsimp only at h ⊢
        have:e.rd=[o]:=by
         (repeat' split at h) <;> (try (cases h; done)) <;> cases h <;> rfl
        rw [ho o (by simp [this])]; exact h
      | _=>rw [hx] at h; exact h
     ·cases h
 | NP aS x j=>
   simp only [cO] at h ⊢
   split at h
   ·rename_i k jj hj
    split at h
    ·rename_i h0
     rw [if_pos h0]
     cases hx:x.ev G get with
     | sl o n e' lo len=>
       rw [hx] at h; dsimp only at h ⊢
       have:e.rd=[o]:=by
        (repeat' split at h) <;> (try (cases h; done)) <;> cases h <;> rfl
       rw [ho o (by simp [this])]; exact h
     | d z=>rw [hx] at h; cases z <;> exact h
     | _=>rw [hx] at h; exact h
    ·cases h
   ·cases h
 | app et aS bytes x y=>
   simp only [cO] at h ⊢
   cases hs:bq obj aS (y.ev G get) with
   | none=>rw [hs] at h; cases h
   | some p=>
     obtain ⟨new,rd⟩:=p
     rw [hs] at h; dsimp only at h
     cases hx:x.ev G get with
     | sl o n e' lo len=>
       rw [hx] at h; dsimp only at h
       have hh:e.rd=o::rd:=by
        split at h
        ·split at h
         ·cases h; rfl
         ·cases h
        ·cases h
       rw [kf hs (fun q hq=>ho q (by rw [hh]; exact List.mem_cons_of_mem _ hq))]
       dsimp only
       rw [ho o (by simp [hh])]; exact h
     | d z=>
       have hrd:e.rd=rd:=by
        rw [hx] at h
        (repeat' split at h) <;> (try contradiction) <;> (try (cases h; done)) <;> cases h <;> rfl
       have hsr:bq obj' aS (y.ev G get)=some (new,rd):=kf hs (by rw [← hrd]; exact ho)
       rw [hsr]; dsimp only
       rw [← h,hx]
       cases z with
       | val v=>
         cases v with
         | slice a n c=>cases a <;> cases n <;> cases c <;> rfl
         | _=>rfl
       | _=>rfl
     | _=>rw [hx] at h; cases h
 | more m=>exact Rh h ho
 | _=>exact h
mutual
theorem GW {ρ Z:List Nat} (hZ:∀ z∈Z,obj' z=obj z):∀ (x y:LV),ah obj ρ Z x y→ah obj' ρ Z x y:=by
 intro x y h
 cases x with
 | sl o n e l k=>
   cases y with
   | d y=>
     cases y with
     | dO e' rs=>
       simp only [ah] at h ⊢
       refine ⟨h.1,?_⟩
       have h2:=h.2
       have hoZ:o∈Z:=by
        unfold bK at h2
        split at h2
        ·exact h2.1
        ·exact h2.1
        ·exact h2.elim
       unfold bK at h2 ⊢
       rw [hZ o hoZ]; exact h2
     | _=>simp [ah] at h
   | top=>simp [ah]
   | sl _ _ _ _ _=>simp only [ah] at h ⊢; exact h
   | _=>simp [ah] at h
 | agg xs=>
   cases y with
   | agg ys=>simp only [ah] at h ⊢; exact jZ hZ xs ys h
   | top=>simp [ah]
   | _=>simp [ah] at h
 | dM xs=>
   cases y with
   | dM ys=>simp only [ah] at h ⊢; exact jZ hZ xs ys h
   | top=>simp [ah]
   | _=>simp [ah] at h
 | fn f a b=>
   cases y with
   | fn f' a' b'=>simp only [ah] at h ⊢; exact ⟨h.1,jZ hZ a a' h.2.1,jZ hZ b b' h.2.2⟩
   | top=>simp [ah]
   | _=>simp [ah] at h
 | gd t x=>
   cases y with
   | gd t' y=>simp only [ah] at h ⊢; exact ⟨h.1,GW hZ x y h.2⟩
   | top=>simp [ah]
   | _=>simp [ah] at h
 | d x=>
   cases y with
   | d y=>simp only [ah] at h ⊢; exact h
   | top=>simp [ah]
   | fn f' a' b'=>cases x <;> first | (simp only [ah] at h ⊢; exact h) | (simp [ah] at h)
   | _=>cases x <;> simp [ah] at h
 | yl o=>cases y <;> first | (simp only [ah] at h ⊢; exact h) | (simp [ah] at h ⊢)
 | mr o=>cases y <;> first | (simp only [ah] at h ⊢; exact h) | (simp [ah] at h ⊢)
 | ptr o c=>cases y <;> first | (simp only [ah] at h ⊢; exact h) | (simp [ah] at h ⊢)
 | rp o n e r c=>cases y <;> first | (simp only [ah] at h ⊢; exact h) | (simp [ah] at h ⊢)
 | ip r c=>cases y <;> first | (simp only [ah] at h ⊢; exact h) | (simp [ah] at h ⊢)
 | top=>cases y <;> first | (simp only [ah] at h ⊢; exact h) | (simp [ah] at h ⊢)
 | dV=>cases y <;> first | (simp only [ah] at h ⊢; done) | (simp only [ah] at h ⊢; exact h) | (simp [ah] at h ⊢)
theorem jZ {ρ Z:List Nat} (hZ:∀ z∈Z,obj' z=obj z):∀ (xs ys:List LV),ag obj ρ Z xs ys→ag obj' ρ Z xs ys
 | [],[],_=>by simp [ag]
 | x::xs,y::ys,h=>by
   simp only [ag] at h ⊢
   exact ⟨GW hZ x y h.1,jZ hZ xs ys h.2⟩
 | [],_::_,h=>by simp [ag] at h
 | _::_,[],h=>by simp [ag] at h
end
theorem tJ:∀ {Z:List Nat},(∀ z∈Z,obj' z=obj z)→gJ obj' Z=gJ obj Z
 | [],_=>rfl
 | z::Z,h=>by
   simp only [gJ]
   rw [h z (by simp),tJ (fun y hy=>h y (by simp [hy]))]
theorem lB.local {i:I} {e:fC} (h:lB P G get obj base i e) (hg:∀ t∈i.tmps,get' t=get t) (ho:∀ o∈e.rd,obj' o=obj o):lB P G get' obj' base i e:=by
 by_cases hi:∃ f args,i=.call f args
 ·obtain ⟨f,args,rfl⟩:=hi
  simp only [I.tmps,List.mem_append] at hg
  simp only [lB] at h ⊢
  rw [bX.dm (fun t ht=>hg t (.inl ht)),oo (fun t ht=>hg t (.inr ht))]
  split at h
  ·rename_i k fs cs hc
   obtain ⟨ρ,Z,tmp,a_,aI,r,ax,keep,hkeep,hn,hz,yw,hl,e_,hid,vf,Gb,hle,Eo,rfl⟩:=h.ex
   simp only [List.mem_append] at ho
   have hZ:∀ z∈Z,obj' z=obj z:=fun z hz=>ho z (.inr hz)
   refine ⟨⟨ρ,Z,tmp,a_,aI,r,ax,keep,hkeep,hn,hz,fun z hz=>by rw [hZ z hz]; exact yw z hz,hl,fun i o oC=>?_,hid,jZ hZ _ _ vf,Gb,hle,Eo,by rw [tJ hZ]⟩⟩
   obtain ⟨ob,k1,k2⟩:=e_ i o oC
   exact ⟨ob,k1,by rw [ho o (.inl (List.mem_of_getElem? oC))]; exact k2⟩
  ·exact h.elim
 ·have e1:∀ get obj,lB P G get obj base i e=(cO G get obj base i=some e):=fun get obj=>by
   cases i <;> first | rfl | (exfalso; exact hi ⟨_,_,rfl⟩)
  rw [e1] at h ⊢
  rw [Rk hg]
  exact Rj h ho
theorem fD.local {f:Nat} {args args':List LV} {p:Value} {e:fC} (h:fD P G f args obj base p e) (ha:args'=args) (ho:∀ o∈e.rd,obj' o=obj o):fD P G f args' obj' base p e:=by
 subst ha
 obtain ⟨ρ,Z,a_,aI,ax,hn,hz,yw,hl,e_,hid,vf,hle,Eo,rfl⟩:=h.ex
 simp only [List.mem_append] at ho
 have hZ:∀ z∈Z,obj' z=obj z:=fun z hz=>ho z (.inr hz)
 refine ⟨⟨ρ,Z,a_,aI,ax,hn,hz,fun z hz=>by rw [hZ z hz]; exact yw z hz,hl,fun i o oC=>?_,hid,jZ hZ _ _ vf,hle,Eo,by rw [tJ hZ]⟩⟩
 obtain ⟨ob,k1,k2⟩:=e_ i o oC
 exact ⟨ob,k1,by rw [ho o (.inl (List.mem_of_getElem? oC))]; exact k2⟩
end
end Dv
namespace Dv
open Go
structure iV where
 pre:List Nat
 rd:List Nat
 wr:List Nat
def en.tr (o:en):List Nat:=o.op.tmps++(match o.guard with | some (g,_)=>[g] | none=>[])
def FI:Nat→List aG→List (Nat×aG)
 | _,[]=>[]
 | k,ob::r=>(k,ob)::FI (k+1) r
theorem uN:∀ (l:List aG) (k:Nat) (obj:Nat→cG),qU k l obj=de (FI k l) obj
 | [],_,_=>rfl
 | ob::r,k,obj=>by simp only [qU,FI,de,uN r]
theorem Kh:∀ (l:List aG) (k j:Nat),j<l.length→k+j∈(FI k l).map (·.1)
 | [],_,_,h=>by simp at h
 | ob::r,k,0,_=>by simp [FI]
 | ob::r,k,j+1,h=>by
   have:=Kh r (k+1) j (by simpa using h)
   simp only [FI,List.map_cons,List.mem_cons]
   right
   rw [show k+(j+1)=k+1+j by omega]; exact this
def fC.owned (base:Nat) (e:fC):List (Nat×aG):=FI base e.nw++e.wr
section
variable (P:Program) (G:Nat→Option (List DV))
abbrev YO:=List LV→List (Option aG)→LV→(LV→Bool→List (Option aG)→Prop)→Prop
def rV:YO:=fun _ _ _ _=>False
def vcY (Y:YO) (fv:LV) (as:List LV) (dst:Option Nat) (s:St) (K:St→Prop):Prop:=match fv with
 | .yl oy=>Y (.yl oy::as) s.af (s.get YS) (fun ys b aA=>K ⟨ei dst (.bool b) ((YS,ys)::s.env),aA⟩)
 | _=>False
def y9 (Y:YO) (X:Value→fC→St→Prop) (o:en) (s:St) (K:St→fC→Prop):Prop:=
 match o.op with
 | .call f args=>match callee (f.ev G s.get) with
   | some (k,fs,cs)=>(∃ e,cD P G k (fs++args.map (·.ev G s.get)++cs) s.obj s.af.length e∧K (s.app o.dst e) e)∨
     (∃ p e,fD P G k (fs++args.map (·.ev G s.get)++cs) s.obj s.af.length p e∧X p e (s.app none e))
   | none=>vcY Y (f.ev G s.get) (args.map (·.ev G s.get)) o.dst s (fun s'=>K s' { r:=.top })
 | i=>match cO G s.get s.obj s.af.length i with
   | some e=>K (s.app o.dst e) e
   | none=>False
def y8 (Y:YO) (X:Value→fC→St→Prop) (o:en) (s:St) (K:St→fC→Prop) (K0:St→Prop):Prop:=
 match o.guard with
 | none=>y9 P G Y X o s K
 | some (g,want)=>match s.get g with
   | .d (.val (.bool b))=>if b=want then y9 P G Y X o s K else K0 (s.put o.dst .undef)
   | .d (.val (.tuple _))=>K0 (s.put o.dst .undef)
   | _=>False
def gK (Y:YO) (X:Value→St→Prop):List en→St→(St→Prop)→Prop
 | [],s,K=>K s
 | o::os,s,K=>y8 P G Y (fun p _ s'=>X p s') o s (fun s' _=>gK Y X os s' K) (fun s'=>gK Y X os s' K)
def Bd (x y:iV):Bool:=x.wr.any (fun o=>y.rd.contains o||y.wr.contains o)||y.wr.any (fun o=>x.rd.contains o)
def indep (log:List iV):Bool:=
 (log.all fun e=>e.wr.isEmpty)||(List.range log.length).all fun j=>match log[j]? with
  | none=>true
  | some y=>(List.range j).all fun i=>match log[i]? with
    | none=>true
    | some x=>y.pre.contains i||!Bd x y
def FD (log:List iV) (p:Nat) (pre:List Nat):Bool:=
 (pre.all fun i=>decide (i<p))&&(List.range log.length).all fun i=>pre.contains i||(match log[i]? with | some x=>x.wr.isEmpty | none=>true)
def qc (p:Nat) (pre:List Nat):List en→St→List iV→Prop
 | [],_,log=>indep log=true∧FD log p pre=true
 | o::os,s,log=>if o.pre.contains p=true then qc p pre os (s.put o.dst .top) (log++[⟨o.pre,[],[]⟩])
   else y8 P G rV (fun _ _ _=>False) o s (fun s' e=>qc p pre os s' (log++[⟨o.pre,e.rd,(e.owned s.af.length).map (·.1)⟩])) (fun s'=>qc p pre os s' (log++[⟨o.pre,[],[]⟩]))
def eX (X:Value→St→Prop):List en→St→List iV→(St→List iV→Prop)→Prop
 | [],s,log,K=>K s log
 | o::os,s,log,K=>y8 P G rV (fun p e s'=>X p ⟨[],s'.af⟩∧qc P G log.length o.pre os (s.put o.dst .top) (log++[⟨o.pre,e.rd,[]⟩])) o s
    (fun s' e=>eX X os s' (log++[⟨o.pre,e.rd,(e.owned s.af.length).map (·.1)⟩]) K) (fun s'=>eX X os s' (log++[⟨o.pre,[],[]⟩]) K)
end
theorem AA {log:List iV} (h:indep log=true) {i j:Nat} {x y:iV} (hi:log[i]? = some x) (hj:log[j]? = some y) (hij:i<j) (hc:Bd x y=true):i∈y.pre:=by
 unfold indep at h
 rw [Bool.or_eq_true] at h
 rcases h with h | h
 ·rw [List.all_eq_true] at h
  have h1:=h x (List.mem_of_getElem? hi)
  have h2:=h y (List.mem_of_getElem? hj)
  simp only [List.isEmpty_iff] at h1 h2
  simp [Bd,h1,h2] at hc
 ·rw [List.all_eq_true] at h
  have hjl:=(List.getElem?_eq_some_iff.1 hj).1
  have h1:=h j (by simpa using hjl)
  rw [hj] at h1
  dsimp only at h1
  rw [List.all_eq_true] at h1
  have h2:=h1 i (by simpa using hij)
  rw [hi] at h2
  simp only [hc,Bool.not_true,Bool.or_false,List.contains_iff_mem] at h2
  exact h2
def GB (N:Nat):Option Nat→Bool
 | none=>true
 | some d=>decide (d<N)
def vD (N:Nat) (ops:Array Oper):Option (Nat×Bool)→Option (Option (Nat×Bool))
 | none=>some none
 | some (j,want)=>match ops[j]? with
   | some oj=>match oj.dst with
     | some t=>if t<N then some (some (t,want)) else none
     | none=>none
   | none=>none
def gD (P:Program) (N:Nat) (ops:Array Oper) (o:Oper) (pre:List Nat):Option en:=
 if GB N o.dst then (match nq P o.op,vD N ops o.guard with
  | some i,some g=>some ⟨o.dst,i,g,pre⟩
  | _,_=>none) else none
def sq (P:Program) (N:Nat) (ops:Array Oper):List Oper→List (List Nat)→Option (List en)
 | [],_=>some []
 | o::os,ps=>match gD P N ops o (ps.headD []),sq P N ops os ps.tail with
   | some x,some xs=>some (x::xs)
   | _,_=>none
theorem nk {P:Program} {N:Nat} {ops:Array Oper} : ∀ {os:List Oper} {ps:List (List Nat)} {fP:List en},sq P N ops os ps=some fP→fP.length=os.length∧∀ (i:Nat) (o:Oper),os[i]? = some o→∃ io,fP[i]? = some io∧gD P N ops o io.pre=some io
 | [],ps,fP,h=>by simp only [sq] at h; cases h; exact ⟨rfl,fun i o h=>by simp at h⟩
 | o::os,ps,fP,h=>by
   simp only [sq] at h
   split at h
   ·rename_i x xs h1 h2
    cases h
    obtain ⟨k1,k2⟩:=nk h2
    refine ⟨by simp [k1],fun i o' hi=>?_⟩
    cases i with
    | zero=>
      simp at hi; subst hi
      refine ⟨x,by simp,?_⟩
      have:x.pre=ps.headD []:=by
       unfold gD at h1
       split at h1
       ·split at h1
        ·cases h1; rfl
        ·cases h1
       ·cases h1
      rw [this]; exact h1
    | succ i=>simpa using k2 i o' (by simpa using hi)
   ·cases h
def direct (o:Oper):List Nat:=(o.after.toList.filter (Region.binds .any ·)).map (·.on)
def aaS (xs ys:List Nat):List Nat:=xs.foldl (fun acc x=>if acc.contains x then acc else acc++[x]) ys
def ZA (ops:List Oper):List (List Nat):=
 ops.foldl (fun acc o=>acc++[(direct o).foldl (fun s k=>aaS (k::acc.getD k []) s) []]) []
def Jy (x y:en):Bool:=match x.dst with
 | some t=>y.tr.contains t||y.dst==some t
 | none=>false
def EH (x y:en):Bool:=match y.dst with
 | some t=>x.tr.contains t
 | none=>false
def O7 (ops:List Oper) (fP:List en):Bool:=
 (List.range ops.length).all fun j=>match ops[j]?,fP[j]? with
  | some o,some io=>((direct o).all fun k=>decide (k<j))&&
    (io.pre.all fun i=>decide (i<ops.length)&&(direct o).any fun k=>k==i||(match fP[k]? with | some z=>z.pre.contains i | none=>false))&&
    ((List.range j).all fun i=>match fP[i]? with | some x=>io.pre.contains i||!(Jy x io||EH x io) | none=>false)
  | _,_=>false
def ni (P:Program) (N:Nat) (ops:Array Oper) (draw:Bool):Option (List en):=
 if draw then (match sq P N ops ops.toList (ZA ops.toList) with
  | some fP=>if P.follows .mixedOrders&&O7 ops.toList fP then some fP else none
  | none=>none)
 else sq P N ops ops.toList []
def eO (o:en) (s:St):Option Bool:=match o.guard with
 | none=>some true
 | some (g,want)=>match s.get g with
   | .d (.val (.bool b))=>some (b==want)
   | .d (.val (.tuple _))=>some false
   | _=>none
def sX (o:en) (base:Nat) (e:fC):rJ:={ tr:=o.tr,td:=o.dst,r:=e.r,rd:=e.rd,ow:=e.owned base }
def vr (o:en):rJ:={ tr:=o.tr,td:=o.dst,r:=.undef,rd:=[],ow:=[] }
def s6 (P:Program) (G:Nat→Option (List DV)) (o:en) (s:St) (ev:rJ) (s':St):Prop:=
 (eO o s=some true∧∃ e,lB P G s.get s.obj s.af.length o.op e∧ev=sX o s.af.length e∧s'=s.app o.dst e)∨
 (eO o s=some false∧ev=vr o∧s'=s.put o.dst .undef)
section
variable {P:Program} {G:Nat→Option (List DV)}
def G7 (P:Program) (G:Nat→Option (List DV)) (o:en) (s:St) (p:Value) (e:fC):Prop:=
 eO o s=some true∧∃ f args k fs cs,o.op=.call f args∧callee (f.ev G s.get)=some (k,fs,cs)∧fD P G k (fs++args.map (·.ev G s.get)++cs) s.obj s.af.length p e
def YAt (G:Nat→Option (List DV)) (Y:YO) (o:en) (s:St) (K:St→Prop):Prop:=
 eO o s=some true∧∃ f args oy,o.op=.call f args∧f.ev G s.get=.yl oy∧Y (.yl oy::args.map (·.ev G s.get)) s.af (s.get YS) (fun ys b aA=>K ⟨ei o.dst (.bool b) ((YS,ys)::s.env),aA⟩)
theorem RS {Y:YO} {X:Value→fC→St→Prop} {o:en} {s:St} {K:St→fC→Prop} (h:y9 P G Y X o s K):(∃ e,lB P G s.get s.obj s.af.length o.op e∧K (s.app o.dst e) e)∨
  (∃ p e,(∃ f args k fs cs,o.op=.call f args∧callee (f.ev G s.get)=some (k,fs,cs)∧fD P G k (fs++args.map (·.ev G s.get)++cs) s.obj s.af.length p e)∧X p e (s.app none e))∨
  (∃ f args oy,o.op=.call f args∧f.ev G s.get=.yl oy∧Y (.yl oy::args.map (·.ev G s.get)) s.af (s.get YS) (fun ys b aA=>K ⟨ei o.dst (.bool b) ((YS,ys)::s.env),aA⟩ { r:=.top })):=by
 unfold y9 at h
 split at h
 ·rename_i f args hop
  split at h
  ·rename_i k fs cs hc
   rcases h with ⟨e,h1,h2⟩ | ⟨p,e,h1,h2⟩
   ·refine .inl ⟨e,?_,h2⟩
    rw [hop]
    simp only [lB,hc]; exact h1
   ·exact .inr (.inl ⟨p,e,⟨f,args,k,fs,cs,hop,hc,h1⟩,h2⟩)
  ·unfold vcY at h
   split at h
   ·rename_i oy eo
    exact .inr (.inr ⟨f,args,oy,hop,eo,h⟩)
   ·exact h.elim
 ·rename_i i hni
  split at h
  ·rename_i e he
   refine .inl ⟨e,?_,h⟩
   revert hni he
   cases o.op <;> intro hni he <;> first | exact he | (exfalso; exact hni _ _ rfl)
  ·exact h.elim
theorem BZ {Y:YO} {X:Value→fC→St→Prop} {o:en} {s:St} {K:St→fC→Prop} {K0:St→Prop} (h:y8 P G Y X o s K K0) :
  (eO o s=some true∧∃ e,lB P G s.get s.obj s.af.length o.op e∧K (s.app o.dst e) e)∨(eO o s=some false∧K0 (s.put o.dst .undef))∨(∃ p e,G7 P G o s p e∧X p e (s.app none e))∨YAt G Y o s (fun s'=>K s' { r:=.top }):=by
 have key:∀ {s:St},eO o s=some true→y9 P G Y X o s K→(eO o s=some true∧∃ e,lB P G s.get s.obj s.af.length o.op e∧K (s.app o.dst e) e)∨(eO o s=some false∧K0 (s.put o.dst .undef))∨(∃ p e,G7 P G o s p e∧X p e (s.app none e))∨YAt G Y o s (fun s'=>K s' { r:=.top }):=fun hw h=>by
  rcases RS h with h | ⟨p,e,h1,h2⟩ | h
  ·exact .inl ⟨hw,h⟩
  ·exact .inr (.inr (.inl ⟨p,e,⟨hw,h1⟩,h2⟩))
  ·exact .inr (.inr (.inr ⟨hw,h⟩))
 unfold y8 at h
 split at h
 ·rename_i hg
  exact key (by unfold eO; rw [hg]) h
 ·rename_i g want hg
  split at h
  ·rename_i b hb
   by_cases hbw:b=want
   ·rw [if_pos hbw] at h
    exact key (by unfold eO; rw [hg]; simp [hb,hbw]) h
   ·rw [if_neg hbw] at h
    exact .inr (.inl ⟨by unfold eO; rw [hg]; simp [hb,hbw],h⟩)
  ·rename_i v hb
   exact .inr (.inl ⟨by unfold eO; rw [hg]; simp [hb],h⟩)
  ·exact h.elim
theorem EY {X:Value→fC→St→Prop} {o:en} {s:St} {K:St→fC→Prop} {K0:St→Prop} (h:y8 P G rV X o s K K0) :
  (eO o s=some true∧∃ e,lB P G s.get s.obj s.af.length o.op e∧K (s.app o.dst e) e)∨(eO o s=some false∧K0 (s.put o.dst .undef))∨(∃ p e,G7 P G o s p e∧X p e (s.app none e)):=by
 rcases BZ h with h | h | h | ⟨_,f,args,oy,_,_,h⟩
 ·exact .inl h
 ·exact .inr (.inl h)
 ·exact .inr (.inr h)
 ·exact h.elim
theorem St.VD (s:St) (dst:Option Nat) (e:fC):(s.app dst e).get=gI dst e.r s.get:=AO dst e.r s.env
theorem St.Er (s:St) (dst:Option Nat) (r:LV):(s.put dst r).get=gI dst r s.get:=AO dst r s.env
theorem St.SC {s:St} {o:en} {e:fC} (h:lB P G s.get s.obj s.af.length o.op e):(s.app o.dst e).obj=de (e.owned s.af.length) s.obj:=by
 have hl:∀ p∈e.wr,p.1<s.af.length:=fun p hp=>by
  obtain ⟨ob,e_⟩:=h.uh p hp
  exact yQ e_
 funext q
 show aC (fU e.wr s.af++e.nw.map some) q=_
 rw [Lb s.af e hl]
 simp only [bO,fC.owned,iW,uN]
 rfl
theorem s6.next {o:en} {s s':St} {ev:rJ} (h:s6 P G o s ev s'):s'.get=gI ev.td ev.r s.get∧s'.obj=de ev.ow s.obj:=by
 rcases h with ⟨_,e,he,rfl,rfl⟩ | ⟨_,rfl,rfl⟩
 ·exact ⟨St.VD ..,St.SC he⟩
 ·exact ⟨St.Er ..,rfl⟩
def KT (o:en):rJ:={ tr:=o.tr,td:=o.dst,r:=.top,rd:=[],ow:=[] }
def Jk (o:en) (e:fC):rJ:={ tr:=o.tr,td:=o.dst,r:=.top,rd:=e.rd,ow:=[] }
def G6 (P:Program) (G:Nat→Option (List DV)) (p:Nat) (o:en) (s:St) (ev:rJ) (s':St):Prop:=
 (p∈o.pre∧ev=KT o∧s'=s.put o.dst .top)∨(p∉o.pre∧s6 P G o s ev s')
theorem G6.next {p:Nat} {o:en} {s s':St} {ev:rJ} (h:G6 P G p o s ev s'):s'.get=gI ev.td ev.r s.get∧s'.obj=de ev.ow s.obj:=by
 rcases h with ⟨_,rfl,rfl⟩ | ⟨_,h⟩
 ·exact ⟨St.Er ..,rfl⟩
 ·exact h.next
def acY (P:Program) (G:Nat→Option (List DV)) (p:Nat) (pre:List Nat) (os:List en) (s:St) (log:List iV):Prop:=
 ∃ (ss:Nat→St) (es:Nat→rJ) (h_:List iV),ss 0=s∧(∀ (i:Nat) (o:en),os[i]? = some o→G6 P G p o (ss i) (es i) (ss (i+1)))∧(indep h_=true∧FD h_ p pre=true)∧
   h_.length=log.length+os.length∧(∀ (i:Nat) (o:en),os[i]? = some o→h_[log.length+i]? = some ⟨o.pre,(es i).rd,(es i).wr⟩)∧(∀ i,i<log.length→h_[i]? = log[i]?)
theorem BY {p:Nat} {pre:List Nat} : ∀ (os:List en) (s:St) (log:List iV),qc P G p pre os s log→acY P G p pre os s log
 | [],s,log,h=>⟨fun _=>s,fun _=>vr ⟨none,.mv (.t 0),none,[]⟩,log,rfl,fun i o hi=>by simp at hi,h,by simp,fun i o hi=>by simp at hi,fun _ _=>rfl⟩
 | o::os,s,log,h=>by
   have cons:∀ (s1:St) (ev:rJ),G6 P G p o s ev s1→qc P G p pre os s1 (log++[⟨o.pre,ev.rd,ev.wr⟩])→acY P G p pre (o::os) s log:=fun s1 ev hst hk=>by
    obtain ⟨ss,es,h_,h0,hs,hK,hlen,pq,hold⟩:=BY os _ _ hk
    refine ⟨fun i=>match i with | 0=>s | i+1=>ss i,fun i=>match i with | 0=>ev | i+1=>es i,h_,rfl,fun i o' hi=>?_,hK,?_,fun i o' hi=>?_,fun i hi=>?_⟩
    ·cases i with
     | zero=>
       simp at hi; subst hi
       rw [← h0] at hst; exact hst
     | succ i=>exact hs i o' (by simpa using hi)
    ·simp at hlen ⊢; omega
    ·cases i with
     | zero=>
       simp at hi; subst hi
       rw [Nat.add_zero,hold _ (by simp)]
       simp
     | succ i=>
       have:=pq i o' (by simpa using hi)
       rw [← this]; congr 1; simp; omega
    ·rw [hold i (by simp; omega),List.getElem?_append_left hi]
   simp only [qc] at h
   split at h
   ·rename_i hp
    exact cons _ (KT o) (.inl ⟨by simpa using hp,rfl,rfl⟩) h
   ·rename_i hp
    have hp:p∉o.pre:=by simpa using hp
    rcases EY h with ⟨hw,e,he,hk⟩ | ⟨hw,hk⟩ | ⟨_,_,_,hk⟩
    ·exact cons _ (sX o s.af.length e) (.inr ⟨hp,.inl ⟨hw,e,he,rfl,rfl⟩⟩) hk
    ·exact cons _ (vr o) (.inr ⟨hp,.inr ⟨hw,rfl,rfl⟩⟩) hk
    ·exact hk.elim
def pX (P:Program) (G:Nat→Option (List DV)) (X:Value→St→Prop) (p i:Nat) (o:en) (s:St) (ev:rJ) (s':St):Prop:=
 if i<p then s6 P G o s ev s' else if i=p then (∃ v e,G7 P G o s v e∧X v ⟨[],(s.app none e).af⟩∧ev=Jk o e∧s'=s.put o.dst .top) else G6 P G p o s ev s'
theorem pX.next {X:Value→St→Prop} {p i:Nat} {o:en} {s s':St} {ev:rJ} (h:pX P G X p i o s ev s'):s'.get=gI ev.td ev.r s.get∧s'.obj=de ev.ow s.obj:=by
 unfold pX at h
 split at h
 ·exact h.next
 ·split at h
  ·obtain ⟨_,_,_,_,rfl,rfl⟩:=h
   exact ⟨St.Er ..,rfl⟩
  ·exact h.next
theorem pX.tr {X:Value→St→Prop} {p i:Nat} {o:en} {s s':St} {ev:rJ} (h:pX P G X p i o s ev s'):ev.tr=o.tr∧ev.td=o.dst:=by
 have hR:∀ {ev:rJ},s6 P G o s ev s'→ev.tr=o.tr∧ev.td=o.dst:=fun h=>by
  rcases h with ⟨_,e,_,h1,_⟩ | ⟨_,h1,_⟩ <;> rw [h1] <;> exact ⟨rfl,rfl⟩
 unfold pX at h
 split at h
 ·exact hR h
 ·split at h
  ·obtain ⟨_,_,_,_,rfl,rfl⟩:=h
   exact ⟨rfl,rfl⟩
  ·rcases h with ⟨_,rfl,_⟩ | ⟨_,h⟩
   ·exact ⟨rfl,rfl⟩
   ·exact hR h
def acX (P:Program) (G:Nat→Option (List DV)) (K:St→List iV→Prop) (os:List en) (s:St) (log:List iV):Prop:=
 ∃ (ss:Nat→St) (es:Nat→rJ) (h_:List iV),ss 0=s∧(∀ (i:Nat) (o:en),os[i]? = some o→s6 P G o (ss i) (es i) (ss (i+1)))∧K (ss os.length) h_∧
   h_.length=log.length+os.length∧(∀ (i:Nat) (o:en),os[i]? = some o→h_[log.length+i]? = some ⟨o.pre,(es i).rd,(es i).wr⟩)∧(∀ i,i<log.length→h_[i]? = log[i]?)
def acW (P:Program) (G:Nat→Option (List DV)) (X:Value→St→Prop) (os:List en) (s:St) (log:List iV):Prop:=
 ∃ (p:Nat) (op:en) (ss:Nat→St) (es:Nat→rJ) (h_:List iV),log.length≤p∧os[p-log.length]? = some op∧ss 0=s∧(∀ (i:Nat) (o:en),os[i]? = some o→pX P G X p (log.length+i) o (ss i) (es i) (ss (i+1)))∧(indep h_=true∧FD h_ p op.pre=true)∧
   h_.length=log.length+os.length∧(∀ (i:Nat) (o:en),os[i]? = some o→h_[log.length+i]? = some ⟨o.pre,(es i).rd,(es i).wr⟩)∧(∀ i,i<log.length→h_[i]? = log[i]?)
theorem y7 {X:Value→St→Prop} {K:St→List iV→Prop} : ∀ (os:List en) (s:St) (log:List iV),eX P G X os s log K→acX P G K os s log∨acW P G X os s log
 | [],s,log,h=>.inl ⟨fun _=>s,fun _=>vr ⟨none,.mv (.t 0),none,[]⟩,log,rfl,fun i o hi=>by simp at hi,h,by simp,fun i o hi=>by simp at hi,fun _ _=>rfl⟩
 | o::os,s,log,h=>by
   have cons:∀ (s1:St) (ev:rJ),s6 P G o s ev s1→eX P G X os s1 (log++[⟨o.pre,ev.rd,ev.wr⟩]) K→acX P G K (o::os) s log∨acW P G X (o::os) s log:=fun s1 ev hst hk=>by
    rcases y7 os _ _ hk with ⟨ss,es,h_,h0,hs,hK,hlen,pq,hold⟩ | ⟨p,op,ss,es,h_,mg,hop,h0,hs,hK,hlen,pq,hold⟩
    ·refine .inl ⟨fun i=>match i with | 0=>s | i+1=>ss i,fun i=>match i with | 0=>ev | i+1=>es i,h_,rfl,fun i o' hi=>?_,hK,?_,fun i o' hi=>?_,fun i hi=>?_⟩
     ·cases i with
      | zero=>
        simp at hi; subst hi
        rw [← h0] at hst; exact hst
      | succ i=>exact hs i o' (by simpa using hi)
     ·simp at hlen ⊢; omega
     ·cases i with
      | zero=>
        simp at hi; subst hi
        rw [Nat.add_zero,hold _ (by simp)]
        simp
      | succ i=>
        have:=pq i o' (by simpa using hi)
        rw [← this]; congr 1; simp; omega
     ·rw [hold i (by simp; omega),List.getElem?_append_left hi]
    ·simp only [List.length_append,List.length_cons,List.length_nil] at mg hop hs hlen pq
     refine .inr ⟨p,op,fun i=>match i with | 0=>s | i+1=>ss i,fun i=>match i with | 0=>ev | i+1=>es i,h_,by omega,?_,rfl,fun i o' hi=>?_,hK,?_,fun i o' hi=>?_,fun i hi=>?_⟩
     ·rw [show p-log.length=(p-(log.length+1))+1 by omega]; simpa using hop
     ·cases i with
      | zero=>
        simp at hi; subst hi
        unfold pX
        rw [if_pos (by omega)]
        rw [← h0] at hst; exact hst
      | succ i=>
        have:=hs i o' (by simpa using hi)
        rw [show log.length+(0+1)+i=log.length+(i+1) by omega] at this
        exact this
     ·simp; omega
     ·cases i with
      | zero=>
        simp at hi; subst hi
        rw [Nat.add_zero,hold _ (by simp)]
        simp
      | succ i=>
        have:=pq i o' (by simpa using hi)
        rw [← this]; congr 1; omega
     ·rw [hold i (by simp; omega),List.getElem?_append_left hi]
   simp only [eX] at h
   rcases EY h with ⟨hw,e,he,hk⟩ | ⟨hw,hk⟩ | ⟨v,e,Qm,hX,hk⟩
   ·exact cons _ (sX o s.af.length e) (.inl ⟨hw,e,he,rfl,rfl⟩) hk
   ·exact cons _ (vr o) (.inr ⟨hw,rfl,rfl⟩) hk
   ·obtain ⟨ss,es,h_,h0,hs,hK,hlen,pq,hold⟩:=BY os _ _ hk
    simp only [List.length_append,List.length_cons,List.length_nil] at hs hlen pq
    refine .inr ⟨log.length,o,fun i=>match i with | 0=>s | i+1=>ss i,fun i=>match i with | 0=>Jk o e | i+1=>es i,h_,Nat.le_refl _,by simp,rfl,fun i o' hi=>?_,hK,?_,fun i o' hi=>?_,fun i hi=>?_⟩
    ·cases i with
     | zero=>
       simp at hi; subst hi
       unfold pX
       rw [if_neg (by omega),if_pos (by omega)]
       exact ⟨v,e,Qm,hX,rfl,h0⟩
     | succ i=>
       have:=hs i o' (by simpa using hi)
       unfold pX
       rw [if_neg (by omega),if_neg (by omega)]
       exact this
    ·simp; omega
    ·cases i with
     | zero=>
       simp at hi; subst hi
       rw [Nat.add_zero,hold _ (by simp)]
       simp [Jk,rJ.wr]
     | succ i=>
       have:=pq i o' (by simpa using hi)
       rw [← this]; congr 1; omega
    ·rw [hold i (by simp; omega),List.getElem?_append_left hi]
end
structure At (G:Nat→Option (List DV)) (D:Dk) (N:Nat) (bx:Nat→cG) (J0:Nat→Prop) (cu:Nat→Nat→Option Nat) (w0:World) (get:Nat→LV) (obj:Nat→cG) (a:Act) (w:World):Prop where
 mk::
 ex:∃ J ι,Sim G D N J w ι a get obj∧Ext bx obj J0 J cu ι w0 w
section
variable {P:Program} {G:Nat→Option (List DV)} {D:Dk} {N:Nat} {bx:Nat→cG} {J0:Nat→Prop} {cu:Nat→Nat→Option Nat} {w0:World} {ops:Array Oper} {Q:Exit→Act→World→Prop} {ro:Option Nat} {nn:Nat}
theorem vC {o:Oper} {i:I} (h:nq P o.op=some i) (hs:i≠.more .stk) (c:Call):o.op≠.defer c:=by
 intro hc
 rw [hc] at h
 have:nq P (.defer c)=some (.more .stk):=by
  have h1:A9 P (.defer c)=none:=rfl
  simp only [nq,h1,cT,iN]
 rw [this] at h
 exact hs (Option.some.inj h).symm
theorem lB.abg {get:Nat→LV} {obj:Nat→cG} {base:Nat} {i:I} {e:fC} (h:lB P G get obj base i e):i≠.more .stk:=by
 rintro rfl
 simp [lB,cO,fQ] at h
theorem At.drew {get:Nat→LV} {obj:Nat→cG} {a:Act} {w:World} {n:Nat} (h:At G D N bx J0 cu w0 get obj a w):At G D N bx J0 cu w0 get obj a { w with drawn:=n }:=by
 obtain ⟨J,ι,S,E⟩:=h.ex
 have E1:Ext obj obj J J ι ι w { w with drawn:=n }:=⟨⟨rfl,rfl,rfl,Nat.le_refl _,fun _ _ _=>rfl,fun _ _=>rfl,fun _ h=>h,fun _ h=>.inl h,fun _ _ _ h=>h⟩,fun _ h=>.inl h⟩
 refine ⟨J,ι,⟨⟨fun o=>nS.keep S.store E1.ev (fun _=>rfl) (fun _ _=>rfl),S.store.inj,S.store.sB,S.store.jcell,fun g row hg=>?_⟩,fun t=>(S.env t).ev S.store E1.ev,S.size,S.defers.keep (E1.nc S.store),D.keep _ _ _ (E1.nc S.store) S.ys,S.lim⟩,E.trans E1⟩
 obtain ⟨h1,h2,h3⟩:=S.store.yx g row hg
 exact ⟨h1,h2.ev S.store E1.ev h1,h3⟩
theorem DQ {o:Oper} {io:en} (hc:gD P N ops o io.pre=some io) {s:St} {ev:rJ} {s':St} (hst:s6 P G io s ev s') {get:Nat→LV} {obj:Nat→cG}
  (hg:∀ t,t∈ev.tr∨ev.td=some t→get t=s.get t) (ho:∀ q,q∈ev.rd∨q∈ev.wr→obj q=s.obj q) {a:Act} {w:World} (hA:At G D N bx J0 cu w0 get obj a w) {K:Act→World→Prop}
  (hK:∀ a' w',At G D N bx J0 cu w0 (gI ev.td ev.r get) (de ev.ow obj) a' w'→K a' w') :
  if Region.wanted o (yielded ops a.tmps) then o.wpIn (fz ro) nn P a w K Q else (∀ f,o.about P w a.eval=some f→(fz ro).fn f)∧K (a.put o.dst Go.undef) w:=by
 obtain ⟨J,ι,S,E⟩:=hA.ex
 obtain ⟨QI,i,g,hi,hgd,oC⟩:GB N o.dst=true∧∃ i g,nq P o.op=some i∧vD N ops o.guard=some g∧io=⟨o.dst,i,g,io.pre⟩:=by
  unfold gD at hc
  split at hc
  ·rename_i hd
   split at hc
   ·rename_i i g h1 h2
    exact ⟨hd,i,g,h1,h2,(Option.some.inj hc).symm⟩
   ·cases hc
  ·cases hc
 have Vp:∀ d,o.dst=some d→d<N:=fun d hd=>by rw [hd] at QI; simpa [GB] using QI
 have Qx:io.dst=o.dst:=by rw [oC]
 have Em:io.op=i:=by rw [oC]
 have IX:io.guard=g:=by rw [oC]
 have htr:ev.tr=io.tr:=by rcases hst with ⟨_,e,_,rfl,_⟩ | ⟨_,rfl,_⟩ <;> rfl
 have htd:ev.td=o.dst:=by rcases hst with ⟨_,e,_,rfl,_⟩ | ⟨_,rfl,_⟩ <;> exact Qx
 -- RR it is wanted
 have CL:∀ b,eO io s=some b→Region.wanted o (yielded ops a.tmps)=b:=by
  intro b hb
  unfold eO at hb
  rw [IX] at hb
  cases MH:o.guard with
  | none=>
    rw [MH] at hgd
    simp only [vD] at hgd; cases hgd
    simp only [Region.wanted,MH]
    exact Option.some.inj hb
  | some p=>
    obtain ⟨j,want⟩:=p
    rw [MH] at hgd
    simp only [vD] at hgd
    split at hgd
    ·rename_i oj ES
     split at hgd
     ·rename_i t ht
      split at hgd
      ·rename_i htN
       cases hgd
       dsimp only at hb
       have hgt:get t=s.get t:=hg t (.inl (by rw [htr]; simp [en.tr,IX]))
       have u9:=S.env t
       rw [hgt] at u9
       have hval:a.tmps[t]? = some (a.tmps.getD t Go.undef):=by
        have:t<a.tmps.size:=by rw [S.size]; exact htN
        simp [this]
       simp only [Region.wanted,MH,yielded,ES,Option.bind_some,ht,hval]
       split at hb
       ·rename_i b' hb'
        rw [hb'] at u9
        have:a.tmps.getD t Go.undef=.bool b':=u9
        rw [this]
        have:=Option.some.inj hb
        rw [← this]
        cases b' <;> cases want <;> rfl
       ·rename_i v hv
        rw [hv] at u9
        have:a.tmps.getD t Go.undef=.tuple v:=u9
        rw [this]
        have:=Option.some.inj hb
        rw [← this]; rfl
       ·cases hb
      ·cases hgd
     ·cases hgd
    ·cases hgd
 rcases hst with ⟨hw,e,he,rfl,rfl⟩ | ⟨hw,rfl,rfl⟩
 ·rw [CL true hw,if_pos rfl]
  have he':lB P G get obj s.af.length io.op e:=he.local (fun t ht=>hg t (.inl (by simp [sX,en.tr,ht]))) (fun q hq=>ho q (.inl hq))
  have hfree:∀ j,j<e.nw.length→obj (s.af.length+j)=.free:=fun j hj=>by
   rw [ho _ (.inr (by
    simp only [sX,rJ.wr,fC.owned,List.map_append,List.mem_append]
    exact .inl (Kh _ _ _ hj)))]
   exact cW (by omega)
  rw [Em] at he'
  refine Y9 (vC hi he'.abg) (JS S.store S.env he' hfree hi K Q (fun v w' hAf=>hK _ _ ?_))
  obtain ⟨J',ι',S',E'⟩:=S.step (dst:=o.dst) Vp hAf
  refine ⟨J',ι',?_,?_⟩
  ·have e1:(sX io s.af.length e).td=o.dst:=Qx
   rw [e1]
   have e2:de (sX io s.af.length e).ow obj=bO obj s.af.length e:=by
    simp only [sX,fC.owned,iW,bO,uN]
   rw [e2]; exact S'
  ·have e2:de (sX io s.af.length e).ow obj=bO obj s.af.length e:=by
    simp only [sX,fC.owned,iW,bO,uN]
   rw [e2]; exact E.trans E'
 ·rw [CL false hw]
  simp only [Bool.false_eq_true,if_false]
  refine ⟨fun _ _=>trivial,hK _ _ ?_⟩
  obtain ⟨J',ι',S',E'⟩:=S.step (dst:=o.dst) Vp (bn.stay S.store (r:=.undef) (v:=Go.undef) rfl)
  exact ⟨J',ι',by rw [htd]; exact S',E.trans E'⟩
def Wp (G:Nat→Option (List DV)) (bx:Nat→cG) (J0:Nat→Prop) (cu:Nat→Nat→Option Nat) (w0:World) (get:Nat→LV) (obj:Nat→cG) (a:Act) (w:World):Prop:=∃ J ι,aJ G J w ι obj∧Ext bx obj J0 J cu ι w0 w∧∀ t,dz J w ι (get t) (a.tmps.getD t Go.undef)
theorem OX {o:Oper} {io:en} (hc:gD P N ops o io.pre=some io) {s:St} {v:Value} {e:fC} (hp:G7 P G io s v e) {get:Nat→LV} {obj:Nat→cG}
  (hg:∀ t,t∈io.tr→get t=s.get t) (ho:obj=s.obj) {a:Act} {w:World} (hA:At G D N bx J0 cu w0 get obj a w) (K:Act→World→Prop)
  (hX:(D.xN=false→a.defers=D.ds)→∀ w',Wp G bx J0 cu w0 get (s.app none e).obj a w'→Q (.panic [{ v:=v,recovered:=false }]) a w'):Region.wanted o (yielded ops a.tmps)=true∧o.wpIn (fz ro) nn P a w K Q:=by
 obtain ⟨J,ι,S,E⟩:=hA.ex
 obtain ⟨i,g,hi,hgd,oC⟩:∃ i g,nq P o.op=some i∧vD N ops o.guard=some g∧io=⟨o.dst,i,g,io.pre⟩:=by
  unfold gD at hc
  split at hc
  ·split at hc
   ·rename_i i g h1 h2
    exact ⟨i,g,h1,h2,(Option.some.inj hc).symm⟩
   ·cases hc
  ·cases hc
 have Em:io.op=i:=by rw [oC]
 have IX:io.guard=g:=by rw [oC]
 -- RR it is wanted
 have CL:∀ b,eO io s=some b→Region.wanted o (yielded ops a.tmps)=b:=by
  intro b hb
  unfold eO at hb
  rw [IX] at hb
  cases MH:o.guard with
  | none=>
    rw [MH] at hgd
    simp only [vD] at hgd; cases hgd
    simp only [Region.wanted,MH]
    exact Option.some.inj hb
  | some p=>
    obtain ⟨j,want⟩:=p
    rw [MH] at hgd
    simp only [vD] at hgd
    split at hgd
    ·rename_i oj ES
     split at hgd
     ·rename_i t ht
      split at hgd
      ·rename_i htN
       cases hgd
       dsimp only at hb
       have hgt:get t=s.get t:=hg t (by simp [en.tr,IX])
       have u9:=S.env t
       rw [hgt] at u9
       have hval:a.tmps[t]? = some (a.tmps.getD t Go.undef):=by
        have:t<a.tmps.size:=by rw [S.size]; exact htN
        simp [this]
       simp only [Region.wanted,MH,yielded,ES,Option.bind_some,ht,hval]
       split at hb
       ·rename_i b' hb'
        rw [hb'] at u9
        have:a.tmps.getD t Go.undef=.bool b':=u9
        rw [this]
        have:=Option.some.inj hb
        rw [← this]
        cases b' <;> cases want <;> rfl
       ·rename_i v hv
        rw [hv] at u9
        have:a.tmps.getD t Go.undef=.tuple v:=u9
        rw [this]
        have:=Option.some.inj hb
        rw [← this]; rfl
       ·cases hb
      ·cases hgd
     ·cases hgd
    ·cases hgd
 obtain ⟨hw,f,args,k,fs,cs,hop,jy,hcp⟩:=hp
 refine ⟨CL true hw,?_⟩
 rw [Em] at hop
 subst hop
 have hf:f.ev G get=f.ev G s.get:=bX.dm (fun t ht=>hg t (by simp [en.tr,Em,I.tmps,ht]))
 have ha:args.map (·.ev G get)=args.map (·.ev G s.get):=oo (fun t ht=>hg t (by simp only [en.tr,Em,I.tmps,List.mem_append]; exact .inl (.inr ht)))
 have hl:∀ p∈e.wr,p.1<s.af.length:=fun p hp=>by
  obtain ⟨ob,e_⟩:=hcp.uh p hp
  exact yQ e_
 refine Y9 (vC hi (by simp)) (Rs S.store S.env (by rw [hf]; exact jy) (hcp.local (by rw [ha]) (fun q _=>by rw [ho])) (fun j _=>?_) hi K Q (fun w' hAf=>hX S.defers.none w' ?_))
 ·rw [ho]; exact cW (by omega)
 ·obtain ⟨J',ι',S',_,E'⟩:=hAf
  have e1:(s.app none e).obj=bO obj s.af.length e:=by
   rw [ho]; exact Lb s.af e hl
  rw [e1]
  exact ⟨J',ι',S',E.trans E',fun t=>(S.env t).ev S.store E'.ev⟩
def pM (P:Program) (G:Nat→Option (List DV)) (ro:Option Nat) (Y:YO) (D:Dk) (N:Nat) (bx:Nat→cG) (J0:Nat→Prop) (cu:Nat→Nat→Option Nat) (w0:World):Prop:=
 ∀ oy args af ys K',Y (.yl oy::args) af ys K'→∀ get a w,At G D N bx J0 cu w0 get (aC af) a w→get YS=ys→∀ (y:Value) (vs:List Value),(∃ J ι,Sim G D N J w ι a get (aC af)∧Ext bx (aC af) J0 J cu ι w0 w∧dz J w ι (.yl oy) y∧cA J w ι args vs)→
   ∃ l,y=.func (.yield l) #[] #[]∧∀ nn,YieldAt (fz ro) nn P l vs.toArray w (fun e w'=>∃ ys' b aA,e=.returned (.bool b)∧K' ys' b aA∧∀ dst,(∀ d,dst=some d→d<N)→At G D N bx J0 cu w0 (gI dst (.bool b) (fun t=>if YS=t then ys' else get t)) (aC aA) (a.put dst (.bool b)) w')
theorem pM.no {D:Dk} {N:Nat} {bx:Nat→cG} {J0:Nat→Prop} {cu:Nat→Nat→Option Nat} {w0:World} : pM P G ro rV D N bx J0 cu w0:=fun _ _ _ _ _ h=>h.elim
theorem OW {Y:YO} (hY:pM P G ro Y D N bx J0 cu w0) {o:Oper} {io:en} (hc:gD P N ops o io.pre=some io) {s:St} {K0:St→Prop} (hst:YAt G Y io s K0) {a:Act} {w:World} (hA:At G D N bx J0 cu w0 s.get s.obj a w) {K:Act→World→Prop}
  (hK:∀ s' a' w',K0 s'→At G D N bx J0 cu w0 s'.get s'.obj a' w'→K a' w'):Region.wanted o (yielded ops a.tmps)=true∧o.wpIn (fz ro) nn P a w K Q:=by
 obtain ⟨hw,f,args,oy,hop,eo,hY0⟩:=hst
 obtain ⟨J,ι,S,E⟩:=hA.ex
 obtain ⟨QI,i,g,hi,hgd,oC⟩:GB N o.dst=true∧∃ i g,nq P o.op=some i∧vD N ops o.guard=some g∧io=⟨o.dst,i,g,io.pre⟩:=by
  unfold gD at hc
  split at hc
  ·rename_i hd
   split at hc
   ·rename_i i g h1 h2
    exact ⟨hd,i,g,h1,h2,(Option.some.inj hc).symm⟩
   ·cases hc
  ·cases hc
 have Vp:∀ d,o.dst=some d→d<N:=fun d hd=>by rw [hd] at QI; simpa [GB] using QI
 have Qx:io.dst=o.dst:=by rw [oC]
 have Em:io.op=i:=by rw [oC]
 have IX:io.guard=g:=by rw [oC]
 have CL:Region.wanted o (yielded ops a.tmps)=true:=by
  have hb:=hw
  unfold eO at hb
  rw [IX] at hb
  cases MH:o.guard with
  | none=>simp only [Region.wanted,MH]
  | some p=>
    obtain ⟨j,want⟩:=p
    rw [MH] at hgd
    simp only [vD] at hgd
    split at hgd
    ·rename_i oj ES
     split at hgd
     ·rename_i t ht
      split at hgd
      ·rename_i htN
       cases hgd
       dsimp only at hb
       have u9:=S.env t
       have hval:a.tmps[t]? = some (a.tmps.getD t Go.undef):=by
        have:t<a.tmps.size:=by rw [S.size]; exact htN
        simp [this]
       simp only [Region.wanted,MH,yielded,ES,Option.bind_some,ht,hval]
       split at hb
       ·rename_i b' hb'
        rw [hb'] at u9
        have:a.tmps.getD t Go.undef=.bool b':=u9
        rw [this]
        have:=Option.some.inj hb
        revert this
        cases b' <;> cases want <;> simp
       ·rename_i v hv
        cases hb
       ·cases hb
      ·cases hgd
     ·cases hgd
    ·cases hgd
 refine ⟨CL,?_⟩
 rw [Em] at hop
 subst hop
 replace hi:=tT hi
 obtain ⟨dst,op,type,pos,after,guard⟩:=o
 dsimp only at hi Qx Vp ⊢
 obtain ⟨F,as,ts,rfl,hF,hargs⟩:∃ F as ts,op=.call ⟨.value F,as,ts⟩∧aL F=some f∧dY as.toList=some args:=by
  cases op with
  | call c=>
    obtain ⟨callee,as,ts⟩:=c
    cases callee with
    | value F=>
      simp only [cT] at hi
      split at hi
      ·rename_i f' args' h1 h2; cases hi; exact ⟨F,as,ts,rfl,h1,h2⟩
      ·cases hi
    | invoke r m=>simp [cT] at hi
    | builtin b=>
      exfalso
      cases b <;> simp only [cT] at hi <;> (repeat' split at hi) <;> cases hi
  | unOp u T x=>exfalso; cases u <;> simp only [cT] at hi <;> (try (cases hi; done)) <;> (repeat' split at hi) <;> cases hi
  | _=>
    exfalso
    simp only [cT] at hi <;> (repeat' split at hi) <;> cases hi
 have AD:=bg S.store S.env hF
 have hrA:=rQ S.store S.env hargs
 rw [eo] at AD
 obtain ⟨l,hyl,Ek⟩:=hY _ _ _ _ _ hY0 s.get a w hA rfl (a.eval F) (as.toList.map a.eval) ⟨J,ι,S,E,AD,hrA⟩
 obtain ⟨fn,tmps,assign,body,hrun,hR⟩:=Ek (nn-1)
 refine ⟨fun _ _=>trivial,?_⟩
 rw [Oper.semAt_eq _ _ _ (fun c h=>by cases h)]
 have hex:(execOp a.eval ⟨dst,.call ⟨.value F,as,ts⟩,type,pos,after,guard⟩).run P w=.ok (.round l fn tmps assign body) w:=by
  have e1:as.map a.eval=(as.toList.map a.eval).toArray:=by
   apply Array.toList_inj.1
   simp
  simp only [execOp,resolve,Sem.run_bind,hyl,Deferred.ofValue,Sem.run_pure,Result.andThen_ok,invoke,callFunc,e1]
  simpa using hrun
 rw [hex,Oper.uponIn_round]
 refine ⟨(fun hh=>by cases hh),hR.mono (fun e w' hq=>?_)⟩
 obtain ⟨ys',b,aA,rfl,hk,hat⟩:=hq
 refine hK _ _ _ hk ?_
 have:=hat dst Vp
 have e2:(St.get ⟨ei io.dst (.bool b) ((YS,ys')::s.env),aA⟩)=gI dst (.bool b) (fun t=>if YS=t then ys' else s.get t):=by
  show aY _=_
  rw [AO,Qx]
  rfl
 rw [e2]
 exact this
theorem Cu {Y:YO} (hY:pM P G ro Y D N bx J0 cu w0) {X:Value→fC→St→Prop} (hX:∀ v e s a w,(D.xN=false→a.defers=D.ds)→Wp G bx J0 cu w0 s.get s.obj a w→X v e s→Q (.panic [{ v:=v,recovered:=false }]) a w)
  {o:Oper} {io:en} (h2:gD P N ops o io.pre=some io) {s:St} {K:St→fC→Prop} {K0:St→Prop} (hv:y8 P G Y X io s K K0) {a:Act} {w:World} (hA:At G D N bx J0 cu w0 s.get s.obj a w) {K':Act→World→Prop}
  (h1:∀ s' e a' w',K s' e→At G D N bx J0 cu w0 s'.get s'.obj a' w'→K' a' w') (h0:∀ s' a' w',K0 s'→At G D N bx J0 cu w0 s'.get s'.obj a' w'→K' a' w') :
  if Region.wanted o (yielded ops a.tmps) then o.wpIn (fz ro) nn P a w K' Q else (∀ f,o.about P w a.eval=some f→(fz ro).fn f)∧K' (a.put o.dst Go.undef) w:=by
 have qY:∀ s' ev,s6 P G io s ev s'→(∀ a' w',At G D N bx J0 cu w0 s'.get s'.obj a' w'→K' a' w')→if Region.wanted o (yielded ops a.tmps) then o.wpIn (fz ro) nn P a w K' Q else (∀ f,o.about P w a.eval=some f→(fz ro).fn f)∧K' (a.put o.dst Go.undef) w:=by
  intro s' ev hst hv'
  obtain ⟨hn1,hn2⟩:=hst.next
  refine DQ h2 hst (fun _ _=>rfl) (fun _ _=>rfl) hA (fun a' w' vh=>hv' a' w' ?_)
  rw [← hn1,← hn2] at vh
  exact vh
 rcases BZ hv with ⟨hw,e,he,hk⟩ | ⟨hw,hk⟩ | ⟨v,e,hp,hk⟩ | hy
 ·exact qY _ _ (.inl ⟨hw,e,he,rfl,rfl⟩) (fun a' w'=>h1 _ _ a' w' hk)
 ·exact qY _ _ (.inr ⟨hw,rfl,rfl⟩) (fun a' w'=>h0 _ a' w' hk)
 ·obtain ⟨h3,h4⟩:=OX (Q:=Q) h2 hp (fun _ _=>rfl) rfl hA K' (fun hd w' hO=>hX v _ _ a w' hd hO hk)
  rw [h3,if_pos rfl]; exact h4
 ·obtain ⟨h3,h4⟩:=OW (Q:=Q) hY h2 hy hA (fun s' a' w' hk vh=>h1 _ _ _ _ hk vh)
  rw [h3,if_pos rfl]; exact h4
theorem v_ {Y:YO} (hY:pM P G ro Y D N bx J0 cu w0) {X:Value→St→Prop} {K:St→Prop} (hQ:∀ s a w,At G D N bx J0 cu w0 s.get s.obj a w→K s→Q .normal a w) (hX:∀ v s a w,(D.xN=false→a.defers=D.ds)→Wp G bx J0 cu w0 s.get s.obj a w→X v s→Q (.panic [{ v:=v,recovered:=false }]) a w) :
  ∀ (os:List Oper) (fP:List en) (s:St) (a:Act) (w:World),fP.length=os.length→(∀ (i:Nat) (o:Oper),os[i]? = some o→∃ io,fP[i]? = some io∧gD P N ops o io.pre=some io)→gK P G Y X fP s K→
    At G D N bx J0 cu w0 s.get s.obj a w→wpListIn (fz ro) nn P ops Q os a w
 | [],fP,s,a,w,hl,hc,hv,hA=>by
   cases fP with
   | nil=>exact hQ s a w hA hv
   | cons _ _=>simp at hl
 | o::os,[],s,a,w,hl,hc,hv,hA=>by simp at hl
 | o::os,io::fP,s,a,w,hl,hc,hv,hA=>by
   obtain ⟨io',h1,h2⟩:=hc 0 o (by simp)
   simp at h1; subst h1
   refine wpListIn_step (fun K' Bz=>?_)
   simp only [gK] at hv
   have hnext:∀ s' a' w',gK P G Y X fP s' K→At G D N bx J0 cu w0 s'.get s'.obj a' w'→K' a' w':=fun s' a' w' hv' vh=>
    Bz _ _ (v_ hY hQ hX os fP s' a' w' (by simpa using hl) (fun i o' hi=>by simpa using hc (i+1) o' (by simpa using hi)) hv' vh)
   exact Cu hY (fun v _ s a w h1 h2 h3=>hX v s a w h1 h2 h3) h2 hv hA (fun s' _=>hnext s') hnext
structure Ord (P:Program) (N:Nat) (ops:Array Oper) (fP:List en):Prop where
 mix:P.follows .mixedOrders=true
 len:fP.length=ops.size
 at_:∀ i,i<ops.size→∃ o io,ops[i]? = some o∧fP[i]? = some io∧gD P N ops o io.pre=some io
 dr:∀ j o io,ops[j]? = some o→fP[j]? = some io→(∀ k∈direct o,k<j)∧(∀ i∈io.pre,i<ops.size∧∃ k∈direct o,k=i∨∃ z,fP[k]? = some z∧i∈z.pre)∧
   (∀ i x,i<j→fP[i]? = some x→i∈io.pre∨(Jy x io=false∧EH x io=false))
def RQ (fP:List en) (i j:Nat):Prop:=∃ io,fP[j]? = some io∧i∈io.pre
theorem Ord.of {fP:List en} (hc:ni P N ops true=some fP):Ord P N ops fP:=by
 simp only [ni,if_true] at hc
 split at hc
 ·rename_i ad0 hcs
  split at hc
  ·rename_i hok
   cases hc
   rw [Bool.and_eq_true] at hok
   obtain ⟨adp,QJ⟩:=hok
   obtain ⟨hlen,mh⟩:=nk hcs
   simp only [Array.length_toList] at hlen
   unfold O7 at QJ
   rw [List.all_eq_true] at QJ
   refine ⟨adp,hlen,fun i hi=>?_,fun j o io ES hij=>?_⟩
   ·obtain ⟨io,k1,k2⟩:=mh i ops[i] (by simp)
    exact ⟨ops[i],io,Array.getElem?_eq_getElem hi,k1,k2⟩
   ·have ace:=(Array.getElem?_eq_some_iff.1 ES).1
    have h1:=QJ j (by simpa using ace)
    have adn:ops.toList[j]? = some o:=by simpa using ES
    rw [adn,hij] at h1
    simp only [Bool.and_eq_true,List.all_eq_true,decide_eq_true_eq,List.any_eq_true,Bool.or_eq_true,beq_iff_eq] at h1
    obtain ⟨⟨h2,h3⟩,h4⟩:=h1
    refine ⟨h2,fun i hi=>?_,fun i x hilt hx=>?_⟩
    ·obtain ⟨h5,k,hk,h6⟩:=h3 i hi
     refine ⟨by simpa using h5,k,hk,h6.imp id (fun h=>?_)⟩
     split at h
     ·rename_i z hz; exact ⟨z,hz,by simpa using h⟩
     ·cases h
    ·have:=h4 i (by simpa using hilt)
     rw [hx] at this
     simp only [Bool.or_eq_true,Bool.not_eq_true',List.contains_iff_mem,Bool.or_eq_false_iff] at this
     exact this
  ·cases hc
 ·cases hc
theorem Ord.pre {fP:List en} (h:Ord P N ops fP) (j:Nat) (o:Oper) (ho:ops[j]? = some o) (i:Nat) (hij:RQ fP i j):∃ e∈o.after,Region.binds .any e=true∧(e.on=i∨RQ fP i e.on):=by
 obtain ⟨io,oC,hmem⟩:=hij
 obtain ⟨_,h2,_⟩:=h.dr j o io ho oC
 obtain ⟨_,k,hk,h3⟩:=h2 i hmem
 simp only [direct,List.mem_map,List.mem_filter,Array.mem_toList_iff] at hk
 obtain ⟨e,⟨he,hb⟩,AH⟩:=hk
 refine ⟨e,he,hb,?_⟩
 rw [AH]
 exact h3.imp id (fun ⟨z,hz,hiz⟩=>⟨z,hz,hiz⟩)
theorem Ord.back {fP:List en} (h:Ord P N ops fP) (j:Nat) (o:Oper) (ho:ops[j]? = some o) (e:Edge) (he:e∈o.after) (hb:Region.binds .any e=true):e.on<j:=by
 obtain ⟨_,io,_,oC,_⟩:=h.at_ j (Array.getElem?_eq_some_iff.1 ho).1
 obtain ⟨h1,_,_⟩:=h.dr j o io ho oC
 refine h1 e.on ?_
 simp only [direct,List.mem_map,List.mem_filter,Array.mem_toList_iff]
 exact ⟨e,⟨he,hb⟩,rfl⟩
theorem Ord.lt {fP:List en} (h:Ord P N ops fP) (i j:Nat) (hij:RQ fP i j):i<ops.size:=by
 obtain ⟨io,oC,hmem⟩:=hij
 have hj:j<ops.size:=by rw [← h.len]; exact (List.getElem?_eq_some_iff.1 oC).1
 obtain ⟨o,io',ho,Qy,_⟩:=h.at_ j hj
 rw [oC] at Qy; cases Qy
 obtain ⟨_,h2,_⟩:=h.dr j o io ho oC
 exact (h2 i hmem).1
def Rb:rJ:={ tr:=[],td:=none,r:=.top,rd:=[],ow:=[] }
theorem AY {X:Value→St→Prop} {K:St→Prop} {fP:List en} (O:Ord P N ops fP) {lo hi:Nat} (hlh:lo≤hi) (hhi:hi≤ops.size) (ML:∀ i j,i<hi→hi≤j→j<ops.size→RQ fP i j) {sg:List en} (yW:sg.length=hi-lo)
  (hsg:∀ i io x,fP[lo+i]? = some io→sg[i]? = some x→x.dst=io.dst∧x.op=io.op∧x.guard=io.guard∧∀ k∈x.pre,lo+k∈io.pre)
  (hQ:∀ s a w listed,At G D N bx J0 cu w0 s.get s.obj a w→K s→listed.size=ops.size→(∀ j,listed.getD j false=decide (j<hi))→wpAnyIn (fz ro) nn P .any ops Q (listed.toList.count false) listed a w)
  (hX:∀ v s a w,(D.xN=false→a.defers=D.ds)→Wp G bx J0 cu w0 s.get s.obj a w→X v s→Q (.panic [{ v:=v,recovered:=false }]) a w) {s:St} (hv:eX P G X sg s [] (fun s log=>indep log=true∧K s)) {a:Act} {w:World}
  (hA:At G D N bx J0 cu w0 s.get s.obj a w) {listed:Array Bool} (hls:listed.size=ops.size) (hD:∀ j,listed.getD j false=decide (j<lo)):wpAnyIn (fz ro) nn P .any ops Q (listed.toList.count false) listed a w:=by
 have IJ:∀ i,lo≤i→i<hi→∃ o io x,ops[i]? = some o∧fP[i]? = some io∧sg[i-lo]? = some x∧gD P N ops o x.pre=some x∧x.dst=io.dst∧x.tr=io.tr∧∀ k∈x.pre,lo+k∈io.pre:=by
  intro i h1 h2
  obtain ⟨o,io,ho,oC,gR⟩:=O.at_ i (by omega)
  have hx:=List.getElem?_eq_getElem (l:=sg) (i:=i-lo) (by omega)
  obtain ⟨q1,q2,q3,q4⟩:=hsg (i-lo) io _ (by rw [show lo+(i-lo)=i by omega]; exact oC) hx
  refine ⟨o,io,_,ho,oC,hx,?_,q1,by unfold en.tr; rw [q2,q3],q4⟩
  generalize sg[i-lo]=x at *
  obtain ⟨xd,xo,xg,xp⟩:=x
  obtain ⟨d,op,g,pr⟩:=io
  dsimp only at q1 q2 q3
  subst q1 q2 q3
  unfold gD at gR ⊢
  split at gR
  ·rename_i hd
   rw [if_pos hd]
   split at gR
   ·rename_i i' g' e1 e2
    cases gR
    rfl
   ·cases gR
  ·cases gR
 let E:(Nat→rJ)→Nat→rJ:=fun es i=>if lo≤i∧i<hi then es (i-lo) else Rb
 have Ep:∀ es i,lo≤i→i<hi→E es i=es (i-lo):=fun es i h1 h2=>by simp only [E,if_pos (And.intro h1 h2)]
 have KP:∀ es i,¬ (lo≤i∧i<hi)→E es i=Rb:=fun es i h=>by simp only [E,if_neg h]
 have QL:∀ (es:Nat→rJ) (h_:List iV),(∀ (i:Nat) (x:en),sg[i]? = some x→(es i).tr=x.tr∧(es i).td=x.dst)→indep h_=true→(∀ (i:Nat) (x:en),sg[i]? = some x→h_[i]? = some ⟨x.pre,(es i).rd,(es i).wr⟩)→
   ∀ i j,i<j→j<ops.size→vP (E es i) (E es j)→RQ fP i j:=by
  intro es h_ CM MI pq i j hij hj hcl
  by_cases hi1:lo≤i∧i<hi
  case neg=>rw [KP es i hi1] at hcl; simp [vP,Rb,rJ.wr] at hcl
  by_cases hj1:lo≤j∧j<hi
  case neg=>rw [KP es j hj1] at hcl; simp [vP,Rb,rJ.wr] at hcl
  rw [Ep es i hi1.1 hi1.2,Ep es j hj1.1 hj1.2] at hcl
  obtain ⟨oi,ioi,x,_,ady,hx,_,dxi,txi,_⟩:=IJ i hi1.1 hi1.2
  obtain ⟨oj,ioj,y,ES,acf,hy,_,dyj,tyj,hpj⟩:=IJ j hj1.1 hj1.2
  refine ⟨ioj,acf,?_⟩
  obtain ⟨_,_,h3⟩:=O.dr j oj ioj ES acf
  rcases h3 i ioi hij ady with h | ⟨hT,hT'⟩
  ·exact h
  ·obtain ⟨tx,dx⟩:=CM _ x hx
   obtain ⟨ty,dy⟩:=CM _ y hy
   have Gf:=pq _ x hx
   have Qr:=pq _ y hy
   rw [txi] at tx; rw [dxi] at dx; rw [tyj] at ty; rw [dyj] at dy
   have hin:i-lo∈y.pre→i∈ioj.pre:=fun h=>by
    have:=hpj _ h
    rwa [show lo+(i-lo)=i by omega] at this
   rcases hcl with ⟨t,h1,h2⟩ | ⟨t,h1,h2⟩ | ⟨q,h1,h2⟩ | ⟨q,h1,h2⟩
   ·exfalso
    rw [dx] at h1; rw [ty,dy] at h2
    simp only [Jy,h1,Bool.or_eq_false_iff] at hT
    rcases h2 with h2 | h2
    ·have:=hT.1; simp [h2] at this
    ·have:=hT.2; simp [h2] at this
   ·exfalso
    rw [dy] at h1; rw [tx] at h2
    simp [EH,h1,h2] at hT'
   ·refine hin (AA MI Gf Qr (by omega) ?_)
    simp only [Bd,Bool.or_eq_true,List.any_eq_true,List.contains_iff_mem]
    exact .inl ⟨q,h1,h2⟩
   ·refine hin (AA MI Gf Qr (by omega) ?_)
    simp only [Bd,Bool.or_eq_true,List.any_eq_true,List.contains_iff_mem]
    exact .inr ⟨q,h1,h2⟩
 have aaB:∀ (es:Nat→rJ) (ss:Nat→St),ss 0=s→(∀ (i:Nat) (x:en),sg[i]? = some x→(ss (i+1)).get=gI (es i).td (es i).r (ss i).get∧(ss (i+1)).obj=de (es i).ow (ss i).obj)→∀ k,k≤ops.size→j4 (E es) s.get s.obj (fun _=>true) k=((ss (min k hi-lo)).get,(ss (min k hi-lo)).obj):=by
  intro es ss h0 hnx k
  induction k with
  | zero=>intro _; simp only [j4,Nat.zero_min,Nat.zero_sub,h0]
  | succ k ih=>
    intro hk
    simp only [j4,if_true,ih (by omega)]
    by_cases hin:lo≤k∧k<hi
    ·obtain ⟨_,_,x,_,_,hx,_⟩:=IJ k hin.1 hin.2
     obtain ⟨n1,n2⟩:=hnx _ x hx
     rw [Ep es k hin.1 hin.2,show min (k+1) hi-lo=(k-lo)+1 by omega,show min k hi-lo=k-lo by omega,n1,n2]
    ·rw [KP es k hin,show min (k+1) hi-lo=min k hi-lo by omega]
     refine Prod.ext (funext fun t=>?_) rfl
     simp [gI,Rb]
 have u_:∀ (es:Nat→rJ) (ss:Nat→St),ss 0=s→(∀ (i:Nat) (x:en),sg[i]? = some x→(ss (i+1)).get=gI (es i).td (es i).r (ss i).get∧(ss (i+1)).obj=de (es i).ow (ss i).obj)→∀ i,i≤ops.size→j4 (E es) s.get s.obj (fun j=>decide (j<i)) ops.size=((ss (min i hi-lo)).get,(ss (min i hi-lo)).obj):=by
  intro es ss h0 hnx i hi
  rw [← aaB es ss h0 hnx i hi]
  have h1:∀ k,i≤k→j4 (E es) s.get s.obj (fun j=>decide (j<i)) k=j4 (E es) s.get s.obj (fun j=>decide (j<i)) i:=by
   intro k
   induction k with
   | zero=>intro h; have:i=0:=by omega
           subst this; rfl
   | succ k ih=>
     intro h
     by_cases hki:i=k+1
     ·subst hki; rfl
     ·rw [← ih (by omega)]
      simp only [j4]
      rw [if_neg (by simp; omega)]
  have h2:∀ k,k≤i→j4 (E es) s.get s.obj (fun j=>decide (j<i)) k=j4 (E es) s.get s.obj (fun _=>true) k:=by
   intro k
   induction k with
   | zero=>intro _; rfl
   | succ k ih=>
     intro h
     simp only [j4,ih (by omega),if_true]
     rw [if_pos (by simp; omega)]
  rw [h1 _ hi,h2 _ (Nat.le_refl _)]
 have hI0:∀ (es:Nat→rJ) (ss:Nat→St),ss 0=s→(∀ (i:Nat) (x:en),sg[i]? = some x→(ss (i+1)).get=gI (es i).td (es i).r (ss i).get∧(ss (i+1)).obj=de (es i).ow (ss i).obj)→At G D N bx J0 cu w0 (j4 (E es) s.get s.obj (fun j=>listed.getD j false) ops.size).1 (j4 (E es) s.get s.obj (fun j=>listed.getD j false) ops.size).2 a w:=by
  intro es ss h0 hnx
  rw [show (fun j=>listed.getD j false)=fun j=>decide (j<lo) from funext hD,u_ es ss h0 hnx lo (by omega),show min lo hi-lo=0 by omega,h0]
  exact hA
 have acp:∀ (j:Nat) (o:Oper),ops[j]? = some o→listed.getD j false=true→∀ e∈o.after,Region.binds .any e=true→listed.getD e.on false=true:=fun j o ho hj e he hb=>by
  have:=O.back j o ho e he hb
  rw [hD] at hj ⊢
  simp at hj ⊢; omega
 have hlo:∀ j,j<lo→listed.getD j false=true:=fun j hj=>by rw [hD]; simp [hj]
 rcases y7 sg s [] hv with ⟨ss,es,h_,h0,hst,⟨MI,hK⟩,wI,pq,_⟩ | ⟨p,op,ss,es,h_,_,Vh,h0,hst,⟨MI,aan⟩,wI,pq,_⟩
 ·simp only [List.length_nil,Nat.zero_add] at pq
  have CM:∀ (i:Nat) (o:en),sg[i]? = some o→(es i).tr=o.tr∧(es i).td=o.dst:=by
   intro i o hi
   rcases hst i o hi with ⟨_,e,_,h1,_⟩ | ⟨_,h1,_⟩ <;> rw [h1] <;> exact ⟨rfl,rfl⟩
  have hnx:=fun (i:Nat) (x:en) hx=>(hst i x hx).next
  refine Hu (E:=E es) (g0:=s.get) (o0:=s.obj) (R:=RQ fP) (fun g obj a w=>At G D N bx J0 cu w0 g obj a w) lo hi hhi ML (QL es h_ CM MI pq) O.pre O.back O.lt ?_ ?_ _ listed a w hls rfl (fun j hj=>?_) hlo acp (hI0 es ss h0 hnx)
  ·intro i g obj IV IY hg ho a w K' vh Bz
   obtain ⟨o,io,x,hoi,oC,hx,gR,_⟩:=IJ i IV IY
   rw [u_ es ss h0 hnx i (by omega),show min i hi-lo=i-lo by omega,Ep es i IV IY] at hg ho
   rw [Ep es i IV IY] at Bz
   have:=DQ (ro:=ro) (nn:=nn) (ops:=ops) (Q:=Q) gR (hst _ x hx) hg ho vh Bz
   unfold wpOpIn
   simp only [hoi]
   exact this
  ·intro listed a w hls hD hI
   rw [u_ es ss h0 hnx hi hhi,show min hi hi-lo=sg.length by omega] at hI
   exact hQ _ a w listed hI hK hls hD
  ·rw [hD] at hj; simp at hj; omega
 ·rw [List.length_nil,Nat.sub_zero] at Vh
  simp only [List.length_nil,Nat.zero_add] at pq hst wI
  have mg:p<sg.length:=(List.getElem?_eq_some_iff.1 Vh).1
  have hlp:lo+p<hi:=by omega
  have CM:∀ (i:Nat) (o:en),sg[i]? = some o→(es i).tr=o.tr∧(es i).td=o.dst:=fun i o hi=>(hst i o hi).tr
  have hnx:=fun (i:Nat) (x:en) hx=>(hst i x hx).next
  obtain ⟨op0,iop,x0,adl,Em,hx0,adH,_,_,abX⟩:=IJ (lo+p) (by omega) hlp
  rw [show lo+p-lo=p by omega,Vh] at hx0
  cases hx0
  refine Lo (E:=E es) (g0:=s.get) (o0:=s.obj) (R:=RQ fP) (fun g obj a w=>At G D N bx J0 cu w0 g obj a w) lo (lo+p) (by omega) (QL es h_ CM MI pq) O.pre O.back O.lt ?_ ?_ ?_ _ listed a w hls rfl acp hlo (by rw [hD]; simp) (hI0 es ss h0 hnx)
  ·intro i g obj IV adx hip hRp hg ho a w K' vh Bz
   have IY:i<hi:=by
    rcases Nat.lt_or_ge i hi with h | h
    ·exact h
    ·exact absurd (ML (lo+p) i hlp h adx) hRp
   obtain ⟨o,io,x,hoi,oC,hx,gR,_,_,hpx⟩:=IJ i IV IY
   rw [u_ es ss h0 hnx i (by omega),show min i hi-lo=i-lo by omega,Ep es i IV IY] at hg ho
   rw [Ep es i IV IY] at Bz
   have hstep:s6 P G x (ss (i-lo)) (es (i-lo)) (ss (i-lo+1)):=by
    have h1:=hst _ x hx
    unfold pX at h1
    by_cases hlt:i-lo<p
    ·rw [if_pos hlt] at h1; exact h1
    ·rw [if_neg hlt,if_neg (by omega)] at h1
     rcases h1 with ⟨h2,_⟩ | ⟨_,h2⟩
     ·exact absurd ⟨io,oC,hpx p h2⟩ hRp
     ·exact h2
   have:=DQ (ro:=ro) (nn:=nn) (ops:=ops) (Q:=Q) gR hstep hg ho vh Bz
   unfold wpOpIn
   simp only [hoi]
   exact this
  ·intro j hj hne
   by_cases hin:lo≤j∧j<hi
   case neg=>rw [KP es j hin] at hne; exact absurd rfl hne
   rw [Ep es j hin.1 hin.2] at hne
   obtain ⟨_,_,y,_,_,hy,_⟩:=IJ j hin.1 hin.2
   have Qr:=pq _ y hy
   unfold FD at aan
   rw [Bool.and_eq_true,List.all_eq_true,List.all_eq_true] at aan
   obtain ⟨k1,k2⟩:=aan
   have k3:=k2 (j-lo) (by rw [List.mem_range,wI]; omega)
   rw [Qr] at k3
   simp only [Bool.or_eq_true,List.contains_iff_mem,List.isEmpty_iff] at k3
   have k4:j-lo∈op.pre:=k3.resolve_right hne
   have k5:=k1 _ k4
   simp only [decide_eq_true_eq] at k5
   have:=abX _ k4
   rw [show lo+(j-lo)=j by omega] at this
   exact ⟨⟨iop,Em,this⟩,by omega⟩
  ·intro g obj hg ho a w K' vh
   rw [u_ es ss h0 hnx (lo+p) (by omega),show min (lo+p) hi-lo=p by omega] at hg ho
   rw [Ep es (lo+p) (by omega) hlp,show lo+p-lo=p by omega] at hg
   have h1:=hst p op Vh
   unfold pX at h1
   rw [if_neg (by omega),if_pos rfl] at h1
   obtain ⟨v,e,Qm,hXv,eo,_⟩:=h1
   obtain ⟨h3,h4⟩:=OX (ops:=ops) (Q:=Q) adH Qm (fun t ht=>hg t (by rw [eo]; exact ht)) ho vh K' (fun hd w' ⟨J,ι,h1,h2,_⟩=>hX v ⟨[],_⟩ a w' hd ⟨J,ι,h1,h2,fun _=>trivial⟩ hXv)
   unfold wpOpIn
   simp only [adl]
   rw [if_pos h3]
   exact h4
theorem AZ {X:Value→St→Prop} {K:St→Prop} (hQ:∀ s a w,At G D N bx J0 cu w0 s.get s.obj a w→K s→Q .normal a w) (hX:∀ v s a w,(D.xN=false→a.defers=D.ds)→Wp G bx J0 cu w0 s.get s.obj a w→X v s→Q (.panic [{ v:=v,recovered:=false }]) a w) {fP:List en} (hc:ni P N ops true=some fP) {s:St} (hv:eX P G X fP s [] (fun s log=>indep log=true∧K s)) {a:Act} {w:World}
  (hA:At G D N bx J0 cu w0 s.get s.obj a w):P.follows .mixedOrders=true∧wpAnyIn (fz ro) nn P .any ops Q ops.size (Array.replicate ops.size false) a { w with drawn:=w.drawn+1 }:=by
 have O:=Ord.of hc
 refine ⟨O.mix,?_⟩
 have MJ:(Array.replicate ops.size false).toList.count false=ops.size:=by simp
 have:=AY (ro:=ro) (nn:=nn) (hi:=ops.size) (lo:=0) (a:=a) (w:={ w with drawn:=w.drawn+1 }) (s:=s) O (Nat.zero_le _) (Nat.le_refl _) (fun i j _ h1 h2=>absurd h2 (by omega)) (by rw [O.len]; rfl) (fun i io x h1 h2=>by rw [Nat.zero_add,h2] at h1; cases h1; exact ⟨rfl,rfl,rfl,fun k hk=>by rwa [Nat.zero_add]⟩) (fun s a w listed h1 h2 h3 h4=>wpAny_done h3 h4 (hQ s a w h1 h2)) hX hv hA.drew (listed:=Array.replicate ops.size false) (by simp) (fun j=>by by_cases h:j<ops.size <;> simp [h])
 rw [MJ] at this
 exact this
def Rx (fP:List en) (p:Nat):Bool:=(match fP[p]? with
 | some io=>(match io.op with | .call (.t _) _=>true | _=>false)&&(List.range p).all (io.pre.contains ·)
 | none=>false)&&(List.range fP.length).all fun j=>decide (j≤p)||(match fP[j]? with | some z=>(List.range (p+1)).all (z.pre.contains ·) | none=>true)
def aaL (fP:List en):Option Nat:=(List.range fP.length).find? (Rx fP)
def DD (m:Nat) (io:en):en:={ io with pre:=(io.pre.filter (decide <| m≤·)).map (· - m) }
theorem Rl {Y:YO} (hY:pM P G ro Y D N bx J0 cu w0) {X:Value→St→Prop} {K:St→Prop} (hQ:∀ s a w,At G D N bx J0 cu w0 s.get s.obj a w→K s→Q .normal a w) (hX:∀ v s a w,(D.xN=false→a.defers=D.ds)→Wp G bx J0 cu w0 s.get s.obj a w→X v s→Q (.panic [{ v:=v,recovered:=false }]) a w) {fP:List en} (hc:ni P N ops true=some fP) {p:Nat} {io:en} (hp:fP[p]? = some io) (hb:Rx fP p=true) {s:St}
  (hv:eX P G X (fP.take p) s [] (fun s log=>indep log=true∧gK P G Y X [io] s (fun s=>eX P G X ((fP.drop (p+1)).map (DD (p+1))) s [] (fun s log=>indep log=true∧K s)))) {a:Act} {w:World}
  (hA:At G D N bx J0 cu w0 s.get s.obj a w) {rid:Nat} : (Code.region rid ops true).wpIn (fz ro) nn P Q a w:=by
 have O:=Ord.of hc
 have mg:p<fP.length:=(List.getElem?_eq_some_iff.1 hp).1
 have hps:p<ops.size:=by rw [← O.len]; exact mg
 unfold Rx at hb
 rw [hp,Bool.and_eq_true,Bool.and_eq_true,List.all_eq_true,List.all_eq_true] at hb
 obtain ⟨⟨_,hb1⟩,hb2⟩:=hb
 have hA1:∀ i,i<p→RQ fP i p:=fun i hi=>⟨io,hp,by simpa using hb1 i (by simpa using hi)⟩
 have Gl:∀ i j,i≤p→p<j→j<ops.size→RQ fP i j:=fun i j hi hj hjs=>by
  obtain ⟨_,z,_,hz,_⟩:=O.at_ j hjs
  have h1:=hb2 j (by rw [List.mem_range,O.len]; exact hjs)
  rw [hz,show decide (j≤p)=false by simpa using hj,Bool.false_or,List.all_eq_true] at h1
  exact ⟨z,hz,by simpa using h1 i (by simp; omega)⟩
 have MJ:(Array.replicate ops.size false).toList.count false=ops.size:=by simp
 have h:=AY (ro:=ro) (nn:=nn) (hi:=p) (lo:=0) (a:=a) (w:={ w with drawn:=w.drawn+1 }) (s:=s) O (Nat.zero_le _) (by omega) (fun i j h1 h2 h3=>by
   rcases Nat.lt_or_ge p j with h | h
   ·exact Gl i j (by omega) h h3
   ·obtain rfl:j=p:=by omega
    exact hA1 i h1) (by simp; omega) (fun i io x h1 h2=>by
   rw [Nat.zero_add] at h1
   rw [List.getElem?_take] at h2
   split at h2
   ·rw [h1] at h2
    cases h2; exact ⟨rfl,rfl,rfl,fun k hk=>by rwa [Nat.zero_add]⟩
   ·cases h2) (fun s a w listed h1 h2 h3 h4=>?_) hX hv hA.drew (listed:=Array.replicate ops.size false) (by simp) (fun j=>by by_cases h:j<ops.size <;> simp [h])
 ·rw [MJ] at h
  exact wpIn_region_any O.mix h
 ·refine Lp (R:=RQ fP) hps (fun j hj hjs=>Gl p j (Nat.le_refl _) hj hjs) O.pre O.back h3 h4 (fun K' Bz=>?_)
  obtain ⟨o,io',ho,Qy,gR⟩:=O.at_ p hps
  rw [hp] at Qy; cases Qy
  have hnext:∀ s' a' w',eX P G X ((fP.drop (p+1)).map (DD (p+1))) s' [] (fun s log=>indep log=true∧K s)→At G D N bx J0 cu w0 s'.get s'.obj a' w'→K' a' w':=fun s' a' w' hv' vh=>Bz _ _ fun uW h5 h6=>by
   refine AY (hi:=ops.size) (lo:=p+1) (s:=s') O (by omega) (Nat.le_refl _) (fun i j _ h1 h2=>absurd h2 (by omega)) (by simp [O.len]) (fun i io x h1 h2=>?_) (fun s a w listed h1 h2 h3 h4=>wpAny_done h3 h4 (hQ s a w h1 h2)) hX hv' vh h5 h6
   rw [List.getElem?_map,List.getElem?_drop,h1] at h2
   cases h2
   refine ⟨rfl,rfl,rfl,fun k hk=>?_⟩
   simp only [DD,List.mem_map,List.mem_filter,decide_eq_true_eq] at hk
   obtain ⟨k0,⟨hk0,wJ⟩,rfl⟩:=hk
   rwa [show p+1+(k0-(p+1))=k0 by omega]
  simp only [gK] at h2
  have:=Cu (ro:=ro) (nn:=nn) (ops:=ops) (Q:=Q) hY (fun v _ s a w h1 h2 h3=>hX v s a w h1 h2 h3) gR h2 h1 (fun s' _=>hnext s') hnext
  unfold wpOpIn
  simp only [ho]
  exact this
theorem AX {X:Value→St→Prop} {K:St→Prop} (hQ:∀ s a w,At G D N bx J0 cu w0 s.get s.obj a w→K s→Q .normal a w) (hX:∀ v s a w,(D.xN=false→a.defers=D.ds)→Wp G bx J0 cu w0 s.get s.obj a w→X v s→Q (.panic [{ v:=v,recovered:=false }]) a w) {fP:List en} (hc:ni P N ops true=some fP) {s:St} (hv:eX P G X fP s [] (fun s log=>indep log=true∧K s)) {a:Act} {w:World}
  (hA:At G D N bx J0 cu w0 s.get s.obj a w) {rid:Nat} : (Code.region rid ops true).wpIn (fz ro) nn P Q a w:=
 have h:=AZ hQ hX hc hv hA
 wpIn_region_any h.1 h.2
end
end Dv
namespace Dv
open Go
inductive C where
 | skip
 | pZ (ops:List en)
 | lS (ops:List en)
 | seq (a b:C)
 | cond (c:bX) (a b:C)
 | block (i:Nat) (b:C)
 | loop (b:C)
 | exit (i:Nat)
 | ret
 | scope (b:C)
 | Zz (g:bX) (ps:List Nat) (a b:C)
inductive RV where
 | t (n:Nat)
 | c1 (n:Nat)
 | cn (n size:Nat)
structure xm where
 n:St→Prop
 x:Nat→St→Prop
 r:St→Prop
 y:YO
 b:Option Nat
def ij:Nat:=4294967295
def j6 (v:Value) (s:St):St:=⟨(ij,.d (.val v))::s.env,s.af⟩
def St.keep (s:St) (ts:List Nat) (m:Nat):St:={ env:=ts.map fun t=>(t,s.get t),af:=s.af.take m }
def WD (m:Nat):Option aG→Bool
 | some ob=>dW m ob
 | none=>true
def St.DR (s:St) (ts:List Nat) (m:Nat):Prop:=(ts.all fun t=>eN m (s.get t))=true∧((s.af.take m).all (WD m))=true∧m≤s.af.length
inductive Ad where
 | t (q:Nat) (et:TypeId) (aS:Nat)
 | b (o col:Nat) (et:TypeId) (aS:Nat)
def Ad.ap (s:St):Ad→St
 | .t q et aS=>if isNil (s.get q)=true then ⟨(q,.sl s.af.length 0 aS 0 0)::s.env,s.af++[some (.dat et aS [])]⟩ else s
 | .b o col et aS=>match s.obj o with
   | .live (.box bt cells)=>match cells[col]? with
     | some v=>if isNil v=true then ⟨s.env,s.af.set o (some (.box bt (cells.set col (.sl s.af.length 0 aS 0 0))))++[some (.dat et aS [])]⟩ else s
     | none=>s
   | _=>s
def b_:List Ad→St→St
 | [],s=>s
 | x::xs,s=>b_ xs (x.ap s)
def oD (G:Nat→Option (List DV)) (D:Dk) (N:Nat) (bx:Nat→cG) (J0:Nat→Prop) (cu:Nat→Nat→Option Nat) (w0:World) (s:St) (a:Act) (w:World):Prop:=At G D N bx J0 cu w0 s.get s.obj a w
def EO (G:Nat→Option (List DV)) (m:Nat) (s s':St):Prop:=∀ (D:Dk) (N:Nat) (bx:Nat→cG) (J0:Nat→Prop) (cu:Nat→Nat→Option Nat) (w0:World) (a:Act) (w:World),(∀ o n b,cu o n=some b→o<m)→oD G D N bx J0 cu w0 s a w→oD G D N bx J0 cu w0 s' a w
theorem EO.le {G:Nat→Option (List DV)} {m m':Nat} {s s':St} (h:m≤m') (k:EO G m' s s'):EO G m s s':=fun D N bx J0 cu w0 a w hm hA=>k D N bx J0 cu w0 a w (fun o n b hb=>Nat.lt_of_lt_of_le (hm o n b hb) h) hA
def Bk:Option Nat→Nat→Nat
 | none,m=>m
 | some B,m=>min B m
theorem Wc (b:Option Nat) (m:Nat):Bk b m≤m:=by
 cases b with
 | none=>exact Nat.le_refl _
 | some B=>exact Nat.min_le_right B m
def NN (b:Option Nat) (cu:Nat→Nat→Option Nat):Prop:=∀ B,b=some B→∀ o n x,cu o n=some x→o<B
theorem NN.no (cu:Nat→Nat→Option Nat):NN none cu:=fun _ h=>by cases h
theorem NN.lt {b:Option Nat} {cu:Nat→Nat→Option Nat} (h:NN b cu) {m:Nat} (hm:∀ o n x,cu o n=some x→o<m):∀ o n x,cu o n=some x→o<Bk b m:=by
 cases b with
 | none=>exact hm
 | some B=>exact fun o n x hx=>Nat.lt_min.2 ⟨h B rfl o n x hx,hm o n x hx⟩
def jr:LV:=.d (.val Go.undef)
def kz:LV:=.dM []
def sZ:List Nat→List LV→List (Nat×LV)→List (Nat×LV)
 | p::ps,a::as,env=>sZ ps as ((p,a)::env)
 | _,_,env=>env
def kq:C→Bool
 | .seq a b=>kq a&&kq b
 | .cond _ a b=>kq a&&kq b
 | .block _ b=>kq b
 | .loop b=>kq b
 | .scope b=>kq b
 | .Zz ..=>false
 | _=>true
def He (P:Program) (G:Nat→Option (List DV)) (k:Nat) (args:List LV) (af:List (Option aG)) (Y:YO) (R:LV→List (Option aG)→Prop):Prop:=
 ng P k=true∧∀ (D:Dk) (bx:Nat→cG) (J0:Nat→Prop) (cu:Nat→Nat→Option Nat) (w0:World) (J:Nat→Prop) (ι:Nat→Nat→Option Nat) (w:World) (vs:Array Value),D.ds=[]→D.xN=false→
  aJ G J w ι (aC af)→cA J w ι args vs.toList→Ext bx (aC af) J0 J cu ι w0 w→D.ys jr w→(∀ N,pM P G none Y D N bx J0 cu w0)→
  Calls P k vs w (fun e w'=>∃ v,e=.returned v∧∃ yv aA J' ι',R yv aA∧D.ys yv w'∧aJ G J' w' ι' (aC aA)∧Ext bx (aC aA) J0 J' cu ι' w0 w')
section
variable (P:Program) (G:Nat→Option (List DV))
def vc:C→St→xm→Prop
 | .skip,s,K=>K.n s
 | .pZ ops,s,K=>gK P G K.y (fun v s'=>K.x ij (j6 v s')) ops s K.n
 | .lS ops,s,K=>eX P G (fun v s'=>K.x ij (j6 v s')) ops s [] (fun s log=>indep log=true∧K.n s)
 | .seq a b,s,K=>vc a s { K with n:=fun s'=>vc b s' K }
 | .cond c a b,s,K=>match c.ev G s.get with
   | .d (.val (.bool t))=>if t=true then vc a s K else vc b s K
   | .dV=>vc a s K∧vc b s K
   | _=>False
 | .block i b,s,K=>vc b s { K with x:=fun j s'=>if j=i then K.n s' else K.x j s' }
 | .loop b,s,K=>∃ (ts:List Nat) (I:Nat→St→Prop) (N:Nat) (ad:List Ad),I N { (b_ ad s) with env:=ts.map fun t=>(t,(b_ ad s).get t) }∧
   ∀ k s',I k s'→vc b s' { K with n:=fun s''=>∃ j,j<k∧∃ s3,I j s3∧EO G (Bk K.b (b_ ad s).af.length) s'' s3 }
 | .exit i,s,K=>K.x i s
 | .ret,s,K=>K.r s
 | .scope b,s,K=>vc b s K
 | .Zz g ps a b,s,K=>match callee (g.ev G s.get) with
   | some (k,fs,cs)=>∃ (jm:Option Nat) (R:LV→List (Option aG)→Prop),He P G k (fs++[.yl s.af.length]++cs) (s.af++[none])
     (fun as af ys K'=>ys=jr∧as.head? = some (.yl s.af.length)∧as.tail.length=ps.length∧vc a ⟨sZ ps as.tail s.env,af⟩ ⟨fun s1=>vc b s1 ⟨fun s'=>K' jr true s'.af,fun i s'=>i≠ij∧jm=some i∧K' kz false s'.af,fun s'=>jm=none∧K' kz false s'.af,rV,none⟩,fun _ _=>False,fun _=>False,rV,none⟩) R∧
     ∀ yv aA,R yv aA→(yv=jr∧K.n ⟨s.env,aA⟩)∨(yv=kz∧match jm with | some i=>i≠ij∧K.x i ⟨s.env,aA⟩ | none=>K.r ⟨s.env,aA⟩)
   | none=>False
end
def HI (fP:List en):C:=match aaL fP with
 | some p=>match fP[p]? with
   | some io=>.seq (.lS (fP.take p)) (.seq (.pZ [io]) (.lS ((fP.drop (p+1)).map (DD (p+1)))))
   | none=>.lS fP
 | none=>.lS fP
def eT (P:Program) (N:Nat):Code→Option C
 | .skip=>some .skip
 | .region _ ops draw=>match ni P N ops draw with
   | some fP=>some (if draw then HI fP else .pZ fP)
   | none=>none
 | .seq a b=>match eT P N a,eT P N b with | some a,some b=>some (.seq a b) | _,_=>none
 | .cond c a b=>match aL c,eT P N a,eT P N b with | some c,some a,some b=>some (.cond c a b) | _,_,_=>none
 | .block i b=>match eT P N b with | some b=>if i=ij then none else some (.block i b) | none=>none
 | .loop b=>match eT P N b with | some b=>some (.loop b) | none=>none
 | .exit i=>if i=ij then none else some (.exit i)
 | .scope b=>match eT P N b with | some b=>some (.scope b) | none=>none
 | .ret=>some .ret
 | .label _=>some .skip
 | .rangeFunc g ps a b=>match aL g,eT P N a,eT P N b with
   | some g,some a,some b=>if (kq a&&kq b&&ps.toList.all fun p=>decide (p<N))=true then some (.Zz g ps.toList a b) else none
   | _,_,_=>none
 | _=>none
theorem mj (f:Nat→LV):∀ (ts:List Nat) (t:Nat),aY (ts.map fun t=>(t,f t)) t=if t∈ts then f t else .top
 | [],t=>by simp [aY]
 | x::ts,t=>by
   simp only [List.map_cons,aY,List.mem_cons,mj f ts t]
   by_cases h:x=t
   ·subst h; simp
   ·have:¬ t=x:=fun e=>h e.symm
    simp [h,this]
theorem OB:(∀ x:LV,rn (fun i=>i) x=x)∧(∀ xs:List LV,mT (fun i=>i) xs=xs):=by
 have one:∀ n,(∀ x:LV,sizeOf x<n→rn (fun i=>i) x=x)∧(∀ xs:List LV,sizeOf xs<n→mT (fun i=>i) xs=xs):=by
  intro n
  induction n with
  | zero=>exact ⟨fun _ h=>absurd h (by omega),fun _ h=>absurd h (by omega)⟩
  | succ n ih=>
    refine ⟨fun x hs=>?_,fun xs hs=>?_⟩
    ·cases x <;> simp only [rn] <;> simp at hs
     ·rw [ih.2 _ (by omega),ih.2 _ (by omega)]
     ·rw [ih.2 _ (by omega)]
     ·rw [ih.2 _ (by omega)]
     ·rw [ih.1 _ (by omega)]
    ·cases xs with
     | nil=>rfl
     | cons x xs=>
       simp at hs
       simp only [mT]
       rw [ih.1 _ (by omega),ih.2 _ (by omega)]
 exact ⟨fun x=>(one (sizeOf x+1)).1 x (by omega),fun xs=>(one (sizeOf xs+1)).2 xs (by omega)⟩
section
variable {P:Program} {G:Nat→Option (List DV)} {D:Dk} {N:Nat} {bx:Nat→cG} {J0:Nat→Prop} {cu:Nat→Nat→Option Nat} {w0:World}
def KQ (G:Nat→Option (List DV)) (D:Dk) (N:Nat) (bx:Nat→cG) (J0:Nat→Prop) (cu:Nat→Nat→Option Nat) (w0:World) (K:xm):Exit→Act→World→Prop
 | .normal,a,w=>∃ s,oD G D N bx J0 cu w0 s a w∧K.n s
 | .exit i,a,w=>i≠ij∧∃ s,oD G D N bx J0 cu w0 s a w∧K.x i s
 | .ret,a,w=>∃ s,oD G D N bx J0 cu w0 s a w∧K.r s
 | .panic ch,a,w=>∃ v s,ch=[{ v:=v,recovered:=false }]∧(D.xN=false→a.defers=D.ds)∧Wp G bx J0 cu w0 s.get s.obj a w∧K.x ij (j6 v s)
 | _,_,_=>False
theorem oD.bound {s:St} {a:Act} {w:World} (h:oD G D N bx J0 cu w0 s a w) {o n b:Nat} (hb:cu o n=some b):o<s.af.length:=by
 obtain ⟨J,ι,S,E⟩:=h.ex
 have h1:=E.ev.iy o n b hb
 rcases Nat.lt_or_ge o s.af.length with h2 | h2
 ·exact h2
 ·have:=S.store.rep o
  have hf:s.obj o=.free:=cW h2
  rw [hf] at this
  rw [this n] at h1; cases h1
theorem oD.abk {s:St} {a:Act} {w:World} (h:oD G D N bx J0 cu w0 s a w) (ts:List Nat):oD G D N bx J0 cu w0 { s with env:=ts.map fun t=>(t,s.get t) } a w:=by
 obtain ⟨J,ι,S,E⟩:=h.ex
 refine ⟨J,ι,⟨S.store,fun t=>?_,S.size,S.defers,?_,S.lim⟩,E⟩
 rotate_left
 ·show D.ys (aY (ts.map fun t=>(t,s.get t)) YS) _
  rw [mj]
  split
  ·exact S.ys
  ·exact D.top _
 show dz J w ι (aY (ts.map fun t=>(t,s.get t)) t) _
 rw [mj]
 split
 ·exact S.env t
 ·trivial
theorem oD.keep {s:St} {a:Act} {w:World} (h:oD G D N bx J0 cu w0 s a w) {ts:List Nat} {m:Nat} (hk:s.DR ts m) (hm:∀ o n b,cu o n=some b→o<m):oD G D N bx J0 cu w0 (s.keep ts m) a w:=by
 obtain ⟨J,ι,S,E⟩:=h.ex
 obtain ⟨h1,h2,h3⟩:=hk
 let ι':Nat→Nat→Option Nat:=fun o n=>if o<m then ι o n else none
 have gm:∀ o n b,o<m→ι ((fun i=>i) o) n=some b→ι' o n=some b:=fun o n b ho hb=>by simp only [ι',if_pos ho]; exact hb
 have BI:∀ o,(s.keep ts m).obj o=if o<m then s.obj o else .free:=by
  intro o
  show aC (s.af.take m) o=_
  by_cases ho:o<m
  ·rw [if_pos ho]
   simp only [St.obj,aC,List.getElem?_take_of_lt ho]
  ·rw [if_neg ho,cW (by simp; omega)]
 have hown:∀ o b,((s.keep ts m).obj o).own ι' o b→(s.obj o).own ι o b:=by
  intro o b hb
  rw [BI] at hb
  by_cases ho:o<m
  ·rw [if_pos ho] at hb
   exact (cG.lX (fun n=>by simp only [ι',if_pos ho])).1 hb
  ·rw [if_neg ho] at hb; exact hb.elim
 refine ⟨J,ι',⟨⟨fun o=>?_,fun o o' b k k'=>S.store.inj o o' b (hown o b k) (hown o' b k'),fun o b k=>S.store.sB o b (hown o b k),S.store.jcell,S.store.yx⟩,fun t=>?_,S.size,S.defers,?_,S.lim⟩,?_,?_⟩
 ·rw [BI]
  by_cases ho:o<m
  ·rw [if_pos ho]
   have hr:=S.store.rep o
   have hid:∀ ob,s.obj o=.live ob→dW m ob=true:=fun ob e_=>by
    rw [List.all_eq_true] at h2
    have:some ob∈s.af.take m:=by
     simp only [St.obj,aC] at e_
     split at e_
     ·cases e_
     ·cases e_
     ·rename_i ob' hh
      cases e_
      exact List.mem_of_getElem? (i:=o) (by rw [List.getElem?_take_of_lt ho]; exact hh)
    exact h2 _ this
   have hk:∀ n,ι' o n=ι o n:=fun n=>by simp only [ι',if_pos ho]
   cases hs:s.obj o with
   | free=>rw [hs] at hr; intro n; rw [hk]; exact hr n
   | dead=>trivial
   | live ob=>
     rw [hs] at hr
     have hi:=hid ob hs
     cases ob with
     | box et cells=>
       obtain ⟨⟨b,C,k1,k2,k3⟩,_⟩:=hr
       refine ⟨⟨b,C,by rw [hk]; exact k1,k2,bP.rn (k0:=m) (π:=fun i=>i) gm cells _ (by simpa [dW] using hi) (by rw [OB.2]; exact k3)⟩,trivial⟩
     | mp es=>
       obtain ⟨⟨b,C,c,k1,k2,k3⟩,_⟩:=hr
       refine ⟨⟨b,C,c,by rw [hk]; exact k1,k2,jd.rn (k0:=m) (π:=fun i=>i) gm es _ (by simpa [dW] using hi) ?_⟩,trivial⟩
       rw [show (es.map fun p=>(p.1,rn (fun i=>i) p.2))=es from by simp [OB.1]]; exact k3
     | dat et e rows=>
       obtain ⟨⟨k1,k2⟩,k3⟩:=hr
       exact ⟨⟨by rw [hk]; exact k1,fun b hb=>k2 b (by rw [← hk]; exact hb)⟩,fun n hn=>by rw [hk]; exact k3 n hn⟩
     | kK et e rows=>
       obtain ⟨⟨k1,k2⟩,k3⟩:=hr
       exact ⟨⟨by rw [hk]; exact k1,fun b hb=>k2 b (by rw [← hk]; exact hb)⟩,trivial⟩
  ·rw [if_neg ho]; intro n; simp only [ι',if_neg ho]
 ·show dz J w ι' (aY (ts.map fun t=>(t,s.get t)) t) _
  rw [mj]
  split
  ·rename_i ht
   rw [List.all_eq_true] at h1
   exact dz.rn (k0:=m) (π:=fun i=>i) gm _ _ (h1 t ht) (by rw [OB.1]; exact S.env t)
  ·trivial
 ·show D.ys (aY (ts.map fun t=>(t,s.get t)) YS) _
  rw [mj]
  split
  ·exact S.ys
  ·exact D.top _
 ·have hE:=E.ev
  exact ⟨hE.os,hE.tape,hE.output,hE.size,hE.same,hE.shape,hE.iw,hE.uY,fun o n b hb=>by simp only [ι',if_pos (hm o n b hb)]; exact hE.iy o n b hb⟩
 ·rintro b ⟨o,hb⟩
  exact E.own b ⟨o,hown o b hb⟩
theorem F6 {x:LV} (h:isNil x=true):x=.d (.val (.slice none 0 0)):=by
 unfold isNil at h
 split at h
 ·rfl
 ·cases h
theorem EO.keep {s:St} {ts:List Nat} {m:Nat} (hk:s.DR ts m):EO G m s (s.keep ts m):=fun _ _ _ _ _ _ _ _ hm h=>h.keep hk hm
theorem aJ.JP {J:Nat→Prop} {w:World} {ι:Nat→Nat→Option Nat} {obj:Nat→cG} (S:aJ G J w ι obj) {base:Nat} (hb:obj base=.free) (et:TypeId) (aS:Nat) :
  aJ G J w ι (fun o=>if o=base then .live (.dat et aS []) else obj o)∧Ext obj (fun o=>if o=base then .live (.dat et aS []) else obj o) J J ι ι w w:=by
 have hfree:∀ n,ι base n=none:=by have:=S.rep base; rw [hb] at this; exact this
 exact aJ.um S base (.live (.dat et aS [])) (Ev.refl (Own ι obj) J ι w) (fun _ _ _=>rfl) (fun _ _ _=>rfl)
  ⟨⟨.inl rfl,fun b hb=>by rw [hfree] at hb; cases hb⟩,fun n _=>hfree n⟩ (fun b hb=>by
    have:ι base 0=some b:=hb
    rw [hfree] at this; cases this)
theorem lD (l:List (Option aG)) (ob:aG):aC (l++[some ob])=fun o=>if o=l.length then .live ob else aC l o:=by
 funext o
 unfold aC
 rcases Nat.lt_trichotomy o l.length with h | h | h
 ·rw [List.getElem?_append_left h,if_neg (by omega)]
 ·subst h; simp
 ·rw [List.getElem?_eq_none (by simp; omega),if_neg (by omega),List.getElem?_eq_none (by omega)]
theorem bP.set {J:Nat→Prop} {w:World} {ι:Nat→Nat→Option Nat} : ∀ {xs:List LV} {vs:List Value} {i:Nat} {x y:LV},bP J w ι xs vs→xs[i]? = some x→(∀ v,dz J w ι x v→dz J w ι y v)→bP J w ι (xs.set i y) vs
 | [],[],i,x,y,_,h,_=>by simp at h
 | z::xs,v::vs,0,x,y,h,hx,hy=>by simp at hx; subst hx; exact ⟨h.1,hy v h.2.1,h.2.2⟩
 | z::xs,v::vs,i+1,x,y,h,hx,hy=>⟨h.1,h.2.1,bP.set h.2.2 (by simpa using hx) hy⟩
 | [],_::_,_,_,_,h,_,_=>h.elim
 | _::_,[],_,_,_,h,_,_=>h.elim
theorem oD.ap {s:St} {a:Act} {w:World} (h:oD G D N bx J0 cu w0 s a w) (x:Ad):oD G D N bx J0 cu w0 (x.ap s) a w:=by
 cases x with
 | t t et aS=>
   simp only [Ad.ap]
   split
   ·rename_i nN
    obtain ⟨J,ι,S,E⟩:=h.ex
    obtain ⟨S1,E1⟩:=aJ.JP S.store (base:=s.af.length) (cW (Nat.le_refl _)) et aS
    refine ⟨J,ι,⟨?_,fun t'=>?_,S.size,S.defers,?_,S.lim⟩,?_⟩
    ·show aJ G J w ι (aC (s.af++[some (.dat et aS [])]))
     rw [lD]; exact S1
    ·show dz J w ι (if t=t' then _ else aY s.env t') _
     split
     ·rename_i ht; subst ht
      have:=S.env t
      rw [F6 nN] at this
      exact .inl ⟨rfl,none,this⟩
     ·exact S.env t'
    ·show D.ys (if t=YS then _ else aY s.env YS) _
     split
     ·rename_i ht; subst ht
      exact D.tot _ _ nN S.ys _
     ·exact S.ys
    ·show Ext bx (aC (s.af++[some (.dat et aS [])])) J0 J cu ι w0 w
     rw [lD]; exact E.trans E1
   ·exact h
 | b o col et aS=>
   simp only [Ad.ap]
   split
   ·rename_i bt cells ho
    split
    ·rename_i v hv
     split
     ·rename_i nN
      obtain ⟨J,ι,S,E⟩:=h.ex
      obtain ⟨S1,E1⟩:=aJ.JP S.store (base:=s.af.length) (cW (Nat.le_refl _)) et aS
      have adm:=yQ ho
      have Qp:(if o=s.af.length then cG.live (.dat et aS []) else s.obj o)=.live (.box bt cells):=by rw [if_neg (by omega)]; exact ho
      have h0:=S1.rep o
      simp only [Qp] at h0
      obtain ⟨⟨b,C,h1,h2,h3⟩,_⟩:=h0
      have h4:bP J w ι (cells.set col (.sl s.af.length 0 aS 0 0)) C.toList:=h3.set hv (fun u hu=>by
       rw [F6 nN] at hu
       exact .inl ⟨rfl,none,hu⟩)
      obtain ⟨S2,E2⟩:=aJ.um S1 o (.live (.box bt (cells.set col (.sl s.af.length 0 aS 0 0)))) (Ev.refl _ J ι w) (fun _ _ _=>rfl) (fun _ _ _=>rfl)
       ⟨⟨b,C,h1,h2,h4⟩,trivial⟩ (fun k hk=>.inl (by simp only [Qp]; exact hk))
      have BI:aC (s.af.set o (some (.box bt (cells.set col (.sl s.af.length 0 aS 0 0))))++[some (.dat et aS [])])=fun q=>if q=o then .live (.box bt (cells.set col (.sl s.af.length 0 aS 0 0))) else if q=s.af.length then .live (.dat et aS []) else s.obj q:=by
       rw [lD,List.length_set]
       funext q
       by_cases hq:q=o
       ·subst hq
        rw [if_pos rfl,if_neg (by omega)]
        unfold aC
        rw [List.getElem?_set_self adm]
       ·rw [if_neg hq]
        by_cases IP:q=s.af.length
        ·rw [if_pos IP,if_pos IP]
        ·rw [if_neg IP,if_neg IP]
         simp only [aC,St.obj,List.getElem?_set_ne (fun e=>hq e.symm)]
      refine ⟨J,ι,⟨?_,S.env,S.size,S.defers,S.ys,S.lim⟩,?_⟩
      ·show aJ G J w ι (aC (_++_))
       rw [BI]; exact S2
      ·show Ext bx (aC (_++_)) J0 J cu ι w0 w
       rw [BI]; exact (E.trans E1).trans E2
     ·exact h
    ·exact h
   ·exact h
theorem oD.b_ {a:Act} {w:World} : ∀ (ad:List Ad) {s:St},oD G D N bx J0 cu w0 s a w→oD G D N bx J0 cu w0 (Dv.b_ ad s) a w
 | [],_,h=>h
 | x::xs,_,h=>oD.b_ xs (h.ap x)
end
def CN (w w':World):Prop:=∀ (b:Nat) (x:Obj),w.heap[b]? = some x→x.oa=true→w'.heap[b]? = some x
theorem CN.refl (w:World):CN w w:=fun _ _ h _=>h
theorem CN.trans {w w' w'':World} (h:CN w w') (k:CN w' w''):CN w w'':=fun b x hb hx=>k _ _ (h _ _ hb hx) hx
theorem CN.put {w:World} {l:Nat} {o0:Obj} (o:Obj) (h:w.heap[l]? = some o0) (hc:o0.oa=false):CN w (w.putObj l o):=by
 intro b x hb hx
 by_cases yY:b=l
 ·subst yY; rw [h] at hb; cases hb; rw [hc] at hx; cases hx
 ·rw [World.putObj_heap_other yY]; exact hb
theorem j7 {w:World} {o:Obj} {b:Nat} (hb:b<w.heap.size):(w.alloc o).heap[b]? = w.heap[b]?:=by
 show (w.heap.push o)[b]? = _
 rw [Array.getElem?_push,if_neg (Nat.ne_of_lt hb)]
theorem CN.alloc (w:World) (o:Obj):CN w (w.alloc o):=by
 intro b x hb _
 rw [j7 (Array.getElem?_eq_some_iff.1 hb).1]; exact hb
theorem CN.shape {w w':World} (h:CN w w') (b:Nat) (hs:(w.shape? b).isSome=true):w'.shape? b=w.shape? b:=by
 unfold World.shape? at hs ⊢
 split at hs
 ·rename_i C t f hb
  rw [h _ _ hb rfl]
 ·cases hs
section
variable {G:Nat→Option (List DV)} {J:Nat→Prop} {w w':World} {ι ι':Nat→Nat→Option Nat} {obj obj':Nat→cG}
theorem CN.j (S:aJ G J w ι obj) (h:CN w w') (b:Nat) (hb:J b):w'.heap[b]? = w.heap[b]?:=by
 obtain ⟨C,t,f,hc⟩:=S.jcell b hb
 rw [hc]; exact h _ _ hc rfl
theorem dz.cn (S:aJ G J w ι obj) (h:CN w w') (hi:∀ o n b,ι o n=some b→ι' o n=some b) {x:LV} {v:Value} (k:dz J w ι x v):dz J w' ι' x v:=
 dz.mono (fun _ h=>h) (h.j S) hi (fun b hb=>h.shape b hb) x v k
theorem bP.cn (S:aJ G J w ι obj) (h:CN w w') (hi:∀ o n b,ι o n=some b→ι' o n=some b) {x:List LV} {v:List Value} (k:bP J w ι x v):bP J w' ι' x v:=
 bP.mono (fun _ h=>h) (h.j S) hi (fun b hb=>h.shape b hb) x v k
theorem cA.cn (S:aJ G J w ι obj) (h:CN w w') (hi:∀ o n b,ι o n=some b→ι' o n=some b) {x:List LV} {v:List Value} (k:cA J w ι x v):cA J w' ι' x v:=
 cA.mono (fun _ h=>h) (h.j S) hi (fun b hb=>h.shape b hb) x v k
theorem aJ.cn (S:aJ G J w ι obj) (h:CN w w') (hi:∀ o n b,ι o n=some b→ι' o n=some b) (ho:∀ o,obj' o=.dead∨(obj' o=obj o∧∀ n,ι' o n=ι o n)):aJ G J w' ι' obj':=by
 have hown:∀ o b,(obj' o).own ι' o b→(obj o).own ι o b:=by
  intro o b hb
  rcases ho o with h1 | ⟨h1,h2⟩
  ·rw [h1] at hb; exact hb.elim
  ·rw [h1] at hb; exact (cG.lX h2).1 hb
 refine ⟨fun o=>?_,fun o o' b k k'=>S.inj o o' b (hown _ _ k) (hown _ _ k'),fun o b k=>S.sB o b (hown _ _ k),fun b hb=>?_,fun g row hg=>?_⟩
 ·rcases ho o with h1 | ⟨h1,hk⟩
  ·rw [h1]; trivial
  ·rw [h1]
   have hr:=S.rep o
   cases hs:obj o with
   | free=>rw [hs] at hr; intro n; rw [hk]; exact hr n
   | dead=>trivial
   | live ob=>
     rw [hs] at hr
     obtain ⟨hr,hkey⟩:=hr
     cases ob with
     | box et cells=>
       obtain ⟨b,C,h1,h2,h3⟩:=hr
       exact ⟨⟨b,C,by rw [hk]; exact h1,h _ _ h2 rfl,h3.cn S h hi⟩,trivial⟩
     | mp es=>
       obtain ⟨b,C,c,h1,h2,h3⟩:=hr
       exact ⟨⟨b,C,c,by rw [hk]; exact h1,h _ _ h2 rfl,jd.mono (fun _ h=>h) (h.j S) hi (fun b hb=>h.shape b hb) _ _ h3⟩,trivial⟩
     | dat et aS rows=>
       obtain ⟨h1,h2⟩:=hr
       refine ⟨⟨by rw [hk]; exact h1,fun b hb'=>?_⟩,fun n hn=>by rw [hk]; exact hkey n hn⟩
       rw [hk] at hb'
       obtain ⟨⟨C,h3⟩,h4⟩:=h2 b hb'
       exact ⟨⟨C,h _ _ h3 rfl⟩,bJ.mono (fun _ h=>h) (h.j S) aS rows b 0 (by rw [h3]; exact h _ _ h3 rfl) h4⟩
     | kK et aS rows=>
       obtain ⟨h1,h2⟩:=hr
       refine ⟨⟨by rw [hk]; exact h1,fun b hb'=>?_⟩,trivial⟩
       rw [hk] at hb'
       obtain ⟨h3,h4⟩:=h2 b hb'
       exact ⟨h3,bJ.mono (fun _ h=>h) (h.j S) aS rows b 0 (h.j S b h3) h4⟩
 ·obtain ⟨C,t,f,hc⟩:=S.jcell b hb
  exact ⟨C,t,f,h _ _ hc rfl⟩
 ·obtain ⟨h1,h2,t,h3⟩:=S.yx g row hg
  exact ⟨h1,dP.mono (fun _ h=>h) (h.j S) row g 0 (h.j S g h1) h2,t,by rw [h.shape g (by rw [h3]; rfl)]; exact h3⟩
theorem aJ.put {l:Nat} {o0:Obj} (o:Obj) (S:aJ G J w ι obj) (h:w.heap[l]? = some o0) (hc:o0.oa=false):aJ G J (w.putObj l o) ι obj:=
 S.cn (CN.put o h hc) (fun _ _ _ h=>h) (fun _=>.inr ⟨rfl,fun _=>rfl⟩)
theorem Ext.put {bx:Nat→cG} {J0:Nat→Prop} {cu:Nat→Nat→Option Nat} {w0:World} (E:Ext bx obj J0 J cu ι w0 w) {l:Nat} (o:Obj) {o0:Obj} (h:w.heap[l]? = some o0) (hc:o0.oa=false) (hl:w0.heap.size≤l) (ho:o.oa=false):Ext bx obj J0 J cu ι w0 (w.putObj l o):=by
 have hsz:(w.putObj l o).heap.size=w.heap.size:=World.putObj_size
 refine ⟨⟨E.ev.os,E.ev.tape,E.ev.output,by rw [hsz]; exact E.ev.size,fun b hb hn=>?_,fun b hb=>?_,E.ev.iw,E.ev.uY,E.ev.iy⟩,E.own⟩
 ·rw [World.putObj_heap_other (by omega)]; exact E.ev.same b hb hn
 ·rw [← E.ev.shape b hb]
  unfold World.shape?
  rw [World.putObj_heap_other (by omega)]
theorem AS:∀ (l:List (Nat×Value)) (t:Array Value),(l.foldl (fun t (p:Nat×Value)=>t.setIfInBounds p.1 p.2) t).size=t.size
 | [],_=>rfl
 | x::l,t=>by rw [List.foldl_cons,AS l]; simp
theorem Dh:∀ (ps:List Nat) (as:List LV) (vs:List Value) (env:List (Nat×LV)) (t:Array Value) (N:Nat),t.size=N→(∀ p∈ps,p<N)→as.length=ps.length→cA J w ι as vs→(∀ q,dz J w ι (aY env q) (t.getD q Go.undef))→
  ∀ q,dz J w ι (aY (sZ ps as env) q) (((ps.zip vs).foldl (fun t (p:Nat×Value)=>t.setIfInBounds p.1 p.2) t).getD q Go.undef)
 | [],as,vs,env,t,N,ht,hp,hl,hr,he,q=>by
   cases as with
   | nil=>simpa [sZ] using he q
   | cons _ _=>simp at hl
 | p::ps,[],vs,env,t,N,ht,hp,hl,hr,he,q=>by simp at hl
 | p::ps,a::as,[],env,t,N,ht,hp,hl,hr,he,q=>hr.elim
 | p::ps,a::as,v::vs,env,t,N,ht,hp,hl,hr,he,q=>by
   simp only [sZ,List.zip_cons_cons,List.foldl_cons]
   refine Dh ps as vs _ _ N (by simp [ht]) (fun q hq=>hp q (by simp [hq])) (by simpa using hl) hr.2 (fun q=>?_) q
   have hpN:p<t.size:=by rw [ht]; exact hp p (by simp)
   simp only [aY]
   by_cases hq:p=q
   ·subst hq
    rw [if_pos rfl]
    have:(t.setIfInBounds p v).getD p Go.undef=v:=by simp [Array.getD_eq_getD_getElem?,hpN]
    rw [this]; exact hr.1
   ·rw [if_neg hq]
    have:(t.setIfInBounds p v).getD q Go.undef=t.getD q Go.undef:=by
     simp [Array.getD_eq_getD_getElem?,Array.getElem?_setIfInBounds_ne hq]
    rw [this]; exact he q
end
section
variable {P:Program} {G:Nat→Option (List DV)}
theorem gV {b:Frame} {a:Act} {k:List Item} {cs:List Frame} {w:World} {c:Code} : step P (lone (b.atR a (.code (.scope c)::k)) cs w)=.next (lone (b.atR a (.code c::.inScope c::k)) cs w):=
 step_lone_go (by simp [stepG,stepG.exec,Frame.atR])
theorem zw {b:Frame} {a:Act} {k:List Item} {cs:List Frame} {w:World} {c:Code} : step P (lone (b.atR a (.inScope c::k)) cs w)=.next (lone (b.atR a k) cs w):=
 step_lone_go (by simp [stepG,stepG.exec,Frame.atR])
theorem sx {F:Fence} {n:Nat} {Q:Exit→Act→World→Prop} {a:Act} {w:World} {c:Code} (h:c.wpIn F n P (Exit.noGoto Q) a w):(Code.scope c).wpIn F n P Q a w:=by
 intro b k cs hro hb hr
 have h0:(lone (b.atR a (.code (.scope c)::k)) cs w).fenced P F:=fenced_calm hb hr rfl
 obtain ⟨e,a₁,w₁,hq,MM⟩:=h b (.inScope c::k) cs hro hb hr
 cases e with
 | normal=>exact ⟨.normal,a₁,w₁,hq,.head h0 gV (StepsIn.trans MM (.one (fenced_calm hb hr rfl) zw))⟩
 | exit id=>
   have hx:exitTo id (.inScope c::k)=exitTo id k:=by simp [exitTo]
   exact ⟨.exit id,a₁,w₁,hq,fun k' hk=>.head h0 gV (MM.1 k' (by rw [hx]; exact hk)),
    fun hr' hk=>let ⟨k₁,h1,h2⟩:=MM.2 hr' (by rw [hx]; exact hk); ⟨k₁,h1,.head h0 gV h2⟩⟩
 | goto l=>exact hq.elim
 | ret=>exact ⟨_,a₁,w₁,hq,.of_steps (.one h0 gV) MM⟩
 | panic ch=>exact ⟨_,a₁,w₁,hq,.of_steps (.one h0 gV) MM⟩
 | outgrown=>exact ⟨_,a₁,w₁,hq,.of_steps (.one h0 gV) MM⟩
def WK:Option Nat→Code
 | some i=>.exit i
 | none=>.ret
def Sg (l B:Nat) (rc:LoopState→Option Code→Loop) (jm:Option Nat) (v:LV) (w:World):Prop:=
 (v=jr→w.heap[l]? = some (.loop (rc .ready none)))∧(v=kz→w.heap[l]? = some (.loop (rc .done (some (WK jm)))))∧(v≠.top→w.heap[B]? = some (.deferred (some [])))∧isNil v=false
def Sh (l B:Nat) (rc:LoopState→Option Code→Loop) (jm:Option Nat):Dk where
 ds:=[]
 xN:=false
 lo:=0
 ys:=Sg l B rc jm
 keep:=fun v w w' h ⟨h1,h2,h4,h5⟩=>⟨(fun e=>h _ _ (h1 e) rfl),(fun e=>h _ _ (h2 e) rfl),(fun e=>h _ _ (h4 e) rfl),h5⟩
 top:=fun w=>⟨(fun h=>by cases h),(fun h=>by cases h),(fun h=>(h rfl).elim),rfl⟩
 tot:=fun v w h ⟨_,_,_,h5⟩=>by rw [h] at h5; cases h5
def qH (P:Program) (G:Nat→Option (List DV)) (jm:Option Nat) (ps:List Nat) (a b:C) (s:St):YO:=fun as af ys K'=>ys=jr∧as.head? = some (.yl s.af.length)∧as.tail.length=ps.length∧vc P G a ⟨sZ ps as.tail s.env,af⟩ ⟨fun s1=>vc P G b s1 ⟨fun s'=>K' jr true s'.af,fun i s'=>i≠ij∧jm=some i∧K' kz false s'.af,fun s'=>jm=none∧K' kz false s'.af,rV,none⟩,fun _ _=>False,fun _=>False,rV,none⟩
theorem LN {g:Operand} {ps:Array Tmp} {ca cb:Code} {N:Nat} {cg:bX} {xa xb:C} (h1:aL g=some cg) (aam:∀ x∈ps.toList,x<N) {nn:Nat} {D:Dk} {bx:Nat→cG} {J0:Nat→Prop} {cu:Nat→Nat→Option Nat} {w0:World} (hmk:D.xN=true) (hlo:D.lo≤w0.heap.size)
  (iha:∀ {ro:Option Nat} {nn:Nat} {D:Dk} {bx:Nat→cG} {J0:Nat→Prop} {cu:Nat→Nat→Option Nat} {w0:World} (s:St) (K:xm),vc P G xa s K→pM P G ro K.y D N bx J0 cu w0→NN K.b cu→∀ a w,oD G D N bx J0 cu w0 s a w→ca.wpIn (fz ro) nn P (KQ G D N bx J0 cu w0 K) a w)
  (ihb:∀ {ro:Option Nat} {nn:Nat} {D:Dk} {bx:Nat→cG} {J0:Nat→Prop} {cu:Nat→Nat→Option Nat} {w0:World} (s:St) (K:xm),vc P G xb s K→pM P G ro K.y D N bx J0 cu w0→NN K.b cu→∀ a w,oD G D N bx J0 cu w0 s a w→cb.wpIn (fz ro) nn P (KQ G D N bx J0 cu w0 K) a w)
  {s:St} {K:xm} {k:Nat} {fs cs:List LV} (jy:callee (cg.ev G s.get)=some (k,fs,cs)) (h:∃ (jm:Option Nat) (R:LV→List (Option aG)→Prop),He P G k (fs++[.yl s.af.length]++cs) (s.af++[none]) (qH P G jm ps.toList xa xb s) R∧
    ∀ yv aA,R yv aA→(yv=jr∧K.n ⟨s.env,aA⟩)∨(yv=kz∧match jm with | some i=>i≠ij∧K.x i ⟨s.env,aA⟩ | none=>K.r ⟨s.env,aA⟩)) (a:Act) (w:World) (hA:oD G D N bx J0 cu w0 s a w):(Code.rangeFunc g ps ca cb).wpIn (fz none) nn P (KQ G D N bx J0 cu w0 K) a w:=by
 obtain ⟨jm,R,⟨hent,hit⟩,hend⟩:=h
 obtain ⟨J,ι,S,E⟩:=hA.ex
 have AD:=bg S.store S.env h1
 obtain ⟨fs',cs',hval,Vo,hcs⟩:∃ fs' cs',a.eval g=.func (.func k) fs' cs'∧cA J w ι fs fs'.toList∧cA J w ι cs cs'.toList:=by
  have e0:cg.ev G (aY s.env)=cg.ev G s.get:=rfl
  rw [← e0] at jy
  change dz J w ι (cg.ev G (aY s.env)) _ at AD
  generalize cg.ev G (aY s.env)=x at jy AD
  unfold callee at jy
  split at jy
  ·cases jy
   obtain ⟨fs',cs',h1,h2,h3⟩:=AD
   exact ⟨fs',cs',h1,h2.BA,h3.BA⟩
  ·cases jy
   obtain ⟨fs',cs',h1,h2,h3⟩:=AD
   exact ⟨fs',cs',h1,h2,h3⟩
  ·cases jy
 have ad1:=E.ev.size
 refine wpIn_rangeFunc fun fn hfn=>?_
 let rc:LoopState→Option Code→Loop:=fun st pe=>{ state:=st,pending:=pe,fn,tmps:=a.tmps,params:=ps,assign:=ca,body:=cb,defers:=w.heap.size }
 let W1:=(w.alloc (.deferred (some []))).alloc (.loop (rc .ready none))
 have sz1:W1.heap.size=w.heap.size+2:=by simp [W1]
 have hL1:W1.heap[w.heap.size+1]? = some (.loop (rc .ready none)):=by
  have:=World.alloc_heap_new (w.alloc (.deferred (some []))) (.loop (rc .ready none)); rwa [World.size_alloc] at this
 have hD1:W1.heap[w.heap.size]? = some (.deferred (some [])):=(j7 (by simp)).trans (World.alloc_heap_new w _)
 have hCN:CN w W1:=(CN.alloc w _).trans (CN.alloc _ _)
 have acd:∀ b,b<w.heap.size→W1.heap[b]? = w.heap[b]?:=fun b hb=>(j7 (by simp; omega)).trans (j7 hb)
 let yD:Nat→Nat→Option Nat:=fun o n=>if o=s.af.length∧n=0 then some (w.heap.size+1) else ι o n
 have hfree:∀ n,ι s.af.length n=none:=by
  have h0:=S.store.rep s.af.length
  have hf:s.obj s.af.length=.free:=cW (Nat.le_refl _)
  rw [hf] at h0; exact h0
 have hi1:∀ o n b,ι o n=some b→yD o n=some b:=fun o n b hb=>by
  simp only [yD]
  rw [if_neg]
  ·exact hb
  ·rintro ⟨rfl,rfl⟩; rw [hfree] at hb; cases hb
 have YY:∀ o,aC (s.af++[none]) o=.dead∨(aC (s.af++[none]) o=s.obj o∧∀ n,yD o n=ι o n):=fun o=>by
  rcases Nat.lt_trichotomy o s.af.length with ho | ho | ho
  ·refine .inr ⟨?_,fun n=>?_⟩
   ·simp only [aC,St.obj,List.getElem?_append_left ho]
   ·simp only [yD]; rw [if_neg (fun h=>by omega)]
  ·subst ho; left; simp [aC]
  ·refine .inr ⟨?_,fun n=>?_⟩
   ·rw [cW (by simp; omega)]; exact (cW (by omega)).symm
   ·simp only [yD]; rw [if_neg (fun h=>by omega)]
 have S1:aJ G J W1 yD (aC (s.af++[none])):=S.store.cn hCN hi1 YY
 have AE:∀ b,Own yD s.obj b↔Own ι s.obj b:=fun b=>by
  constructor
  ·rintro ⟨o,ho⟩
   by_cases hol:o=s.af.length
   ·subst hol
    have hf:s.obj s.af.length=.free:=cW (Nat.le_refl _)
    rw [hf] at ho; exact ho.elim
   ·exact ⟨o,(cG.lX (fun n=>by simp only [yD]; rw [if_neg (fun h=>hol h.1)])).1 ho⟩
  ·rintro ⟨o,ho⟩
   by_cases hol:o=s.af.length
   ·subst hol
    have hf:s.obj s.af.length=.free:=cW (Nat.le_refl _)
    rw [hf] at ho; exact ho.elim
   ·exact ⟨o,(cG.lX (fun n=>by simp only [yD]; rw [if_neg (fun h=>hol h.1)])).2 ho⟩
 have E1:Ext s.obj (aC (s.af++[none])) J J yD yD w W1:=by
  refine ⟨⟨rfl,rfl,rfl,by omega,fun b hb _=>acd b hb,fun b hb=>?_,fun _ h=>h,fun _ h=>.inl h,fun _ _ _ h=>h⟩,fun b hb=>?_⟩
  ·unfold World.shape?; rw [acd b hb]
  ·obtain ⟨o,ho⟩:=hb
   rcases YY o with h1 | ⟨h1,h2⟩
   ·rw [h1] at ho; exact ho.elim
   ·rw [h1] at ho; exact .inl ⟨o,ho⟩
 -- from the ac_ aa5 on
 have back:∀ {o':Nat→cG} {J':Nat→Prop} {ι':Nat→Nat→Option Nat} {w':World},Ext s.obj o' J J' yD ι' w w'→Ext s.obj o' J J' ι ι' w w':=fun e=>
  ⟨⟨e.ev.os,e.ev.tape,e.ev.output,e.ev.size,fun b hb hn=>e.ev.same b hb (fun h=>hn ((AE b).1 h)),e.ev.shape,e.ev.iw,fun b hb=>(e.ev.uY b hb).imp id (fun h=>h.imp id (fun h=>(AE b).1 h)),fun o n b hb=>e.ev.iy o n b (hi1 o n b hb)⟩,fun b hb=>(e.own b hb).imp (fun h=>(AE b).1 h) id⟩
 refine ⟨w.heap.size+1,[{ target:=.collected w.heap.size,args:=#[] }],W1,{ target:=.fn (.func k) cs',args:=fs'++#[.func (.yield (w.heap.size+1)) #[] #[]] },W1,k,fs'++#[.func (.yield (w.heap.size+1)) #[] #[]]++cs',W1,run_enterLoop_outer _ _ _ _ _,?_,fun _ _=>trivial,?_,(fun hh=>by cases hh),?_⟩
 ·simp only [resolve,hval,Deferred.ofValue,Sem.run_pure]; simp [Act.eval]
 ·simp only [invoke]; exact oq hent _ _
 have hargs:cA J W1 yD (fs++[.yl s.af.length]++cs) (fs'++#[Value.func (.yield (w.heap.size+1)) #[] #[]]++cs').toList:=by
  simp only [Array.toList_append]
  have hy1:cA J W1 yD [.yl s.af.length] [Value.func (.yield (w.heap.size+1)) #[] #[]]:=⟨⟨w.heap.size+1,by simp [yD],rfl⟩,trivial⟩
  exact ((Vo.cn S.store hCN hi1).append hy1).append (hcs.cn S.store hCN hi1)
 have abV:Sg (w.heap.size+1) w.heap.size rc jm jr W1:=⟨(fun _=>hL1),(fun h=>by cases h),(fun _=>hD1),rfl⟩
 have aav:=hit (Sh (w.heap.size+1) w.heap.size rc jm) s.obj J yD w J yD W1 (fs'++#[.func (.yield (w.heap.size+1)) #[] #[]]++cs') rfl rfl S1 hargs E1 abV
 clear hit
 have Ek:∀ N_1,pM P G none (qH P G jm ps.toList xa xb s) (Sh (w.heap.size+1) w.heap.size rc jm) N_1 s.obj J yD w:=by
  clear aav
  intro Nit oy as af ys K' hYv get a2 w2 Gl hys y vs gm
  obtain ⟨ade,hhd,hlen,hv⟩:=hYv
  simp only [List.head?_cons,Option.some.injEq,LV.yl.injEq] at hhd
  subst hhd
  simp only [List.tail_cons] at hlen hv
  obtain ⟨J2,yC,S2,E2,lH,Vf⟩:=gm
  obtain ⟨b,hb,rfl⟩:=lH
  have yY:b=w.heap.size+1:=by
   have:=E2.ev.iy s.af.length 0 (w.heap.size+1) (by simp [yD])
   rw [this] at hb; cases hb; rfl
  subst yY
  refine ⟨_,rfl,fun n2=>?_⟩
  have qZ:Sg (w.heap.size+1) w.heap.size rc jm jr w2:=by
   have:=S2.ys
   rw [hys,ade] at this; exact this
  have hL2:=qZ.1 rfl
  have hD2:=qZ.2.2.1 (by simp [jr])
  have E2':=back E2
  have hvl:vs.length=ps.size:=by rw [← Vf.length]; simpa using hlen
  refine ⟨fn,_,ca,cb,run_yield (P:=P) (args:=vs.toArray) hL2 (by simpa using hvl),?_⟩
  refine roundIn_of_wpIn (F:=fz none) trivial ?_
  have II:(ps.zip vs.toArray).foldl (fun (tmps:Array Value) (p:Tmp×Value)=>tmps.setIfInBounds p.1 p.2) a.tmps=(ps.toList.zip vs).foldl (fun t (p:Nat×Value)=>t.setIfInBounds p.1 p.2) a.tmps:=by
   rw [← Array.foldl_toList]; simp [Array.toList_zip]
  have hA3:oD G (Dk.plain [] false) N (aC af) J2 yC w2 ⟨sZ ps.toList as s.env,af⟩ ⟨(ps.zip vs.toArray).foldl (fun (tmps:Array Value) (p:Tmp×Value)=>tmps.setIfInBounds p.1 p.2) a.tmps,[]⟩ w2:=by
   refine ⟨J2,yC,⟨S2.store,fun t=>?_,?_,Marks.plain _ _,trivial,S.lim⟩,Ext.refl ..⟩
   ·rw [II]
    exact Dh ps.toList as vs s.env a.tmps N S.size aam (by simpa using hlen) Vf (fun q=>(S.env q).ev S.store E2'.ev) t
   ·rw [II]; simp only [AS]; exact S.size
  refine wpIn_mono (iha (ro:=some (w.heap.size+1)) _ _ hv pM.no (NN.no _) _ _ hA3) ?_
  rintro e a3 w3 hq
  cases e with
  | normal=>
    obtain ⟨s1,hA4,hvb⟩:=hq
    obtain ⟨J3,Zk,S3,E3⟩:=hA4.ex
    have nc3:=E3.nc S2.store
    have Vx:=nc3 _ _ hL2 rfl
    have hD3:=nc3 _ _ hD2 rfl
    refine ⟨_,run_beginRound (P:=P) Vx rfl,?_⟩
    have S4:=S3.store.put (.loop { rc .ready none with state:=.busy }) Vx rfl
    have hL4:(w3.putObj (w.heap.size+1) (.loop { rc .ready none with state:=.busy })).heap[w.heap.size+1]? = some (.loop (rc .busy none)):=World.putObj_heap_same (Array.getElem?_eq_some_iff.1 Vx).1
    have hD4:(w3.putObj (w.heap.size+1) (.loop { rc .ready none with state:=.busy })).heap[w.heap.size]? = some (.deferred (some [])):=(World.putObj_heap_other (by omega)).trans hD3
    have CN3:=CN.put (.loop { rc .ready none with state:=.busy }) Vx rfl
    have hA5:oD G (Dk.plain [] false) N s1.obj J3 Zk (w3.putObj (w.heap.size+1) (.loop { rc .ready none with state:=.busy })) s1 a3 (w3.putObj (w.heap.size+1) (.loop { rc .ready none with state:=.busy })):=by
     refine ⟨J3,Zk,⟨S4,fun t=>(S3.env t).cn S3.store CN3 (fun _ _ _ h=>h),S3.size,?_,trivial,S3.lim⟩,Ext.refl ..⟩
     have:=S3.defers.none rfl
     rw [this]; exact Marks.plain _ _
    have E4:Ext s.obj s1.obj J J3 yD Zk w (w3.putObj (w.heap.size+1) (.loop { rc .ready none with state:=.busy })):=(E2.trans E3).put _ Vx rfl (by omega) rfl
    refine wpIn_mono (ihb (ro:=some (w.heap.size+1)) _ _ hvb pM.no (NN.no _) a3 _ hA5) ?_
    rintro e a5 w5 hq
    have close:∀ (s5:St) (pe:Option Code) (yv:LV) (bb:Bool),oD G (Dk.plain [] false) N s1.obj J3 Zk (w3.putObj (w.heap.size+1) (.loop { rc .ready none with state:=.busy })) s5 a5 w5→K' yv bb s5.af→bb=pe.isNone→(∀ (J:Nat→Prop) w ι,dz J w ι yv Go.undef)→
      (∀ w6:World,w6.heap[w.heap.size+1]? = some (.loop (rc (if pe.isNone then .ready else .done) pe))→w6.heap[w.heap.size]? = some (.deferred (some []))→Sg (w.heap.size+1) w.heap.size rc jm yv w6)→
      ∃ v w6,(Instr.endRound (w.heap.size+1) pe).run P w5=.ok v w6∧(fun (e:Ending) w'=>∃ ys' b aA,e=.returned (.bool b)∧K' ys' b aA∧∀ dst,(∀ d,dst=some d→d<Nit)→At G (Sh (w.heap.size+1) w.heap.size rc jm) Nit s.obj J yD w (gI dst (.bool b) (fun t=>if YS=t then ys' else get t)) (aC aA) (a2.put dst (.bool b)) w') (.returned v) w6:=by
     intro s5 pe yv bb hA6 hk hbb abS hrecv
     obtain ⟨J5,ι5,S5,E5⟩:=hA6.ex
     have nc5:=E5.nc S4
     have hL5:=nc5 _ _ hL4 rfl
     have hD5:=nc5 _ _ hD4 rfl
     have CN5:=CN.put (.loop { rc .busy none with state:=if pe.isNone then .ready else .done,pending:=pe }) hL5 rfl
     refine ⟨_,_,run_endRound (P:=P) pe hL5,yv,bb,s5.af,by rw [hbb],hk,fun dst hd=>?_⟩
     refine ⟨J5,ι5,⟨S5.store.put _ hL5 rfl,fun t=>?_,?_,?_,?_,S2.lim⟩,(E4.trans E5).put _ hL5 rfl (by omega) rfl⟩
     ·have hold:∀ t,dz J5 (w5.putObj (w.heap.size+1) (.loop { rc .busy none with state:=if pe.isNone then .ready else .done,pending:=pe })) ι5 (if YS=t then yv else get t) (a2.tmps.getD t Go.undef):=by
       intro t
       by_cases ht:YS=t
       ·rw [if_pos ht]
        have:a2.tmps.getD t Go.undef=Go.undef:=by
         have h1:=S2.size
         have h2:=S2.lim
         rw [Array.getD_eq_getD_getElem?,Array.getElem?_eq_none (by omega)]; rfl
        rw [this]; exact abS _ _ _
       ·rw [if_neg ht]
        exact ((((S2.env t).ev S2.store E3.ev).cn S3.store CN3 (fun _ _ _ h=>h)).ev S4 E5.ev).cn S5.store CN5 (fun _ _ _ h=>h)
      cases dst with
      | none=>simpa [gI,Act.put] using hold t
      | some d=>
        have Vp:=hd d rfl
        simp only [gI,Act.put,Option.some.injEq]
        by_cases ht:d=t
        ·subst ht
         rw [if_pos rfl]
         have:(a2.tmps.setIfInBounds d (.bool bb)).getD d Go.undef=.bool bb:=by simp [Array.getD_eq_getD_getElem?,S2.size,Vp]
         rw [this]; rfl
        ·rw [if_neg ht]
         have:(a2.tmps.setIfInBounds d (.bool bb)).getD t Go.undef=a2.tmps.getD t Go.undef:=by
          simp [Array.getD_eq_getD_getElem?,Array.getElem?_setIfInBounds_ne ht]
         rw [this]; exact hold t
     ·cases dst <;> simp [Act.put,S2.size]
     ·have h1:=S2.defers.none rfl
      have h2:(a2.put dst (.bool bb)).defers=a2.defers:=by cases dst <;> rfl
      rw [h2,h1]; exact Marks.plain (Sh (w.heap.size+1) w.heap.size rc jm) _
     ·have h2:gI dst (.bool bb) (fun t=>if YS=t then yv else get t) YS=yv:=by
       unfold gI
       rw [if_neg]
       ·simp
       ·intro h
        have h3:=hd YS h
        have:=S2.lim
        omega
      rw [h2]
      exact hrecv _ (World.putObj_heap_same (Array.getElem?_eq_some_iff.1 hL5).1) ((World.putObj_heap_other (by omega)).trans hD5)
    cases e with
    | normal=>
      obtain ⟨s5,hA6,hk⟩:=hq
      exact close s5 none jr true hA6 hk rfl (fun _ _ _=>rfl) (fun w6 h1 h2=>⟨(fun _=>h1),(fun h=>by cases h),(fun _=>h2),rfl⟩)
    | exit i=>
      obtain ⟨RM,s5,hA6,_,hjm,hk⟩:=hq
      subst hjm
      exact close s5 (some (.exit i)) kz false hA6 hk rfl (fun _ _ _=>⟨#[],rfl,trivial⟩) (fun w6 h1 h2=>⟨(fun h=>by cases h),(fun _=>h1),(fun _=>h2),rfl⟩)
    | ret=>
      obtain ⟨s5,hA6,hjm,hk⟩:=hq
      subst hjm
      exact close s5 (some .ret) kz false hA6 hk rfl (fun _ _ _=>⟨#[],rfl,trivial⟩) (fun w6 h1 h2=>⟨(fun h=>by cases h),(fun _=>h1),(fun _=>h2),rfl⟩)
    | goto l=>exact hq.elim
    | panic ch=>
      obtain ⟨v,s',_,_,_,hx,_⟩:=hq
      exact (hx rfl).elim
    | outgrown=>exact hq.elim
  | exit i=>exact hq.2.elim (fun _ h=>h.2)
  | ret=>exact hq.elim (fun _ h=>h.2)
  | goto l=>exact hq.elim
  | panic ch=>
    obtain ⟨v,s',_,_,_,hx⟩:=hq
    exact hx.elim
  | outgrown=>exact hq.elim
 refine om.2 (Calls.mono (aav Ek) ?_)
 clear aav Ek
 rintro e w3 ⟨v,rfl,yv,aA,J3,Zk,hR,qZ,S3,E3⟩
 have E3':=back E3
 have fin:∀ (st:LoopState) (pe:Option Code),w3.heap[w.heap.size+1]? = some (.loop (rc st pe))→w3.heap[w.heap.size]? = some (.deferred (some []))→
   oD G D N bx J0 cu w0 ⟨s.env,aA⟩ { a with defers:=[{ target:=.collected w.heap.size,args:=#[] }]++a.defers } (w3.putObj (w.heap.size+1) (.loop { rc st pe with state:=.exhausted })):=by
  intro st pe Vx hD3
  have CN3:=CN.put (.loop { rc st pe with state:=.exhausted }) Vx rfl
  have E4:=E3'.put (.loop { rc st pe with state:=.exhausted }) Vx rfl (by omega) rfl
  have nc:j9 w (w3.putObj (w.heap.size+1) (.loop { rc st pe with state:=.exhausted })):=E4.nc S.store
  refine ⟨J3,Zk,⟨S3.put _ Vx rfl,fun t=>((S.env t).ev S.store E3'.ev).cn S3 CN3 (fun _ _ _ h=>h),S.size,?_,D.keep _ _ _ nc S.ys,S.lim⟩,E.trans E4⟩
  obtain ⟨Bs,h1,h2,h3,h4⟩:=S.defers
  refine ⟨w.heap.size::Bs,(fun h=>by rw [hmk] at h; cases h),List.nodup_cons.2 ⟨fun h=>?_,h2⟩,by simp [h3],fun b hb=>?_⟩
  ·have:=(Array.getElem?_eq_some_iff.1 (h4 _ h).2).1
   omega
  ·rcases List.mem_cons.1 hb with rfl | hb
   ·exact ⟨by omega,(World.putObj_heap_other (by omega)).trans hD3⟩
   ·exact ⟨(h4 b hb).1,nc _ _ (h4 b hb).2 rfl⟩
 rcases hend yv aA hR with ⟨rfl,hk⟩ | ⟨rfl,hk⟩
 ·exact ⟨none,_,run_endLoop (P:=P) (qZ.1 rfl) (by simp [rc]),_,fin _ _ (qZ.1 rfl) (qZ.2.2.1 (by simp [jr])),hk⟩
 ·refine ⟨some (WK jm),_,run_endLoop (P:=P) (qZ.2.1 rfl) (by simp [rc]),?_⟩
  have hf:=fin _ _ (qZ.2.1 rfl) (qZ.2.2.1 (by simp [kz]))
  cases jm with
  | none=>exact wpIn_ret ⟨_,hf,hk⟩
  | some i=>exact wpIn_exit ⟨hk.1,_,hf,hk.2⟩
theorem eW:∀ (code:Code) (c:C) {N:Nat},eT P N code=some c→∀ {ro:Option Nat} {nn:Nat} {D:Dk} {bx:Nat→cG} {J0:Nat→Prop} {cu:Nat→Nat→Option Nat} {w0:World} (hrf:kq c=true∨(ro=none∧D.xN=true∧D.lo≤w0.heap.size)) (s:St) (K:xm),vc P G c s K→pM P G ro K.y D N bx J0 cu w0→NN K.b cu→∀ a w,oD G D N bx J0 cu w0 s a w→code.wpIn (fz ro) nn P (KQ G D N bx J0 cu w0 K) a w
 | .skip,c,N,hc,ro,nn,D,bx,J0,cu,w0,hrf,s,K,h,hY,hB,a,w,hA=>by
   simp only [eT] at hc; cases hc
   exact wpIn_skip ⟨s,hA,h⟩
 | .region rid ops draw,c,N,hc,ro,nn,D,bx,J0,cu,w0,hrf,s,K,h,hY,hB,a,w,hA=>by
   simp only [eT] at hc
   split at hc
   ·rename_i fP BK
    cases hc
    cases draw with
    | false=>
      simp only [Bool.false_eq_true,if_false,vc] at h
      simp only [ni,Bool.false_eq_true,if_false] at BK
      obtain ⟨h1,h2⟩:=nk BK
      exact wpIn_region_list (v_ hY (K:=K.n) (fun s a w hA hK=>⟨s,hA,hK⟩) (fun v s a w hd hO hX=>⟨v,s,rfl,hd,hO,hX⟩) _ _ _ _ _ h1 h2 h hA)
    | true=>
      simp only [if_true] at h
      unfold HI at h
      split at h
      ·rename_i p hp
       split at h
       ·rename_i io oC
        simp only [vc] at h
        exact Rl hY (K:=K.n) (fun s a w hA hK=>⟨s,hA,hK⟩) (fun v s a w hd hO hX=>⟨v,s,rfl,hd,hO,hX⟩) BK oC (List.find?_some hp) h hA
       ·simp only [vc] at h
        exact AX (K:=K.n) (fun s a w hA hK=>⟨s,hA,hK⟩) (fun v s a w hd hO hX=>⟨v,s,rfl,hd,hO,hX⟩) BK h hA
      ·simp only [vc] at h
       exact AX (K:=K.n) (fun s a w hA hK=>⟨s,hA,hK⟩) (fun v s a w hd hO hX=>⟨v,s,rfl,hd,hO,hX⟩) BK h hA
   ·cases hc
 | .seq x y,c,N,hc,ro,nn,D,bx,J0,cu,w0,hrf,s,K,h,hY,hB,a,w,hA=>by
   simp only [eT] at hc
   split at hc
   ·rename_i cx cy h1 h2
    cases hc
    have cC:kq cx=true∨(ro=none∧D.xN=true∧D.lo≤w0.heap.size):=hrf.imp (fun h=>by simp only [kq,Bool.and_eq_true] at h; exact h.1) id
    have lH:kq cy=true∨(ro=none∧D.xN=true∧D.lo≤w0.heap.size):=hrf.imp (fun h=>by simp only [kq,Bool.and_eq_true] at h; exact h.2) id
    refine wpIn_seq (wpIn_mono (eW x cx h1 cC s _ h hY hB a w hA) (fun e a' w' hq=>?_))
    cases e with
    | normal=>obtain ⟨s',vh,hk⟩:=hq; exact eW y cy h2 lH s' K hk hY hB a' w' vh
    | exit i=>exact hq
    | ret=>exact hq
    | goto l=>exact hq.elim
    | panic ch=>exact hq
    | outgrown=>exact hq.elim
   ·cases hc
 | .cond x y z,c,N,hc,ro,nn,D,bx,J0,cu,w0,hrf,s,K,h,hY,hB,a,w,hA=>by
   simp only [eT] at hc
   split at hc
   ·rename_i cx cy cz h1 h2 h3
    cases hc
    have lH:kq cy=true∨(ro=none∧D.xN=true∧D.lo≤w0.heap.size):=hrf.imp (fun h=>by simp only [kq,Bool.and_eq_true] at h; exact h.1) id
    have hrz:kq cz=true∨(ro=none∧D.xN=true∧D.lo≤w0.heap.size):=hrf.imp (fun h=>by simp only [kq,Bool.and_eq_true] at h; exact h.2) id
    simp only [vc] at h
    split at h
    ·rename_i t ht
     have hv:a.eval x=.bool t:=by
      obtain ⟨J,ι,S,E⟩:=hA.ex
      have hr:=bg S.store S.env h1
      rw [ht] at hr
      exact hr
     exact wpIn_cond_split hv (fun hh=>eW y cy h2 lH s K (by rw [if_pos hh] at h; exact h) hY hB a w hA) (fun hh=>eW z cz h3 hrz s K (by rw [if_neg (by simp [hh])] at h; exact h) hY hB a w hA)
    ·rename_i ht
     obtain ⟨t,hv⟩:∃ t,a.eval x=.bool t:=by
      obtain ⟨J,ι,S,E⟩:=hA.ex
      have hr:=bg S.store S.env h1
      rw [ht] at hr
      exact hr
     exact wpIn_cond_split hv (fun hh=>eW y cy h2 lH s K h.1 hY hB a w hA) (fun hh=>eW z cz h3 hrz s K h.2 hY hB a w hA)
    ·exact h.elim
   ·cases hc
 | .block i x,c,N,hc,ro,nn,D,bx,J0,cu,w0,hrf,s,K,h,hY,hB,a,w,hA=>by
   simp only [eT] at hc
   split at hc
   ·rename_i cx h1
    by_cases RM:i=ij
    ·rw [if_pos RM] at hc; cases hc
    rw [if_neg RM] at hc
    cases hc
    refine wpIn_block (wpIn_mono (eW x cx h1 hrf s _ h hY hB a w hA) (fun e a' w' hq=>?_))
    cases e with
    | normal=>exact hq
    | exit j=>
      obtain ⟨hjP,s',vh,hk⟩:=hq
      simp only [Exit.inBlock]
      dsimp only at hk
      by_cases hj:j=i
      ·rw [if_pos hj] at hk ⊢; exact ⟨s',vh,hk⟩
      ·rw [if_neg hj] at hk ⊢; exact ⟨hjP,s',vh,hk⟩
    | ret=>exact hq
    | goto l=>exact hq.elim
    | panic ch=>
      obtain ⟨v,s',h1,h2,h3,hk⟩:=hq
      dsimp only at hk
      rw [if_neg (fun e=>RM e.symm)] at hk
      exact ⟨v,s',h1,h2,h3,hk⟩
    | outgrown=>exact hq.elim
   ·cases hc
 | .loop x,c,N,hc,ro,nn,D,bx,J0,cu,w0,hrf,s,K,h,hY,hB,a,w,hA=>by
   simp only [eT] at hc
   split at hc
   ·rename_i cx h1
    cases hc
    simp only [vc] at h
    obtain ⟨ts,I,M,ad,hI,hstep⟩:=h
    replace hA:=hA.b_ ad
    have hm:∀ o n b,cu o n=some b→o<(b_ ad s).af.length:=fun o n b hb=>hA.bound hb
    have key:∀ n k s' a w,k<n→I k s'→oD G D N bx J0 cu w0 s' a w→Code.roundsIn (fz ro) nn P x (KQ G D N bx J0 cu w0 K) n a w:=by
     intro n
     induction n with
     | zero=>intro k _ _ _ hk; omega
     | succ n ih=>
       intro k s' a w hk hIk vh
       rw [roundsIn_succ]
       refine wpIn_mono (eW x cx h1 hrf s' _ (hstep k s' hIk) hY hB a w vh) (fun e a' w' hq=>?_)
       cases e with
       | normal=>
         obtain ⟨s'',adP,j,hj,s3,hIj,himp⟩:=hq
         exact ih j _ a' w' (by omega) hIj (himp _ _ _ _ _ _ _ _ (hB.lt hm) adP)
       | exit i=>exact hq
       | ret=>exact hq
       | goto l=>exact hq.elim
       | panic ch=>exact hq
       | outgrown=>exact hq.elim
    exact wpIn_loop_rounds (M+1) (key (M+1) M _ a w (by omega) hI (hA.abk ts))
   ·cases hc
 | .exit i,c,N,hc,ro,nn,D,bx,J0,cu,w0,hrf,s,K,h,hY,hB,a,w,hA=>by
   simp only [eT] at hc
   by_cases RM:i=ij
   ·rw [if_pos RM] at hc; cases hc
   rw [if_neg RM] at hc
   cases hc
   exact wpIn_exit ⟨RM,s,hA,h⟩
 | .scope x,c,N,hc,ro,nn,D,bx,J0,cu,w0,hrf,s,K,h,hY,hB,a,w,hA=>by
   simp only [eT] at hc
   split at hc
   ·rename_i cx h1
    cases hc
    refine sx (wpIn_mono (eW x cx h1 hrf s K h hY hB a w hA) (fun e a' w' hq=>?_))
    cases e with
    | normal=>exact hq
    | exit i=>exact hq
    | ret=>exact hq
    | goto l=>exact hq.elim
    | panic ch=>exact hq
    | outgrown=>exact hq.elim
   ·cases hc
 | .ret,c,N,hc,ro,nn,D,bx,J0,cu,w0,hrf,s,K,h,hY,hB,a,w,hA=>by
   simp only [eT] at hc; cases hc
   exact wpIn_ret ⟨s,hA,h⟩
 | .label _,c,N,hc,ro,nn,D,bx,J0,cu,w0,hrf,s,K,h,hY,hB,a,w,hA=>by
   simp only [eT] at hc; cases hc
   exact wpIn_label ⟨s,hA,h⟩
 | .goto _,c,N,hc,_,_,_,_,_,_,_,_,_,_,_,_,_,_,_,_=>by simp [eT] at hc
 | .refuse _,c,N,hc,_,_,_,_,_,_,_,_,_,_,_,_,_,_,_,_=>by simp [eT] at hc
 | .rangeFunc g ps ca cb,c,N,hc,ro,nn,D,bx,J0,cu,w0,hrf,s,K,h,hY,hB,a,w,hA=>by
   simp only [eT] at hc
   split at hc
   ·rename_i cg xa xb h1 h2 h3
    split at hc
    ·rename_i hok
     cases hc
     simp only [Bool.and_eq_true,List.all_eq_true,decide_eq_true_eq] at hok
     obtain ⟨⟨hna,hnb⟩,aam⟩:=hok
     obtain ⟨hro,hmk,hlo⟩:ro=none∧D.xN=true∧D.lo≤w0.heap.size:=hrf.resolve_left (by simp [kq])
     subst hro
     simp only [vc] at h
     split at h
     ·rename_i k fs cs jy
      exact LN h1 aam hmk hlo (fun s K h hY hB a w hA=>eW ca xa h2 (.inl hna) s K h hY hB a w hA) (fun s K h hY hB a w hA=>eW cb xb h3 (.inl hnb) s K h hY hB a w hA) jy h a w hA
     ·exact h.elim
    ·cases hc
   ·cases hc
end
def RV.of (s:St):RV→Option LV
 | .t n=>some (s.get n)
 | .c1 n=>match s.get n with
   | .ptr o col=>match s.obj o with
     | .live (.box _ cells)=>cells[col]?
     | _=>none
   | _=>none
 | .cn n size=>match s.get n with
   | .ptr o col=>match s.obj o with
     | .live (.box _ cells)=>if ((cells.drop col).take size).length=size then some (.agg ((cells.drop col).take size)) else none
     | _=>none
   | _=>none
def yB.of (s:St):List RV→Option (List LV)
 | []=>some []
 | x::xs=>match x.of s,yB.of s xs with
   | some v,some vs=>some (v::vs)
   | _,_=>none
def aV:List LV→LV
 | [x]=>x
 | xs=>.dM xs
def EF (P:Program):ResultVar→Option RV
 | .tmp t=>some (.t t)
 | .cell a T=>match oz P T,dX P T with
   | some true,some n=>some (.cn a n)
   | some false,some _=>some (.c1 a)
   | _,_=>none
def pH (P:Program):List ResultVar→Option (List RV)
 | []=>some []
 | x::xs=>match EF P x,pH P xs with
   | some y,some ys=>some (y::ys)
   | _,_=>none
def aj (P:Program) (fn:Func):Option (Nat×C×List RV):=match fn.body with
 | some code=>match eT P fn.ntmps code,pH P fn.results.toList with
   | some c,some rv=>if fn.ntmps≤YS then some (fn.ntmps,c,rv) else none
   | _,_=>none
 | none=>none
def fB:Nat→List LV→List (Nat×LV)
 | _,[]=>[]
 | k,x::xs=>(k,x)::fB (k+1) xs
def ac0 (rv:List RV) (k:Nat) (r:LV) (ax:List aG) (s:St):Prop:=
 ∃ vs ρ Z,yB.of s rv=some vs∧ρ.take k=List.range k∧ρ.Nodup∧(∀ z∈Z,z∉ρ)∧(∀ z∈Z,∃ et e rows,s.obj z=.live (.dat et e rows)∨s.obj z=.live (.kK et e rows))∧ax.length=ρ.length∧
   (∀ (i o:Nat),ρ[i]? = some o→∃ ob,ax[i]? = some ob∧s.obj o=.live (fq (bC ρ 0) ob))∧ax.all (dW ρ.length)=true∧ah s.obj ρ Z (aV vs) r
def sE (rv:List RV) (k:Nat) (r:LV) (ax:List aG) (s:St):Prop:=∃ ad,ac0 rv k r ax (b_ ad s)
def Fz (tmps:Array Value):ResultVar→Sem Value
 | .tmp q=>pure (tmps.getD q Go.undef)
 | .cell p T=>do loadVar T (← asAddr (tmps.getD p Go.undef))
theorem tn (fn:Func) (tmps:Array Value):results fn tmps=(do let vs ← fn.results.mapM (Fz tmps); pure (if h:vs.size=1 then vs[0] else .tuple vs)):=rfl
section
variable {P:Program} {G:Nat→Option (List DV)} {N:Nat} {J:Nat→Prop} {w:World} {ι:Nat→Nat→Option Nat}
theorem RV.sound {s:St} {a:Act} (S:aJ G J w ι s.obj) (he:∀ t,dz J w ι (s.get t) (a.tmps.getD t Go.undef)) {x:ResultVar} {y:RV} (hc:EF P x=some y) {r:LV} (hr:y.of s=some r) :
  ∃ v,(Fz a.tmps x).run P w=.ok v w∧dz J w ι r v:=by
 cases x with
 | tmp q=>
   simp only [EF] at hc; cases hc
   simp only [RV.of] at hr; cases hr
   exact ⟨_,rfl,he q⟩
 | cell p T=>
   simp only [EF] at hc
   split at hc
   ·rename_i n ha hs
    cases hc
    simp only [RV.of] at hr
    split at hr
    ·rename_i o col hg
     split at hr
     ·rename_i et cells ho
      split at hr
      ·rename_i hl
       cases hr
       have hp:=he p
       rw [hg] at hp
       obtain ⟨b,hb,hv⟩:=hp
       have h0:=S.rep o
       rw [ho] at h0
       obtain ⟨⟨b',Cc,h1,h2,h3⟩,_⟩:=h0
       rw [hb] at h1; cases h1
       have h4:=(h3.drop col).take n
       have hrun:=DI (P:=P) ha hs (lT h2 col n) (by rw [← h4.length,hl])
       refine ⟨_,?_,⟨_,rfl,by simpa using h4⟩⟩
       simp only [Fz]
       rw [hv]
       simpa [Instr.loadAt,Instr.sureAddr,asAddr] using hrun
      ·cases hr
     ·cases hr
    ·cases hr
   ·rename_i n ha hs
    cases hc
    simp only [RV.of] at hr
    split at hr
    ·rename_i o col hg
     split at hr
     ·rename_i et cells ho
      have hp:=he p
      rw [hg] at hp
      obtain ⟨b,hb,hv⟩:=hp
      have h0:=S.rep o
      rw [ho] at h0
      obtain ⟨⟨b',Cc,h1,h2,h3⟩,_⟩:=h0
      rw [hb] at h1; cases h1
      obtain ⟨u,hu,_,IK⟩:=h3.get hr
      have hrun:=yI (P:=P) (w:=w) ha (b:=b) (o:=col) (v:=u) (by rw [cell_of_row w b col Cc et _ h2]; simpa using hu)
      refine ⟨u,?_,IK⟩
      simp only [Fz]
      rw [hv]
      simpa [Instr.loadAt,Instr.sureAddr,asAddr] using hrun
     ·cases hr
    ·cases hr
   ·cases hc
theorem yB.sound {s:St} {a:Act} (S:aJ G J w ι s.obj) (he:∀ t,dz J w ι (s.get t) (a.tmps.getD t Go.undef)):∀ {xs:List ResultVar} {ys:List RV},pH P xs=some ys→∀ {rs:List LV},yB.of s ys=some rs→
  ∃ vs,(xs.mapM (Fz a.tmps)).run P w=.ok vs w∧cA J w ι rs vs
 | [],ys,hc,rs,hr=>by
   simp only [pH] at hc; cases hc
   simp only [yB.of] at hr; cases hr
   exact ⟨[],rfl,trivial⟩
 | x::xs,ys,hc,rs,hr=>by
   simp only [pH] at hc
   split at hc
   ·rename_i y ys' h1 h2
    cases hc
    simp only [yB.of] at hr
    split at hr
    ·rename_i v vs h3 h4
     cases hr
     obtain ⟨u,hu,IK⟩:=RV.sound S he h1 h3
     obtain ⟨us,RK,BH⟩:=yB.sound S he h2 h4
     refine ⟨u::us,?_,IK,BH⟩
     rw [List.mapM_cons,Sem.run_bind,hu]
     simp only [Result.andThen_ok,Sem.run_bind,RK,Sem.run_pure]
    ·cases hr
   ·cases hc
theorem mG:∀ (xs:List LV) (vs:List Value) (k t:Nat),cA J w ι xs vs→dz J w ι (aY (fB k xs) t) (if k≤t then (vs[t-k]?).getD Go.undef else Go.undef)
 | [],[],k,t,_=>trivial
 | x::xs,v::vs,k,t,h=>by
   simp only [fB,aY]
   by_cases hk:k=t
   ·subst hk; simpa using h.1
   ·rw [if_neg hk]
    have:=mG xs vs (k+1) t h.2
    by_cases hlt:k≤t
    ·rw [if_pos (by omega)] at this
     rw [if_pos hlt]
     have e:t-k=(t-(k+1))+1:=by omega
     rw [e]; simpa using this
    ·rw [if_neg (by omega)] at this
     rw [if_neg hlt]; exact this
 | [],_::_,_,_,h=>h.elim
 | _::_,[],_,_,h=>h.elim
theorem uX {n:Nat} {fn:Func} {tmps:Array Value} {R:Ending→World→Prop} {obj bx:Nat→cG} {J0:Nat→Prop} {cu:Nat→Nat→Option Nat} {w0:World} {get:Nat→LV}
  (fin:∀ w,aJ G J w ι obj→(∀ t,dz J w ι (get t) (tmps.getD t Go.undef))→Ext bx obj J0 J cu ι w0 w→∃ v,(results fn tmps).run P w=.ok v w∧R (.returned v) w) :
  ∀ (Bs:List Nat) (w:World),Bs.Nodup→(∀ b∈Bs,w0.heap.size≤b∧w.heap[b]? = some (.deferred (some [])))→aJ G J w ι obj→(∀ t,dz J w ι (get t) (tmps.getD t Go.undef))→Ext bx obj J0 J cu ι w0 w→
    LeavesInM (fz none) n P fn tmps R (Bs.map fun b=>{ target:=.collected b,args:=#[] }) .returning w
 | [],w,_,_,S,he,E=>fin w S he E
 | b::Bs,w,hn,hb,S,he,E=>by
   obtain ⟨h1,h2⟩:=hb b (by simp)
   have hn':=List.nodup_cons.1 hn
   have CN3:=CN.put (.deferred none) h2 rfl
   refine ⟨by simp,.inl ⟨b,_,rfl,run_takeDeferred (P:=P) h2,?_⟩⟩
   refine uX fin Bs _ hn'.2 (fun b' hb'=>?_) (S.put _ h2 rfl) (fun t=>(he t).cn S CN3 (fun _ _ _ h=>h)) (E.put _ h2 rfl h1 rfl)
   have hne:b'≠b:=fun e=>hn'.1 (e ▸ hb')
   exact ⟨(hb b' (by simp [hb'])).1,(World.putObj_heap_other hne).trans (hb b' (by simp [hb'])).2⟩
theorem JV {f:Nat} {fn:Func} {c:C} {rv:List RV} {args:List LV} {aI ax:List aG} {r:LV} (hf:P.funcs[f]? = some fn) (hn:fn.name≠ "runtime.NumGoroutine") (gR:aj P fn=some (N,c,rv)) (hl:args.length≤N) (bb:Option Nat)
  (h:vc P G c ⟨fB 0 args,aI.map some⟩ ⟨sE rv aI.length r ax,fun _ _=>False,sE rv aI.length r ax,rV,bb⟩) (hbb:∀ B,bb=some B→aI.length≤B):bu P G f args aI r ax:=by
 unfold aj at gR
 split at gR
 ·rename_i code hbody
  split at gR
  ·rename_i c' rv' hc MF
   split at gR
   case isFalse=>cases gR
   rename_i hlim
   cases gR
   refine ⟨by simp [ng,hf,hn,hbody],fun J0 cu w0 vs S0 hargs=>?_⟩
   have hvl:vs.size=args.length:=by have:=hargs.length; simpa using this.symm
   refine (om (ro:=none) (n:=0)).1 (callsIn_of_wp_marks hf hbody trivial (wpIn_mono (eW (N:=fn.ntmps) (D:=Dk.plain [] true w0.heap.size) (bx:=aC (aI.map some)) (J0:=J0) (cu:=cu) (w0:=w0) code c hc (.inr ⟨rfl,rfl,Nat.le_refl _⟩) _ _ h pM.no (fun B hB o n x hx=>Nat.lt_of_not_le (fun ho=>by
    have:=S0.rep o
    rw [cW (by have:=hbb B hB; simp; omega)] at this
    rw [this n] at hx; cases hx)) _ w0 ⟨J0,cu,⟨S0,fun t=>?_,?_,Marks.plain _ _,trivial,hlim⟩,Ext.refl ..⟩) (fun e a w hq=>?_)))
   ·have h1:=mG args vs.toList 0 t hargs
    simp only [Nat.zero_le,if_true,Nat.sub_zero] at h1
    have h2:(vs++Array.replicate (fn.ntmps-vs.size) Go.undef).getD t Go.undef=(vs.toList[t]?).getD Go.undef:=by
     simp only [Array.getD_eq_getD_getElem?,Array.getElem?_append,Array.getElem?_toList]
     by_cases ht:t<vs.size
     ·rw [if_pos ht]
     ·rw [if_neg ht,Array.getElem?_eq_none (Nat.le_of_not_lt ht),Array.getElem?_replicate]
      split <;> rfl
    rw [h2]; exact h1
   ·simp; omega
   ·have fin:∀ s,oD G (Dk.plain [] true w0.heap.size) fn.ntmps (aC (aI.map some)) J0 cu w0 s a w→sE rv aI.length r ax s→
     LeavesInM (fz none) 0 P fn a.tmps (fun e w'=>∃ v,e=.returned v∧bn G (aC (aI.map some)) (aC (ax.map some)) J0 cu w0 r v w') a.defers .returning w:=by
     intro s hA hB
     obtain ⟨ad,hB⟩:=hB
     replace hA:=hA.b_ ad
     generalize b_ ad s=s at hA hB
     obtain ⟨J,ι,S,E⟩:=hA.ex
     obtain ⟨rs,ρ,Z,CP,hk,hnd,hz,yw,hlen,e_,hid,hR⟩:=hB
     obtain ⟨Bs,_,hBn,hBd,hBm⟩:=S.defers
     have acB:a.defers=Bs.map (fun b=>{ target:=.collected b,args:=#[] }):=by rw [hBd]; simp [Dk.plain]
     rw [acB]
     refine uX (get:=s.get) ?_ Bs w hBn hBm S.store S.env E
     clear hA hBm
     have acV:=S.env
     have Sst:=S.store
     clear S E hBd acB
     intro w Sst acV E
     obtain ⟨us,RK,BH⟩:=yB.sound Sst acV MF CP
     have hm:(fn.results.mapM (Fz a.tmps)).run P w=.ok us.toArray w:=by
      rw [Array.mapM_eq_mapM_toList,Sem.run_map,RK]; rfl
     have hv:∃ v,(results fn a.tmps).run P w=.ok v w∧dz J w ι (aV rs) v:=by
      refine ⟨if h:us.toArray.size=1 then us.toArray[0] else .tuple us.toArray,?_,?_⟩
      ·rw [tn,Sem.run_bind,hm]
       rfl
      ·have Qe:=BH.length
       cases rs with
       | nil=>
         cases us with
         | nil=>exact ⟨#[],rfl,trivial⟩
         | cons _ _=>simp at Qe
       | cons x xs=>
         cases us with
         | nil=>simp at Qe
         | cons u us=>
           cases xs with
           | nil=>
             cases us with
             | nil=>exact BH.1
             | cons _ _=>simp at Qe
           | cons y ys=>
             cases us with
             | nil=>simp at Qe
             | cons u2 us=>exact ⟨_,by simp,BH⟩
     obtain ⟨v,hv1,IG⟩:=hv
     refine ⟨v,hv1,v,rfl,?_⟩
     obtain ⟨S',hown⟩:=Sst.sub (base:=0) hnd hz hlen e_ hid yw
     refine ⟨_,_,S',mF Sst _ _ v hR IG,⟨E.ev.os,E.ev.tape,E.ev.output,E.ev.size,E.ev.same,E.ev.shape,fun b hb=>.inl (E.ev.iw b hb),fun b hb=>?_,fun o n b hb=>?_⟩,?_⟩
     ·rcases hb with hb | ⟨z,YT,KJ⟩
      ·exact E.ev.uY b hb
      ·rcases E.own b ⟨z,KJ⟩ with h1 | h1
       ·exact .inr (.inr h1)
       ·exact .inr (.inl h1)
     ·have ho:o<aI.length:=by
       rcases Nat.lt_or_ge o aI.length with h1 | h1
       ·exact h1
       ·have:=S0.rep o
        rw [cW (by simpa using h1)] at this
        rw [this n] at hb; cases hb
      have adb:ρ[o]? = some o:=by
       have h1:(ρ.take aI.length)[o]? = some o:=by rw [hk]; simp [ho]
       rwa [List.getElem?_take_of_lt ho] at h1
      exact lP adb (E.ev.iy o n b hb)
     ·rintro b ⟨i,hb⟩
      obtain ⟨o,_,h2⟩:=hown i b hb
      exact E.own b ⟨o,h2⟩
    cases e with
    | normal=>obtain ⟨s,hA,hB⟩:=hq; exact fin s hA hB
    | ret=>obtain ⟨s,hA,hB⟩:=hq; exact fin s hA hB
    | exit i=>obtain ⟨_,s,hA,hB⟩:=hq; exact hB.elim
    | goto l=>exact hq.elim
    | panic ch=>obtain ⟨v,s,h1,h2,h3,hk⟩:=hq; exact hk.elim
    | outgrown=>exact hq.elim
  ·cases gR
 ·cases gR
theorem zh {f:Nat} {fn:Func} {c:C} {rv:List RV} {args:List LV} {aI ax:List aG} {r:LV} (hf:P.funcs[f]? = some fn) (hn:fn.name≠ "runtime.NumGoroutine") (gR:aj P fn=some (N,c,rv)) (hl:args.length≤N)
  (h:vc P G c ⟨fB 0 args,aI.map some⟩ ⟨sE rv aI.length r ax,fun _ _=>False,sE rv aI.length r ax,rV,none⟩):bu P G f args aI r ax:=
 JV hf hn gR hl none h (fun _ h=>by cases h)
theorem Ks {f:Nat} {fn:Func} {c:C} {rv:List RV} {args:List LV} {af:List (Option aG)} {Y:YO} {R:LV→List (Option aG)→Prop} (hf:P.funcs[f]? = some fn) (hn:fn.name≠ "runtime.NumGoroutine") (gR:aj P fn=some (N,c,rv)) (hl:args.length≤N) (IT:kq c=true)
  (h:vc P G c ⟨(YS,jr)::fB 0 args,af⟩ ⟨fun s=>R (s.get YS) s.af∧rv=[],fun _ _=>False,fun s=>R (s.get YS) s.af∧rv=[],Y,none⟩):He P G f args af Y R:=by
 unfold aj at gR
 split at gR
 ·rename_i code hbody
  split at gR
  ·rename_i c' rv' hc MF
   split at gR
   case isFalse=>cases gR
   rename_i hlim
   cases gR
   refine ⟨by simp [ng,hf,hn,hbody],fun D bx J0 cu w0 J ι w vs hds hmk S0 hargs E0 hys hY=>?_⟩
   have hvl:vs.size=args.length:=by have:=hargs.length; simpa using this.symm
   refine (om (ro:=none) (n:=0)).1 (callsIn_of_wp hf hbody trivial (wpIn_mono (eW (N:=fn.ntmps) (D:=D) (bx:=bx) (J0:=J0) (cu:=cu) (w0:=w0) code c hc (.inl IT) _ _ h (hY _) (NN.no _) _ w ⟨J,ι,⟨S0,fun t=>?_,?_,?_,?_,hlim⟩,E0⟩) (fun e a w hq=>?_)))
   ·have hsz:(vs++Array.replicate (fn.ntmps-vs.size) Go.undef).size=fn.ntmps:=by simp; omega
    show dz J w ι (if YS=t then jr else aY (fB 0 args) t) _
    by_cases ht:YS=t
    ·rw [if_pos ht]
     have:(vs++Array.replicate (fn.ntmps-vs.size) Go.undef).getD t Go.undef=Go.undef:=by
      rw [Array.getD_eq_getD_getElem?,Array.getElem?_eq_none (by omega)]; rfl
     rw [this]; rfl
    rw [if_neg ht]
    have h1:=mG args vs.toList 0 t hargs
    simp only [Nat.zero_le,if_true,Nat.sub_zero] at h1
    have h2:(vs++Array.replicate (fn.ntmps-vs.size) Go.undef).getD t Go.undef=(vs.toList[t]?).getD Go.undef:=by
     simp only [Array.getD_eq_getD_getElem?,Array.getElem?_append,Array.getElem?_toList]
     by_cases ht:t<vs.size
     ·rw [if_pos ht]
     ·rw [if_neg ht,Array.getElem?_eq_none (Nat.le_of_not_lt ht),Array.getElem?_replicate]
      split <;> rfl
    rw [h2]; exact h1
   ·simp; omega
   ·show Marks D [] _
    rw [← hds]; exact Marks.plain _ _
   ·exact hys
   ·have fin:∀ s,oD G D fn.ntmps bx J0 cu w0 s a w→R (s.get YS) s.af∧rv=[]→
     a.defers=[]∧∃ v,(results fn a.tmps).run P w=.ok v w∧(fun (e:Ending) w'=>∃ v,e=.returned v∧∃ yv aA J' ι',R yv aA∧D.ys yv w'∧aJ G J' w' ι' (aC aA)∧Ext bx (aC aA) J0 J' cu ι' w0 w') (.returned v) w:=by
     intro s hA hB
     obtain ⟨J,ι,S,E⟩:=hA.ex
     have hd:a.defers=[]:=by rw [S.defers.none hmk,hds]
     refine ⟨hd,?_⟩
     obtain ⟨hR,rfl⟩:=hB
     obtain ⟨us,RK,BH⟩:=yB.sound S.store S.env MF (rs:=[]) rfl
     have hm:(fn.results.mapM (Fz a.tmps)).run P w=.ok us.toArray w:=by
      rw [Array.mapM_eq_mapM_toList,Sem.run_map,RK]; rfl
     refine ⟨if h:us.toArray.size=1 then us.toArray[0] else .tuple us.toArray,?_,_,rfl,_,_,J,ι,hR,S.ys,S.store,E⟩
     rw [tn,Sem.run_bind,hm]
     rfl
    cases e with
    | normal=>obtain ⟨s,hA,hB⟩:=hq; exact fin s hA hB
    | ret=>obtain ⟨s,hA,hB⟩:=hq; exact fin s hA hB
    | exit i=>obtain ⟨_,s,hA,hB⟩:=hq; exact hB.elim
    | goto l=>exact hq.elim
    | panic ch=>obtain ⟨v,s,h1,h2,h3,hk⟩:=hq; exact hk.elim
    | outgrown=>exact hq.elim
  ·cases gR
 ·cases gR
end
end Dv
