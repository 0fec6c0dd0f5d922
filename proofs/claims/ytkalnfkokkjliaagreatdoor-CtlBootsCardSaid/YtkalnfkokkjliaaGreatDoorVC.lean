/- The logical machine and its plain laws: parts V22, V12, V13, V14, V15, V16, proved sound. -/
import Derived.Test.YtkalnfkokkjliaaGreatDoorVB
import Derived.Laws.BytesString
import Derived.OwnWalk
import Derived.MapKept
import Derived.Laws.LoneSync
import Derived.LoopN
import Derived.OwnWalkIn
import Derived.RangeFuncCalls
import Derived.RangeFuncIn
import Derived.RangeFuncNested
import Derived.RangeFuncBound
import Derived.Scope
import Derived.Below
import Derived.LoopNIn
import Derived.RangeFuncLeaves
set_option linter.unusedVariables false
set_option linter.unusedSimpArgs false
namespace Dv
open Go
def BX:Operand→Operand→Bool
 | .tmp i,.tmp j=>i==j
 | .const (.int k a),.const (.int k' b)=>k==k'&&a==b
 | _,_=>false
theorem Dy {x y:Operand} (h:BX x y=true) (a:Act):a.eval x=a.eval y:=by
 unfold BX at h
 split at h
 ·rename_i i j
  have:i=j:=by simpa using h
  rw [this]
 ·simp only [Bool.and_eq_true,beq_iff_eq] at h
  rw [h.1,h.2]
 ·cases h
def yU (P:Program) (t:TypeId):Bool:=match P.underlying t with
 | some (.int .i64)=>true
 | _=>false
theorem Ep {P:Program} {t:TypeId} (h:yU P t=true):P.underlying t=some (.int .i64):=by
 unfold yU at h
 split at h
 ·assumption
 ·cases h
def iL (P:Program):Op→Option M
 | .slice T x lo hi none=>match aL x,fN lo,fN hi,P.underlying T with
   | some x,some lo,some hi,some (.array n e)=>if dZ P e=some 1 then some (.YV n x lo hi) else none
   | _,_,_,_=>none
 | .call ⟨.builtin .copy,args,ts⟩=>match args.toList,ts.toList with
   | [x,y],[tx,ty]=>match aL x,aL y,P.underlying tx with
     | some x,some y,some (.slice e)=>if dZ P e=some 1∧L4 P ty=true then some (.cpy x y) else none
     | _,_,_=>none
   | _,_=>none
 | .makeSlice T l c=>match aL l,P.underlying T with
   | some n,some (.slice e)=>match o8 P e,wk P e with
     | some z,some (size,bytes)=>if BX l c=true∧z.length=size then some (.vW e size bytes z n) else none
     | _,_=>none
   | _,_=>none
 | .convert S T x=>match aL x,P.underlying S,P.underlying T with
   | some x,some (.slice e),some .string=>match P.underlying e with
     | some (.int .u8)=>some (.b2s x)
     | _=>none
   | _,_,_=>none
 | .unOp .xor _ x=>match aL x with
   | some x=>some (.cpl x)
   | none=>none
 | .call ⟨.builtin .clear,args,ts⟩=>match args.toList,ts.toList with
   | [x],[tx]=>match aL x,P.underlying tx with
     | some x,some (.slice e)=>match o8 P e,dZ P e with
       | some z,some n=>if z.length=n then some (.clr n z x) else none
       | _,_=>none
     | _,_=>none
   | _,_=>none
 | .makeMap _ none=>some .Yv
 | .mapUpdate T m k x=>match aL m,aL k,aL x,P.underlying T with
   | some m,some k,some x,some (.map kt _)=>if yU P kt=true then some (.Yu m k x) else none
   | _,_,_,_=>none
 | .insert T m k x=>match aL m,aL k,aL x,P.underlying T with
   | some m,some k,some x,some (.map kt _)=>if yU P kt=true then some (.Yu m k x) else none
   | _,_,_,_=>none
 | .lookup T m k ok=>match aL m,aL k,P.underlying T with
   | some m,some k,some (.map kt et)=>match P.info? et with
     | some i=>match i.zero with
       | some z=>if yU P kt=true then some (.Y9 z ok m k) else none
       | none=>none
     | none=>none
   | _,_,_=>none
 | _=>none
/-- sync/atomic's loads and adds. -/
def zy (P:Program):Op→Option M
 | .call ⟨.value (.func f),args,_⟩=>match P.funcs[f]? with
   | some fn=>if fn.body.isNone=true∧fn.origin = "" then
     (if fn.name = "sync/atomic.LoadInt64" then (match args.toList with
      | [x]=>match aL x with
        | some x=>some (.YP x)
        | none=>none
      | _=>none)
     else if fn.name = "sync/atomic.AddInt64" then (match args.toList with
      | [x,y]=>match aL x,aL y with
        | some x,some y=>some (.YQ x y)
        | _,_=>none
      | _=>none)
     else none) else none
   | none=>none
 | _=>none
def mE (P:Program) (op:Op):Option I:=match zy P op with
 | some m=>some (.more m)
 | none=>match cV P op with
   | some i=>some i
   | none=>match iL P op with
     | some m=>some (.more m)
     | none=>some (.more .stk)
theorem wq {P:Program} {op:Op} {i:I} (h:mE P op=some i):cV P op=some i∨∃ m,i=.more m∧(iL P op=some m∨zy P op=some m∨m=.stk):=by
 unfold mE at h
 split at h
 ·rename_i m hm; cases h; exact .inr ⟨m,rfl,.inr (.inl hm)⟩
 ·split at h
  ·rename_i j hj; cases h; exact .inl hj
  ·split at h
   ·rename_i m hm; cases h; exact .inr ⟨m,rfl,.inl hm⟩
   ·cases h; exact .inr ⟨_,rfl,.inr (.inr rfl)⟩
theorem sW {P:Program} {op:Op} {f:bY} {as:List bY} (h:mE P op=some (.call f as)):cV P op=some (.call f as):=by
 rcases wq h with h | ⟨m,h,_⟩
 ·exact h
 ·cases h
theorem Oe {fn:Func} (h:fn.name = "sync/atomic.AddInt64"):Extern.find fn=some (Extern.Atomic.update (Op.intArith .add) .i64 true):=by
 unfold Extern.find
 rw [h]
 kernel_rfl
theorem KG {fn:Func} (h:fn.name = "sync/atomic.LoadInt64"):Extern.find fn=some (Extern.Atomic.loadT (.int .i64)):=by
 unfold Extern.find
 rw [h]
 kernel_rfl
theorem MH {fn:Func} (h:fn.name = "sync/atomic.AddInt64") (h2:fn.origin = ""):Extern.findNext fn=none:=by
 unfold Extern.findNext
 rw [h2,h]
 kernel_rfl
theorem JH {fn:Func} (h:fn.name = "sync/atomic.LoadInt64") (h2:fn.origin = ""):Extern.findNext fn=none:=by
 unfold Extern.findNext
 rw [h2,h]
 kernel_rfl
section
variable {P:Program} {G:Nat→Option (List DV)} {J:Nat→Prop} {w w':World} {ι:Nat→Nat→Option Nat} {obj:Nat→cW} {a:Act} {get:Nat→LV} {base:Nat}
theorem Ph {T e:TypeId} {n:Nat} (hu:P.underlying T=some (.array n e)) (hs:dZ P e=some 1) {b col l h:Nat} {lo hi:Option Value} (h1:BV lo 0 l) (h2:BV hi n h) (k1:l≤h) (k2:h≤n) (w:World) :
  (Instr.sliceAt T (.pointer (some ⟨b,col,none⟩)) lo hi none).run P w=.ok (.slice (some ⟨b,if n=l then col else col+l,none⟩) (h-l) (n-l)) w:=by
 obtain ⟨i,hi',hn⟩:=cC hs
 obtain ⟨m',p1,p2,hrun⟩:=kB (P:=P) (b:=false) (mx:=none) (cap:=n) h1 h2 (.inl ⟨rfl,rfl⟩) k1 k2 (Nat.le_refl _) (Nat.le_refl _) (.inl rfl) w
 have hm:m'=n:=by omega
 subst hm
 have hsz:(Go.sizeOf e).run P w=.ok 1 w:=by simp [Go.sizeOf,typeInfo,hi',hn]
 simp only [Instr.sliceAt,Sem.run_bind,run_underlying hu w,Result.andThen_ok,Instr.sureAddr,Sem.run_pure,hrun,hsz]
 split <;> simp [Addr.add_mid]
theorem S8 {m:M} {e:fA} (h:gh G get obj base m=some e):∀ p∈e.wr,∃ ob,obj p.1=.live ob:=by
 intro p hp
 cases m <;> simp only [gh] at h <;> (repeat' split at h) <;> (try (cases h; done)) <;> cases h <;> first
  | (cases hp; done)
  | (simp only [List.mem_singleton] at hp; subst hp; exact ⟨_,by assumption⟩)
theorem Jo (S:aN G J w ι obj) (he:∀ t,dF J w ι (get t) (a.tmps.getD t Go.undef)) {X:Operand} {x:bY} (hx:aL X=some x) {lo hi:Option Operand} {lo' hi':Option bY} (hl:fN lo=some lo') (hh:fN hi=some hi')
  {T el:TypeId} {n:Nat} (hu:P.underlying T=some (.array n el)) (hs:dZ P el=some 1) {e:fA} (hE:gh G get obj base (.YV n x lo' hi')=some e) :
  ∃ v,(Instr.sliceAt T (a.eval X) (lo.map a.eval) (hi.map a.eval) none).run P w=.ok v w∧dF J w ι e.r v∧e.nw=[]∧e.wr=[]:=by
 have cD:=bp S he hx
 simp only [gh] at hE
 split at hE
 ·rename_i o col eu
  rw [eu] at cD
  obtain ⟨b,hb,hv⟩:=cD
  split at hE
  ·rename_i et cells ho
   split at hE
   ·rename_i l h b1 b2
    split at hE
    ·rename_i hc
     obtain ⟨k1,k2,k3⟩:=hc
     cases hE
     have hrun:=Ph (P:=P) hu hs (b:=b) (col:=col) (kL S he hl b1) (kL S he hh b2) k1 k2 w
     refine ⟨_,by rw [hv]; exact hrun,?_,rfl,rfl⟩
     have h0:=S.rep o
     rw [ho] at h0
     obtain ⟨⟨b',C,m1,m2,m3⟩,_⟩:=h0
     rw [hb] at m1; cases m1
     by_cases hz:n=l
     ·left
      rw [show n-l=0 by omega,show h-l=0 by omega]
      exact ⟨rfl,_,rfl⟩
     ·right
      refine ⟨b,n-l,et,C.size,hb,by rw [if_neg hz,Nat.mul_one],by omega,by simp [World.shape?,m2],?_⟩
      have:=m3.length
      simp at this; omega
    ·cases hE
   ·cases hE
  ·cases hE
 ·cases hE
theorem vJ {α:Type} {rows news:List (List α)} {aV lo:Nat} (h1:∀ r∈rows,r.length=aV) (h2:∀ r∈news,r.length=aV):(splice rows lo news).flatten=splice rows.flatten (lo*aV) news.flatten:=by
 have key:∀ (l:List (List α)) (n:Nat),(∀ r∈l,r.length=aV)→(l.take n).flatten=l.flatten.take (n*aV)∧(l.drop n).flatten=l.flatten.drop (n*aV):=by
  intro l
  induction l with
  | nil=>intro n _; simp
  | cons r l ih=>
    intro n hl
    have hr:=hl r (by simp)
    cases n with
    | zero=>simp
    | succ n=>
      obtain ⟨i1,i2⟩:=ih n (fun x hx=>hl x (by simp [hx]))
      rw [List.take_succ_cons,List.drop_succ_cons,List.flatten_cons,List.flatten_cons,i1,i2,Nat.add_mul,Nat.one_mul,List.take_append,List.drop_append]
      rw [show n*aV+aV-r.length=n*aV by omega,List.take_of_length_le (l:=r) (by omega),List.drop_eq_nil_of_le (as:=r) (by omega)]
      simp
 have hlen:news.flatten.length=news.length*aV:=by
  clear key
  induction news with
  | nil=>simp
  | cons r l ih=>
    have hr:=h2 r (by simp)
    rw [List.flatten_cons,List.length_append,ih (fun x hx=>h2 x (by simp [hx])),hr,List.length_cons,Nat.add_mul]; omega
 unfold splice
 rw [List.flatten_append,List.flatten_append,(key rows lo h1).1,(key rows (lo+news.length) h1).2,hlen,Nat.add_mul]
theorem bB.setRows (S:aN G J w ι obj) {o:Nat} {et:TypeId} {aV:Nat} {rows news:List (List DV)} {lo:Nat} {vs:List Value} (ho:obj o=.live (.dat et aV rows))
  (h:bJ J w news.flatten vs) (Aa:∀ v∈vs,v.oneCell'=true) (hn:∀ r∈news,r.length=aV) (hl:lo+news.length≤rows.length) (hne:rows≠[]) :
  ∃ b,ι o rows.length=some b∧w.there b (lo*aV) vs.length∧
    bB G obj (fun k=>if k=o then .live (.dat et aV (splice rows lo news)) else obj k) J ι w .undef Go.undef (w.setCells b (lo*aV) vs):=by
 have h0:=S.rep o
 rw [ho] at h0
 obtain ⟨⟨hsome,NM⟩,hkey⟩:=h0
 obtain ⟨b,h1⟩:=Option.isSome_iff_exists.1 (hsome.resolve_left hne)
 obtain ⟨⟨C,h2⟩,h3⟩:=NM b h1
 have hown:Own ι obj b:=⟨o,by rw [ho]; exact h1⟩
 have E:Ev (Own ι obj) J J ι ι w (w.setCells b (lo*aV) vs):=Ev.setCells J w b _ vs hown (fun _ _ _ h=>h)
 obtain ⟨aav,hfl⟩:=h3.flat
 have hrl:∀ r∈rows,r.length=aV:=fun r hr=>by
  obtain ⟨i,hi⟩:=List.getElem?_of_mem hr
  exact (h3.get hi).1
 obtain ⟨us,u1,u2,u3⟩:=aav.vals
 have Nf:us.length=rows.length*aV:=by rw [← hfl]; exact u1.length.symm
 have hnl:news.flatten.length=news.length*aV:=by
  have:=vJ (rows:=([]:List (List DV))) (news:=news) (lo:=0) (by simp) hn
  clear this
  clear h hl
  induction news with
  | nil=>simp
  | cons r l ih=>
    have hr:=hn r (by simp)
    rw [List.flatten_cons,List.length_append,ih (fun x hx=>hn x (by simp [hx])),hr,List.length_cons,Nat.add_mul]; omega
 have hvl:vs.length=news.length*aV:=by rw [← hnl]; exact h.length.symm
 have hroom:lo*aV+vs.length≤us.length:=by
  rw [hvl,Nf,← Nat.add_mul]; exact Nat.mul_le_mul_right _ hl
 have sN:w.there b (lo*aV) vs.length:=fun j hj=>by
  have hj2:lo*aV+j<us.length:=by omega
  have:=u3 (lo*aV+j) us[lo*aV+j] (List.getElem?_eq_getElem hj2)
  rw [Nat.zero_add] at this
  refine ⟨by rw [this]; rfl,?_⟩
  simp [World.frozen?,h2]
 have hout:∀ x:Addr,x.block=b→(x.off<lo*aV∨lo*aV+vs.length≤x.off)→(w.setCells b (lo*aV) vs).cell? x=w.cell? x:=fun x hx hj=>
  World.cell?_setCells_out b vs _ w x (fun _ _=>hj)
 have hin:=World.rangeAt_setCells_same w b (lo*aV) vs sN
 have hrows:bO J (w.setCells b (lo*aV) vs) aV (splice rows lo news) b 0:=by
  refine bO.BN (fun r hr=>?_) ?_
  ·simp only [splice,List.mem_append] at hr
   rcases hr with (hr | hr) | hr
   ·exact hrl r (List.mem_of_mem_take hr)
   ·exact hn r hr
   ·exact hrl r (List.mem_of_mem_drop hr)
  ·rw [vJ hrl hn]
   have e1:bS J w ι (splice (rows.flatten.map .d) (lo*aV) (news.flatten.map .d)) (splice us (lo*aV) vs):=bS.splice _ (bJ.zV u1 u2) (bJ.zV h Aa)
   have e2:splice (rows.flatten.map LV.d) (lo*aV) (news.flatten.map LV.d)=(splice rows.flatten (lo*aV) news.flatten).map .d:=by simp only [splice,List.map_append,List.map_take,List.map_drop,List.length_map]
   rw [e2] at e1
   have e3:=(e1.ev S E).Db
   have back:∀ {w0:World} (xs:List DV) (ys:List Value),cL J w0 ι (xs.map .d) ys→bJ J w0 xs ys:=fun {w0} xs=>by
    induction xs with
    | nil=>intro ys h; cases ys with
      | nil=>trivial
      | cons _ _=>exact h.elim
    | cons x xs ih=>intro ys h; cases ys with
      | nil=>exact h.elim
      | cons y ys=>exact ⟨h.1,ih ys h.2⟩
   refine dU.of (vs:=splice us (lo*aV) vs) (back _ _ e3) (fun v hv=>e1.one v hv) (fun j v hv=>?_)
   rw [Nat.zero_add]
   by_cases hj1:j<lo*aV
   ·rw [hout _ rfl (.inl hj1)]
    have:=u3 j v (by
     rw [← hv]
     simp only [splice,List.append_assoc]
     rw [List.getElem?_append_left (by simp; omega),List.getElem?_take_of_lt hj1])
    rwa [Nat.zero_add] at this
   ·by_cases hj2:j<lo*aV+vs.length
    ·have:=hin (j-lo*aV) v (by
      rw [← hv]
      simp only [splice]
      rw [List.getElem?_append_left (by simp; omega),List.getElem?_append_right (by simp; omega)]
      congr 1; simp; omega)
     rwa [show lo*aV+(j-lo*aV)=j by omega] at this
    ·rw [hout _ rfl (.inr (by show _≤j; omega))]
     have:=u3 j v (by
      rw [← hv]
      simp only [splice]
      rw [List.getElem?_append_right (by simp; omega),List.getElem?_drop]
      congr 1; simp; omega)
     rwa [Nat.zero_add] at this
 obtain ⟨C',k1,k2⟩:∃ C',(w.setCells b (lo*aV) vs).heap[b]? = some (.cells C' et (0,0))∧True:=by
  have hs:lo*aV+vs.length≤C.size∨vs.length=0:=by
   rcases Nat.eq_zero_or_pos vs.length with hz | hz
   ·exact .inr hz
   ·left
    have:=(sN (vs.length-1) (by omega)).1
    simp only [World.cell?,h2] at this
    simp at this
    omega
  rcases hs with hs | hs
  ·obtain ⟨C',k1,_⟩:=iI vs _ w C h2 hs; exact ⟨C',k1,trivial⟩
  ·have:vs=[]:=by simpa using hs
   subst this; exact ⟨C,h2,trivial⟩
 have uM:(splice rows lo news).length=rows.length:=jV _ _ _ (by omega)
 refine ⟨b,h1,sN,?_⟩
 have hT:=aN.uR S o (.live (.dat et aV (splice rows lo news))) E (fun _ _ _=>rfl) (fun k hk hn=>heap_setCells_other (fun e=>hn (by rw [ho,e]; exact h1)) vs _ w)
  ⟨⟨.inr (by rw [uM]; simp [h1]),fun k hk=>by
    rw [uM,h1] at hk; cases hk
    exact ⟨⟨C',k1⟩,hrows⟩⟩,fun n hn=>by rw [uM] at hn; exact hkey n hn⟩
  (fun k hk=>.inl (by
   rw [ho]
   simp only [cW.own,aG.own,uM] at hk ⊢
   exact hk))
 exact ⟨J,ι,hT.1,rfl,hT.2⟩
theorem KV (S:aN G J w ι obj) (he:∀ t,dF J w ι (get t) (a.tmps.getD t Go.undef)) {X Y:Operand} {x y:bY} (hx:aL X=some x) (hy:aL Y=some y) {tx ty rt el:TypeId} (hu:P.underlying tx=some (.slice el)) (hs:dZ P el=some 1)
  (hty:L4 P ty=true) {e:fA} (hE:gh G get obj base (.cpy x y)=some e) :
  ∃ v w',(Builtin.copy_ #[tx,ty] rt #[a.eval X,a.eval Y]).run P w=.ok v w'∧bB G obj (bQ obj base e) J ι w e.r v w':=by
 have cD:=bp S he hx
 have lB:=bp S he hy
 have hk:(∃ e',P.underlying ty=some (.slice e'))∨P.underlying ty=some .string:=by
  unfold L4 at hty
  split at hty
  ·rename_i e' h; exact .inl ⟨_,h⟩
  ·rename_i h; exact .inr h
  ·cases hty
 simp only [gh] at hE
 split at hE
 ·rename_i new rd hsrc
  obtain ⟨news,hS,hD,hrl⟩:=uV S hk hsrc lB
  split at hE
  ·rename_i o lo len eu
   rw [eu] at cD
   split at hE
   ·rename_i et cells ho
    split at hE
    ·rename_i hc
     obtain ⟨hc,hnl⟩:=hc
     cases hE
     have hnews:=hS.newsLen
     rw [Nat.mul_one] at hnews
     have hfl:(new.flatten.map LV.d).length=new.length:=by rw [List.length_map,hD.length,hnews]
     obtain ⟨b,hb,OS,hA⟩:=bB.xU S (col:=lo) (cs:=new.flatten.map LV.d) (vs:=news) ho (hD.zV hS.one) (by rw [hfl]; omega)
     refine ⟨.int .i64 new.length,w.setCells b lo news,?_,?_⟩
     ·obtain ⟨i,hi',hn⟩:=cC hs
      have hsz:∀ w:World,(Go.sizeOf el).run P w=.ok 1 w:=fun w=>by simp [Go.sizeOf,typeInfo,hi',hn]
      have hst:=run_storeCells_cells (P:=P) b lo news 0 w (fun j hj=>by simpa using (OS j hj).1) (fun j hj=>by simpa using (OS j hj).2) hS.one
      simp only [Nat.add_zero] at hst
      rcases cD with ⟨hz,sa,hv⟩ | ⟨b',cap,et',C,hb',hv,hcap,_,_⟩
      ·have hn0:news=[]:=List.eq_nil_of_length_eq_zero (by omega)
       have hl0:new.length=0:=by omega
       subst hn0
       have hcl:=hS.cells
       rw [hl0] at hcl
       cases sa with
       | none=>simp [Builtin.copy_,run_underlying hu,hv,hS.len,hl0,hsz,hcl,goInt,World.setCells]
       | some sa=>simp [Builtin.copy_,run_underlying hu,hv,hS.len,hl0,hsz,hcl,goInt,storeCells,World.setCells]
      ·rw [hb] at hb'; cases hb'
       simp [Builtin.copy_,run_underlying hu,hv,hS.len,hsz,hS.cells,goInt,Nat.min_eq_left hnl,hst]
     ·have e1:bQ obj base { r:=.int new.length,rd:=o::rd,wr:=[(o,.box et (splice cells lo (new.flatten.map .d)))] } = fun k=>if k=o then .live (.box et (splice cells lo (new.flatten.map .d))) else obj k:=by
       funext k; simp only [bQ,pY,de]
      rw [e1]
      obtain ⟨J',ι',h1,_,h3⟩:=hA
      exact ⟨J',ι',h1,rfl,h3⟩
    ·cases hE
   ·cases hE
  ·rename_i o n lo len _ eu
   rw [eu] at cD
   split at hE
   ·rename_i et rows ho
    split at hE
    ·rename_i hc
     obtain ⟨hn,hc,hnl,hne⟩:=hc
     subst hn
     cases hE
     have hnews:=hS.newsLen
     rw [Nat.mul_one] at hnews
     obtain ⟨b,hb,OS,hA⟩:=bB.setRows S (lo:=lo) (news:=new) (vs:=news) ho hD hS.one hrl (by omega) hne
     rw [Nat.mul_one] at OS hA
     refine ⟨.int .i64 new.length,w.setCells b lo news,?_,?_⟩
     ·obtain ⟨i,hi',hn⟩:=cC hs
      have hsz:∀ w:World,(Go.sizeOf el).run P w=.ok 1 w:=fun w=>by simp [Go.sizeOf,typeInfo,hi',hn]
      have hst:=run_storeCells_cells (P:=P) b lo news 0 w (fun j hj=>by simpa using (OS j hj).1) (fun j hj=>by simpa using (OS j hj).2) hS.one
      simp only [Nat.add_zero] at hst
      rcases cD with ⟨hz,sa,hv⟩ | ⟨b',cap,et',C,hb',hv,hcap,_,_⟩
      ·have hn0:news=[]:=List.eq_nil_of_length_eq_zero (by omega)
       have hl0:new.length=0:=by omega
       subst hn0
       have hcl:=hS.cells
       rw [hl0] at hcl
       cases sa with
       | none=>simp [Builtin.copy_,run_underlying hu,hv,hS.len,hl0,hsz,hcl,goInt,World.setCells]
       | some sa=>simp [Builtin.copy_,run_underlying hu,hv,hS.len,hl0,hsz,hcl,goInt,storeCells,World.setCells]
      ·rw [hb] at hb'; cases hb'
       rw [Nat.mul_one] at hv
       simp [Builtin.copy_,run_underlying hu,hv,hS.len,hsz,hS.cells,goInt,Nat.min_eq_left hnl,hst]
     ·have e1:bQ obj base { r:=.int new.length,rd:=o::rd,wr:=[(o,.dat et 1 (splice rows lo new))] } = fun k=>if k=o then .live (.dat et 1 (splice rows lo new)) else obj k:=by
       funext k; simp only [bQ,pY,de]
      rw [e1]
      obtain ⟨J',ι',h1,_,h3⟩:=hA
      exact ⟨J',ι',h1,rfl,h3⟩
    ·cases hE
   ·cases hE
  ·cases hE
 ·cases hE
theorem Pj {T e:TypeId} {size bytes:Nat} (hu:P.underlying T=some (.slice e)) (hel:wk P e=some (size,bytes)) {k:IntKind} {n:Nat} (hn:n*bytes≤70368744177664) (h63:(n:Int)≤9223372036854775807) (w:World) :
  ∃ z:Value,(zeroValue e).run P w=.ok z w∧z.cells.size=size∧(Instr.makeSlice T (.int k n) (.int k n)).run P w=.ok (.slice (some ⟨w.heap.size,0,none⟩) n n) (w.alloc (.cells ((Array.range (n*size)).map ((if n*size=0 then #[] else z.cells)[· % (if n*size=0 then #[] else z.cells).size]!)) e)):=by
 obtain ⟨i,z,hi,hz,hsz,hby,Yy,_,hpos⟩:=oq hel
 have VE:∀ w:World,(zeroValue e).run P w=.ok z w:=fun w=>by simp [zeroValue,typeInfo,hi,hz]
 refine ⟨z,VE w,by rw [Yy,hsz],?_⟩
 have Ij:∀ w:World,(Go.sizeOf e).run P w=.ok size w:=fun w=>by simp [Go.sizeOf,typeInfo,hi,hsz]
 have wn:IntKind.i64.wrap (n:Int)=n:=by rw [IntKind.wrap_i64]; omega
 have n1:¬ (n:Int)<0:=by omega
 have hb':(bytes:Int)*(n:Int)≤70368744177664:=by
  have:((n*bytes:Nat):Int)≤70368744177664:=by omega
  rw [Int.mul_comm,← Int.natCast_mul]; exact this
 have n2:¬ (281474976710656<(bytes:Int)*n):=by omega
 have n3:¬ (n:Int)<(n:Int):=by omega
 by_cases h0:n*size=0
 ·simp [Instr.makeSlice,run_underlying hu,typeInfo,hi,hby,asInt,asIntOf,wn,n1,n2,n3,Ij,h0,newRow,askRoom]
 ·simp [Instr.makeSlice,run_underlying hu,typeInfo,hi,hby,asInt,asIntOf,wn,n1,n2,n3,Ij,h0,VE,newRow,askRoom]
theorem zj {α:Type} (l:List α):∀ (n j:Nat),j<n*l.length→((List.replicate n l).flatten)[j]? = l[j % l.length]?
 | 0,j,h=>by simp at h
 | n+1,j,h=>by
   rw [List.replicate_succ,List.flatten_cons]
   by_cases hj:j<l.length
   ·rw [List.getElem?_append_left hj,Nat.mod_eq_of_lt hj]
   ·have h2:j-l.length<n*l.length:=by rw [Nat.add_mul] at h; omega
    rw [List.getElem?_append_right (by omega),zj l n (j-l.length) h2]
    congr 1
    rw [Nat.mod_eq_sub_mod (by omega:l.length≤j)]
theorem EL {α:Type} (l:List α) (n:Nat):(List.replicate n l).flatten.length=n*l.length:=by
 induction n with
 | zero=>simp
 | succ n ih=>rw [List.replicate_succ,List.flatten_cons,List.length_append,ih,Nat.add_mul]; omega
theorem sB (J:Nat→Prop) (w:World):∀ l:List Value,bJ J w (l.map .val) l
 | []=>trivial
 | v::l=>⟨rfl,sB J w l⟩
theorem u5 {J:Nat→Prop} {w:World} {z:List DV} {vs:List Value} (h:bJ J w z vs):∀ n,bJ J w (List.replicate n z).flatten (List.replicate n vs).flatten
 | 0=>trivial
 | n+1=>by rw [List.replicate_succ,List.replicate_succ,List.flatten_cons,List.flatten_cons]; exact bJ.append h (u5 h n)
theorem JM (S:aN G J w ι obj) (he:∀ t,dF J w ι (get t) (a.tmps.getD t Go.undef)) {X Y:Operand} {x:bY} (hx:aL X=some x) (hXY:BX X Y=true) {T el:TypeId} {size bytes:Nat} {z:List DV} (hu:P.underlying T=some (.slice el)) (hel:wk P el=some (size,bytes))
  (hz:o8 P el=some z) (hzl:z.length=size) (hb:obj base=.free) {e:fA} (hE:gh G get obj base (.vW el size bytes z x)=some e) :
  ∃ v w',(Instr.makeSlice T (a.eval X) (a.eval Y)).run P w=.ok v w'∧bB G obj (bQ obj base e) J ι w e.r v w':=by
 have cD:=bp S he hx
 simp only [gh] at hE
 split at hE
 ·rename_i k n eu
  rw [eu] at cD
  have hX:a.eval X=.int k n:=cD
  split at hE
  ·rename_i hc
   obtain ⟨k1,k2,k3⟩:=hc
   cases hE
   obtain ⟨n,rfl⟩:=Int.eq_ofNat_of_zero_le k1
   rw [Int.toNat_natCast] at k2
   obtain ⟨zv,h1,h2,h3⟩:=Pj (P:=P) hu hel (k:=k) k2 k3 w
   have ZZ:z=zv.cells.toList.map .val∧∀ u∈zv.cells.toList,u.oneCell'=true:=by
    unfold o8 at hz
    split at hz
    ·rename_i i hi
     split at hz
     ·rename_i v hv
      split at hz
      ·rename_i hall
       cases hz
       have VE:(zeroValue el).run P w=.ok v w:=by simp [zeroValue,typeInfo,hi,hv]
       rw [VE] at h1
       cases h1
       exact ⟨rfl,fun u hu=>by
        rw [Array.all_eq_true_iff_forall_mem] at hall
        exact hall u (by simpa using hu)⟩
      ·cases hz
     ·cases hz
    ·cases hz
   refine ⟨_,_,by rw [hX,← Dy hXY a,hX]; exact h3,?_⟩
   have hcl:zv.cells.toList.length=size:=by rw [Array.length_toList,h2]
   generalize hC:((Array.range (n*size)).map ((if n*size=0 then #[] else zv.cells)[· % (if n*size=0 then #[] else zv.cells).size]!))=C
   have hCs:C.size=n*size:=by rw [← hC]; simp
   have:=bB.dat (G:=G) (J:=J) (w:=w) (ι:=ι) S hb el size (List.replicate n z) C w.drawn n (by simp) (by rw [hCs]; exact Nat.le_refl _) (fun ι' E=>by
    refine bO.tL (vs:=(List.replicate n zv.cells.toList).flatten) (u5 (by rw [ZZ.1]; exact sB _ _ _) n) (fun u hu=>?_) (fun r hr=>by rw [List.eq_of_mem_replicate hr]; exact hzl) (en { w with drawn:=w.drawn } _) (fun j u hu=>?_)
    ·obtain ⟨l,hl,hm⟩:=List.mem_flatten.1 hu
     rw [List.eq_of_mem_replicate hl] at hm
     exact ZZ.2 u hm
    ·have hj:j<n*size:=by
      have:=(List.getElem?_eq_some_iff.1 hu).1
      rw [EL,hcl] at this; exact this
     rw [zj _ _ _ (by rw [hcl]; exact hj),hcl] at hu
     have hpos:0<size:=Nat.pos_of_ne_zero (fun h0=>by rw [h0] at hj; simp at hj)
     have hm:j % size<zv.cells.size:=by rw [h2]; exact Nat.mod_lt _ hpos
     rw [← hC]
     simp [show ¬ (n*size=0) by omega,h2,hj]
     rw [Array.getElem?_toList] at hu
     rw [getElem!_pos zv.cells (j % size) hm]
     rw [Array.getElem?_eq_getElem hm] at hu
     exact (Option.some.inj hu))
   simp only [List.length_replicate] at this
   exact this
  ·cases hE
 ·cases hE
theorem Jl (S:aN G J w ι obj) {aV:Nat} {y:LV} {v:Value} {new:List (List DV)} {rd:List Nat} (h:bq obj aV y=some (new,rd)) (hy:dF J w ι y v) (hs:∀ s,y≠.d (.val (.string s))) :
  ∃ sa cap,v=.slice sa new.length cap∧(sa=none→new=[]):=by
 cases y with
 | d x=>
   cases x with
   | dN e rows=>
     simp only [bq] at h
     split at h
     ·cases h
      obtain ⟨a,n,cap,rfl,hn,hc,hr⟩:=hy
      subst hn
      refine ⟨a,cap,rfl,fun ha=>?_⟩
      rcases hr with hr | ⟨b,off,hb,_⟩
      ·exact hr
      ·rw [ha] at hb; cases hb
     ·cases h
   | val u=>
     have hvu:v=u:=hy
     subst hvu
     cases v with
     | slice sa n c=>
       cases sa with
       | some _=>simp [bq] at h
       | none=>
         cases n with
         | succ _=>simp [bq] at h
         | zero=>
           cases c with
           | succ _=>simp [bq] at h
           | zero=>simp [bq] at h; exact ⟨none,0,by rw [h.1]; rfl,fun _=>h.1⟩
     | string s=>exact absurd rfl (hs s)
     | _=>simp [bq] at h
   | fn f a b=>simp [bq] at h
   | gp t y=>simp [bq] at h
   | agg cs=>simp [bq] at h
 | sl o n e lo len=>
   have hlen:new.length=len:=by
    simp only [bq] at h
    split at h
    ·split at h
     ·rename_i hc; cases h; simp; omega
     ·cases h
    ·split at h
     ·rename_i hc; cases h; simp; omega
     ·cases h
    ·split at h
     ·rename_i hc
      split at h
      ·rename_i ds hds; cases h; rw [List.length_map,xL hds]; simp; omega
      ·cases h
     ·cases h
    ·cases h
   rcases hy with ⟨hz,a,rfl⟩ | ⟨b,cap,et',C,hb,rfl,hcap,_,_⟩
   ·exact ⟨a,0,by rw [hlen,hz],fun _=>List.eq_nil_of_length_eq_zero (by omega)⟩
   ·exact ⟨_,cap,by rw [hlen],fun h=>by cases h⟩
 | top=>simp [bq] at h
 | dW=>simp [bq] at h
 | ptr o c=>simp [bq] at h
 | rp o n e r c=>simp [bq] at h
 | ip r c=>simp [bq] at h
 | fn f a b=>simp [bq] at h
 | agg cs=>simp [bq] at h
 | dM cs=>simp [bq] at h
 | gp t y=>simp [bq] at h
 | yl o=>simp [bq] at h
 | mr o=>simp [bq] at h
theorem uA:∀ {rows:List (List DV)} {bs:List UInt8} {vs:List Value},bytesOf rows=some bs→bJ J w rows.flatten vs→∃ ns:List Int,vs=ns.map (Value.int .u8)∧bs=ns.map fun n=>UInt8.ofNat n.toNat
 | [],bs,vs,h,hv=>by
   simp only [bytesOf] at h; cases h
   cases vs with
   | nil=>exact ⟨[],rfl,rfl⟩
   | cons _ _=>exact hv.elim
 | r::rows,bs,vs,h,hv=>by
   unfold bytesOf at h
   split at h
   ·cases ‹_::_=[]›
   ·rename_i n r' heq
    cases heq
    split at h
    ·rename_i bs' OY
     cases h
     simp only [List.flatten_cons,List.cons_append,List.nil_append] at hv
     cases vs with
     | nil=>exact hv.elim
     | cons v vs=>
       obtain ⟨h1,h2⟩:=hv
       obtain ⟨ns,e1,e2⟩:=uA OY h2
       have h1:v=.int .u8 n:=h1
       exact ⟨n::ns,by rw [h1,e1]; rfl,by rw [e2]; rfl⟩
    ·cases h
   ·cases h
theorem foldl_push:∀ (ns:List Int) (s:ByteArray),ns.foldl (fun r n=>r.push (UInt8.ofNat n.toNat)) s=⟨(s.data.toList++ns.map fun n=>UInt8.ofNat n.toNat).toArray⟩
 | [],s=>by cases s; simp
 | n::ns,s=>by
   rw [List.foldl_cons,foldl_push ns]
   cases s
   simp [ByteArray.push]
theorem Lg (S:aN G J w ι obj) (he:∀ t,dF J w ι (get t) (a.tmps.getD t Go.undef)) {X:Operand} {x:bY} (hx:aL X=some x) {T T2 el:TypeId} (hu:P.underlying T=some (.slice el)) (hel:P.underlying el=some (.int .u8)) (hs:P.underlying T2=some .string)
  {e:fA} (hE:gh G get obj base (.b2s x)=some e) :
  ∃ v,(convert T T2 (a.eval X)).run P w=.ok v w∧dF J w ι e.r v∧e.nw=[]∧e.wr=[]:=by
 have cD:=bp S he hx
 simp only [gh] at hE
 split at hE
 ·cases hE
 ·rename_i hns
  split at hE
  ·rename_i rows rd hsrc
   split at hE
   ·rename_i bs OY
    cases hE
    obtain ⟨news,hS,hD,_⟩:=uV S (.inl ⟨_,hu⟩) hsrc cD
    obtain ⟨sa,cap,hv,rC⟩:=Jl S hsrc cD (fun s h=>hns s h)
    obtain ⟨ns,e1,e2⟩:=uA OY hD
    refine ⟨.string ⟨bs.toArray⟩,?_,rfl,rfl,rfl⟩
    rw [hv,run_convert_bytes_string w T T2 el sa _ cap hu hel hs]
    cases sa with
    | none=>
      have h0:=rC rfl
      subst h0
      simp only [bytesOf] at OY
      cases OY
      simp [Conv.bytesToString]
      rfl
    | some sa=>
      have hc:=hS.cells
      rw [hv,e1] at hc
      have OW:(loadCells sa rows.length).run P w=.ok (ns.map (Value.int .u8)).toArray w:=by
       simpa [Builtin.firstCells] using hc
      rw [run_bytesToString w sa _ cap ns OW,foldl_push,e2]
      rfl
   ·cases hE
  ·cases hE
theorem IY (z:Array Value) (n:Nat):(Builtin.zeroCells z n).toList=(List.replicate n z.toList).flatten:=by
 apply List.ext_getElem?
 intro j
 by_cases hj:j<n*z.size
 ·rw [zj _ _ _ (by simpa using hj),Array.length_toList]
  have hpos:0<z.size:=Nat.pos_of_ne_zero (fun h0=>by rw [h0] at hj; simp at hj)
  have hm:j % z.size<z.size:=Nat.mod_lt _ hpos
  unfold Builtin.zeroCells
  simp only [Array.toList_map,Array.toList_range,List.getElem?_map,List.getElem?_range hj,Option.map_some]
  rw [getElem!_pos z (j % z.size) hm,Array.getElem?_toList,Array.getElem?_eq_getElem hm]
 ·rw [List.getElem?_eq_none (by rw [Array.length_toList,size_zeroCells]; omega),List.getElem?_eq_none (by rw [EL,Array.length_toList]; omega)]
theorem Fz {el:TypeId} {z:List DV} (hz:o8 P el=some z):∃ zv:Value,z=zv.cells.toList.map .val∧(∀ u∈zv.cells.toList,u.oneCell'=true)∧∀ w:World,(zeroValue el).run P w=.ok zv w:=by
 unfold o8 at hz
 split at hz
 ·rename_i i hi
  split at hz
  ·rename_i v hv
   split at hz
   ·rename_i hall
    cases hz
    exact ⟨v,rfl,fun u hu=>by
     rw [Array.all_eq_true_iff_forall_mem] at hall
     exact hall u (by simpa using hu),fun w=>by simp [zeroValue,typeInfo,hi,hv]⟩
   ·cases hz
  ·cases hz
 ·cases hz
theorem K_ (S:aN G J w ι obj) (he:∀ t,dF J w ι (get t) (a.tmps.getD t Go.undef)) {X:Operand} {x:bY} (hx:aL X=some x) {tx rt el:TypeId} {n:Nat} {z:List DV} (hu:P.underlying tx=some (.slice el)) (hz:o8 P el=some z) (hzl:z.length=n)
  {e:fA} (hE:gh G get obj base (.clr n z x)=some e) :
  ∃ v w',(Builtin.clear_ #[tx] rt #[a.eval X]).run P w=.ok v w'∧bB G obj (bQ obj base e) J ι w e.r v w':=by
 have cD:=bp S he hx
 simp only [gh] at hE
 split at hE
 ·rename_i o m e0 lo len eu
  rw [eu] at cD
  split at hE
  ·rename_i et e' rows ho
   split at hE
   ·rename_i hc
    obtain ⟨rfl,rfl,rfl,hl,hpos⟩:=hc
    cases hE
    obtain ⟨zv,ZZ,hone,hzr⟩:=Fz hz
    have hcl:zv.cells.toList.length=e':=by rw [← hzl,ZZ,List.length_map]
    have hne:rows≠[]:=by intro h0; rw [h0] at hl; simp at hl; omega
    obtain ⟨b,hb,OS,hA⟩:=bB.setRows S (lo:=lo) (news:=List.replicate len z) (vs:=(List.replicate len zv.cells.toList).flatten) ho (u5 (by rw [ZZ]; exact sB _ _ _) len)
     (fun u hu=>by
      obtain ⟨l,hl,hm⟩:=List.mem_flatten.1 hu
      rw [List.eq_of_mem_replicate hl] at hm
      exact hone u hm) (fun r hr=>by rw [List.eq_of_mem_replicate hr]; exact hzl) (by rw [List.length_replicate]; exact hl) hne
    refine ⟨.tuple #[],w.setCells b (lo*e') (List.replicate len zv.cells.toList).flatten,?_,?_⟩
    ·have hst:=run_storeCells_cells (P:=P) b (lo*e') (List.replicate len zv.cells.toList).flatten 0 w (fun j hj=>by simpa using (OS j hj).1) (fun j hj=>by simpa using (OS j hj).2) (fun u hu=>by
      obtain ⟨l,hl,hm⟩:=List.mem_flatten.1 hu
      rw [List.eq_of_mem_replicate hl] at hm
      exact hone u hm)
     simp only [Nat.add_zero] at hst
     rcases cD with ⟨hz0,_⟩ | ⟨b',cap,et',C,hb',hv,hcap,_,_⟩
     ·omega
     ·rw [hb] at hb'; cases hb'
      obtain ⟨k,rfl⟩:∃ k,len=k+1:=⟨len-1,by omega⟩
      simp [Builtin.clear_,run_underlying hu,hv,hzr,IY,hst]
    ·have e1:bQ obj base { r:=.undef,rd:=[o],wr:=[(o,.dat et e' (splice rows lo (List.replicate len z)))] } = fun k=>if k=o then .live (.dat et e' (splice rows lo (List.replicate len z))) else obj k:=by
      funext k; simp only [bQ,pY,de]
     rw [e1]
     exact hA
   ·cases hE
  ·cases hE
 ·rename_i e0 eu
  cases hE
  rw [eu] at cD
  obtain ⟨ad,n,cap,hv,hn,_⟩:=cD
  have hn0:n=0:=hn
  subst hn0
  have e1:bQ obj base { r:=.undef } = obj:=by funext k; simp [bQ,pY,de]
  rw [e1]
  refine ⟨.tuple #[],w,?_,bB.stay S rfl⟩
  rw [hv]
  cases ad <;> simp [Builtin.clear_,run_underlying hu]
 ·cases hE
theorem Li (S:aN G J w ι obj) (he:∀ t,dF J w ι (get t) (a.tmps.getD t Go.undef)) {X:Operand} {x:bY} (hx:aL X=some x) {e:fA} (hE:gh G get obj base (.YP x)=some e) :
  ∃ ad n,a.eval X=.pointer (some ad)∧w.cell? ad=some (.int .i64 n)∧e.r=.int n∧e.nw=[]∧e.wr=[]:=by
 have cD:=bp S he hx
 simp only [gh] at hE
 split at hE
 ·rename_i o c eu
  rw [eu] at cD
  obtain ⟨b,hb,hv⟩:=cD
  split at hE
  ·rename_i et cells ho
   split at hE
   ·rename_i n hc
    cases hE
    have h0:=S.rep o
    rw [ho] at h0
    obtain ⟨⟨b',C,m1,m2,m3⟩,_⟩:=h0
    rw [hb] at m1; cases m1
    obtain ⟨v,uL,_,hr⟩:=m3.get hc
    have hr:v=.int .i64 n:=hr
    subst hr
    refine ⟨_,n,hv,?_,rfl,rfl,rfl⟩
    simp only [World.cell?,m2]
    simpa using uL
   ·cases hE
  ·cases hE
 ·cases hE
theorem Lj (S:aN G J w ι obj) (he:∀ t,dF J w ι (get t) (a.tmps.getD t Go.undef)) {X Y:Operand} {x y:bY} (hx:aL X=some x) (hy:aL Y=some y) {e:fA} (hE:gh G get obj base (.YQ x y)=some e) :
  ∃ ad n d,a.eval X=.pointer (some ad)∧a.eval Y=.int .i64 d∧w.cell? ad=some (.int .i64 n)∧w.frozen? ad=false∧bB G obj (bQ obj base e) J ι w e.r (.int .i64 (IntKind.i64.wrap (n+d))) (w.setCell ad (.int .i64 (IntKind.i64.wrap (n+d)))):=by
 have cD:=bp S he hx
 have lB:=bp S he hy
 simp only [gh] at hE
 split at hE
 ·rename_i o c d eu NH
  rw [eu] at cD
  rw [NH] at lB
  obtain ⟨b,hb,hv⟩:=cD
  have hY:a.eval Y=.int .i64 d:=lB
  split at hE
  ·rename_i et cells ho
   split at hE
   ·rename_i n hc
    cases hE
    have acu:c<cells.length:=(List.getElem?_eq_some_iff.1 hc).1
    have h0:=S.rep o
    rw [ho] at h0
    obtain ⟨⟨b',C,m1,m2,m3⟩,_⟩:=h0
    rw [hb] at m1; cases m1
    obtain ⟨v,uL,_,hr⟩:=m3.get hc
    have hr:v=.int .i64 n:=hr
    subst hr
    obtain ⟨b2,NR,OS,hA⟩:=bB.xU S (col:=c) (cs:=[.int (IntKind.i64.wrap (n+d))]) (vs:=[.int .i64 (IntKind.i64.wrap (n+d))]) ho ⟨rfl,rfl,trivial⟩ (by simp; omega)
    rw [hb] at NR; cases NR
    refine ⟨⟨b,c,none⟩,n,d,hv,hY,?_,by simp [World.frozen?,m2],?_⟩
    ·simp only [World.cell?,m2]
     simpa using uL
    ·have e1:bQ obj base { r:=.int (IntKind.i64.wrap (n+d)),rd:=[o],wr:=[(o,.box et (splice cells c [.int (IntKind.i64.wrap (n+d))]))] } = fun k=>if k=o then .live (.box et (splice cells c [.int (IntKind.i64.wrap (n+d))])) else obj k:=by
      funext k; simp only [bQ,pY,de]
     rw [e1]
     have e2:w.setCell ⟨b,c,none⟩ (.int .i64 (IntKind.i64.wrap (n+d)))=w.setCells b c [.int .i64 (IntKind.i64.wrap (n+d))]:=by simp only [World.setCells]
     rw [e2]
     obtain ⟨J',ι',h1,_,h3⟩:=hA
     exact ⟨J',ι',h1,rfl,h3⟩
   ·cases hE
  ·cases hE
 ·cases hE
theorem GR (S:aN G J w ι obj) (he:∀ t,dF J w ι (get t) (a.tmps.getD t Go.undef)) {m:M} {e:fA} (hE:gh G get obj base m=some e) {o:Oper} (hc:zy P o.op=some m) :
  cS P o a w (bB G obj (bQ obj base e) J ι w e.r):=by
 obtain ⟨dst,op,type,pos,after,guard⟩:=o
 dsimp only at hc
 unfold zy at hc
 split at hc
 ·rename_i f args ts
  split at hc
  ·rename_i fn hf
   split at hc
   ·rename_i hfn
    obtain ⟨hb,aad⟩:=hfn
    have ex:∀ vs:Array Value,args.map a.eval=vs→execOp a.eval { dst:=dst,op:=Op.call { callee:=Callee.value (.func f),args:=args,argTypes:=ts },type:=type,pos:=pos,after:=after,guard:=guard } = callFunc f vs:=by
     intro vs hvs
     have ef:a.eval (.func f)=.func (.func f) #[] #[]:=rfl
     unfold execOp
     simp [resolve,Deferred.ofValue,invoke,ef,hvs]
    split at hc
    ·rename_i hn
     split at hc
     ·rename_i x hargs
      have ha:args=#[x]:=by apply Array.ext'; simpa using hargs
      subst ha
      split at hc
      ·rename_i x' h1
       cases hc
       obtain ⟨ad,n,hX,hcell,hr,h6,h7⟩:=Li S he h1 hE
       refine cS.of_run (v:=.int .i64 n) (w':=w) ?_ ?_
       ·rw [ex #[a.eval x] (by simp),hX]
        exact run_call_load hf (by rw [hn]; rfl) hb (JH hn aad) .i64 (KG hn) hcell
       ·simp only [bQ,h6,h7,pY,de]
        exact bB.stay S (by rw [hr]; rfl)
      ·cases hc
     ·cases hc
    ·split at hc
     ·rename_i hn
      split at hc
      ·rename_i x y hargs
       have ha:args=#[x,y]:=by apply Array.ext'; simpa using hargs
       subst ha
       split at hc
       ·rename_i x' y' h1 h2
        cases hc
        obtain ⟨ad,n,d,hX,hY,hcell,hz,hA⟩:=Lj S he h1 h2 hE
        refine cS.of_run ?_ hA
        rw [ex #[a.eval x,a.eval y] (by simp),hX,hY]
        exact run_call_add hf (by rw [hn]; rfl) hb (MH hn aad) .i64 (Oe hn) hcell hz rfl
       ·cases hc
      ·cases hc
     ·cases hc
   ·cases hc
  ·cases hc
 ·cases hc
theorem uZ:∀ (es:List (Int×LV)) (E:List MapEntry) (n:Int) (i:Nat),jA J w ι es E→
  (getM es n=none∧Instr.findNow (.int .i64) (.int .i64 n) E i=some none∧∀ y v c,dF J w ι y v→jA J w ι (zU es n y) (E++[⟨.int .i64 n,v,c⟩]))∨
  ∃ y j e,getM es n=some y∧Instr.findNow (.int .i64) (.int .i64 n) E i=some (some (i+j,e.val))∧E[j]? = some e∧e.key=.int .i64 n∧dF J w ι y e.val∧∀ y v,dF J w ι y v→jA J w ι (zU es n y) (E.set j ⟨.int .i64 n,v,e.born⟩)
 | [],[],n,i,_=>.inl ⟨rfl,rfl,fun y v c h=>⟨rfl,h,trivial⟩⟩
 | (k,x)::r,e::E,n,i,h=>by
   obtain ⟨h1,h2,h3⟩:=h
   by_cases hk:n=k
   ·subst hk
    refine .inr ⟨x,0,e,by simp [getM],by simp [Instr.findNow,Instr.sameNow,h1],rfl,h1,h2,fun y v hy=>?_⟩
    simp only [zU,if_true,List.set_cons_zero]
    exact ⟨rfl,hy,h3⟩
   ·have hf:Instr.findNow (.int .i64) (.int .i64 n) (e::E) i=Instr.findNow (.int .i64) (.int .i64 n) E (i+1):=by
     simp [Instr.findNow,Instr.sameNow,h1,show (n==k)=false from beq_eq_false_iff_ne.2 hk]
    rcases uZ r E n (i+1) h3 with ⟨q1,q2,q3⟩ | ⟨y,j,e',q1,q2,q3,q4,q5,q6⟩
    ·refine .inl ⟨by simp [getM,hk,q1],by rw [hf,q2],fun y v c hy=>?_⟩
     simp only [zU,if_neg hk]
     exact ⟨h1,h2,q3 y v c hy⟩
    ·refine .inr ⟨y,j+1,e',by simp [getM,hk,q1],by rw [hf,q2]; simp; omega,by simpa using q3,q4,q5,fun y v hy=>?_⟩
     simp only [zU,if_neg hk,List.set_cons_succ]
     exact ⟨h1,h2,q6 y v hy⟩
 | [],_::_,_,_,h=>h.elim
 | _::_,[],_,_,h=>h.elim
theorem bB.Yv (S:aN G J w ι obj) (hb:obj base=.free):bB G obj (fun o=>if o=base then .live (.mp []) else obj o) J ι w (.mr base) (.map (some w.heap.size)) (w.alloc (.map #[] 0)):=by
 have hfree:∀ n,ι base n=none:=by have:=S.rep base; rw [hb] at this; exact this
 let ι':Nat→Nat→Option Nat:=fun o n=>if o=base then (if n=0 then some w.heap.size else none) else ι o n
 have hi:∀ o n b,ι o n=some b→ι' o n=some b:=fun o n b e_=>by
  by_cases ho:o=base
  ·subst ho; rw [hfree] at e_; cases e_
  ·simp only [ι',if_neg ho]; exact e_
 have E:Ev (Own ι obj) J J ι ι' w (w.alloc (.map #[] 0)):=Ev.alloc _ _ w w.drawn _ hi
 have hT:=aN.uR S base (.live (.mp [])) E (fun o ho n=>by simp only [ι',if_neg ho]) (fun b hlt _=>fK w _ b hlt)
  ⟨⟨w.heap.size,#[],0,by simp [ι'],en w _,trivial⟩,trivial⟩ (fun b e_=>by
    have:ι' base 0=some b:=e_
    simp [ι'] at this; exact .inr (by omega))
 exact ⟨J,ι',hT.1,⟨w.heap.size,by simp [ι'],rfl⟩,hT.2⟩
theorem bB.L6 (S:aN G J w ι obj) {o b:Nat} {es es':List (Int×LV)} {E E':Array MapEntry} {c c':Nat} (ho:obj o=.live (.mp es)) (h1:ι o 0=some b) (h2:w.heap[b]? = some (.map E c)) (h3:jA J w ι es' E'.toList) :
  bB G obj (fun k=>if k=o then .live (.mp es') else obj k) J ι w .undef Go.undef { w with heap:=w.heap.setIfInBounds b (.map E' c') }:=by
 have hown:Own ι obj b:=⟨o,by rw [ho]; exact h1⟩
 obtain ⟨k1,k2⟩:=MapKept.heap_set (o':=.map E' c') h2
 have E1:Ev (Own ι obj) J J ι ι w { w with heap:=w.heap.setIfInBounds b (.map E' c') }:=⟨rfl,rfl,rfl,by simp,fun k _ hn=>k2 k (fun e=>hn (by rw [e]; exact hown)),fun k _=>by
  by_cases e:k=b
  ·subst e; simp only [World.shape?,k1,h2]
  ·exact rO (k2 k e),fun _ h=>h,fun _ h=>.inl h,fun _ _ _ h=>h⟩
 have hT:=aN.uR S o (.live (.mp es')) E1 (fun _ _ _=>rfl) (fun k _ hn=>k2 k (fun e=>hn (by rw [ho,e]; exact h1)))
  ⟨⟨b,E',c',h1,k1,h3.ev S E1⟩,trivial⟩ (fun k hk=>.inl (by rw [ho]; exact hk))
 exact ⟨J,ι,hT.1,rfl,hT.2⟩
theorem AX (S:aN G J w ι obj) (he:∀ t,dF J w ι (get t) (a.tmps.getD t Go.undef)) {X K Y:Operand} {x k y:bY} (hx:aL X=some x) (hk:aL K=some k) (hy:aL Y=some y) {T kt et:TypeId} (hu:P.underlying T=some (.map kt et)) (hi:yU P kt=true) {e:fA} (hE:gh G get obj base (.Yu x k y)=some e) :
  ∃ w',(Instr.mapUpdate T (a.eval X) (a.eval K) (a.eval Y)).run P w=.ok () w'∧bB G obj (bQ obj base e) J ι w e.r Go.undef w':=by
 have cD:=bp S he hx
 have Z8:=bp S he hk
 have lB:=bp S he hy
 have hd:=Ep hi
 simp only [gh] at hE
 split at hE
 ·rename_i o n eu NH
  rw [eu] at cD
  rw [NH] at Z8
  obtain ⟨b,hb,hX⟩:=cD
  have hK:a.eval K=.int .i64 n:=Z8
  split at hE
  ·rename_i es ho
   cases hE
   have h0:=S.rep o
   rw [ho] at h0
   obtain ⟨⟨b',C,c,m1,m2,m3⟩,_⟩:=h0
   rw [hb] at m1; cases m1
   have e1:bQ obj base { r:=.undef,rd:=[o],wr:=[(o,.mp (zU es n (y.ev G get)))] } = fun k=>if k=o then .live (.mp (zU es n (y.ev G get))) else obj k:=by
    funext k; simp only [bQ,pY,de]
   rw [e1,hX,hK]
   have hck:=MapKept.run_checkKey (w:=w) (k:=.int .i64 n) hd (by simp [MapKept.IsKey]) false 9999
   rcases uZ es C.toList n 0 m3 with ⟨_,q2,q3⟩ | ⟨_,j,e',_,q2,q3,q4,_,q6⟩
   ·refine ⟨_,?_,bB.L6 S ho hb m2 (E':=C.push ⟨.int .i64 n,a.eval Y,c⟩) (c':=c+1) (by simpa using q3 _ (a.eval Y) c lB)⟩
    simp [Instr.mapUpdate,run_underlying hu,Result.andThen,MapKept.run_getObj_map m2,hck,MapKept.run_findKey hd q2,MapKept.run_setObj_map _ m2]
   ·have hj:C[j]? = some e':=by simpa using q3
    obtain ⟨key,val,born⟩:=e'
    dsimp only at q4
    subst q4
    have hmod:(C.modify j fun e=>{ e with key:=.int .i64 n,val:=a.eval Y }).toList=C.toList.set j ⟨.int .i64 n,a.eval Y,born⟩:=by
     apply List.ext_getElem?
     intro i
     simp only [Array.getElem?_toList,Array.getElem?_modify,List.getElem?_set]
     by_cases hij:j=i
     ·subst hij
      have hlt:j<C.size:=(Array.getElem?_eq_some_iff.1 hj).1
      have:=(Array.getElem?_eq_some_iff.1 hj).2
      simp [hlt,this]
     ·simp [hij]
    refine ⟨_,?_,bB.L6 S ho hb m2 (E':=C.modify j fun e=>{ e with key:=.int .i64 n,val:=a.eval Y }) (c':=c) (by rw [hmod]; exact q6 _ _ lB)⟩
    simp [Instr.mapUpdate,run_underlying hu,Result.andThen,MapKept.run_getObj_map m2,hck,MapKept.run_findKey hd q2,hj,MapKept.run_keyThatStays (k:=.int .i64 n) (d:=.int .i64) (by simp [MapKept.IsKey]),MapKept.run_setObj_map _ m2]
  ·cases hE
 ·cases hE
theorem JL (S:aN G J w ι obj) (he:∀ t,dF J w ι (get t) (a.tmps.getD t Go.undef)) {X K:Operand} {x k:bY} (hx:aL X=some x) (hk:aL K=some k) {T kt et:TypeId} {ok:Bool} {i:TypeInfo} {z:Value} (hu:P.underlying T=some (.map kt et)) (hi:yU P kt=true) (hin:P.info? et=some i) (hz:i.zero=some z) {e:fA} (hE:gh G get obj base (.Y9 z ok x k)=some e) :
  ∃ v,(Instr.lookup T (a.eval X) (a.eval K) ok).run P w=.ok v w∧dF J w ι e.r v∧e.nw=[]∧e.wr=[]:=by
 have cD:=bp S he hx
 have Z8:=bp S he hk
 have hd:=Ep hi
 have hzr:(zeroValue et).run P w=.ok z w:=by simp [zeroValue,typeInfo,hin,hz]
 simp only [gh] at hE
 split at hE
 ·rename_i o n eu NH
  rw [eu] at cD
  rw [NH] at Z8
  obtain ⟨b,hb,hX⟩:=cD
  have hK:a.eval K=.int .i64 n:=Z8
  split at hE
  ·rename_i es ho
   have h0:=S.rep o
   rw [ho] at h0
   obtain ⟨⟨b',C,c,m1,m2,m3⟩,_⟩:=h0
   rw [hb] at m1; cases m1
   have hck:=fun e=>MapKept.run_checkKey (w:=w) (k:=.int .i64 n) hd (by simp [MapKept.IsKey]) e 9999
   rw [hX,hK]
   rcases uZ es C.toList n 0 m3 with ⟨q1,q2,q3⟩ | ⟨y,j,e',q1,q2,q3,q4,q5,_⟩
   ·rw [q1] at hE; cases hE
    refine ⟨if ok=true then .tuple #[z,.bool false] else z,?_,?_,rfl,rfl⟩
    ·simp [Instr.lookup,run_underlying hu,Result.andThen,MapKept.run_getObj_map m2,hck,MapKept.run_findKey hd q2,hzr]
    ·cases ok
     ·exact rfl
     ·exact ⟨_,rfl,rfl,rfl,trivial⟩
   ·rw [q1] at hE; cases hE
    refine ⟨if ok=true then .tuple #[e'.val,.bool true] else e'.val,?_,?_,rfl,rfl⟩
    ·simp [Instr.lookup,run_underlying hu,Result.andThen,MapKept.run_getObj_map m2,hck,MapKept.run_findKey hd q2]
    ·cases ok
     ·exact q5
     ·exact ⟨_,rfl,q5,rfl,trivial⟩
  ·cases hE
 ·cases hE
theorem GP (S:aN G J w ι obj) (he:∀ t,dF J w ι (get t) (a.tmps.getD t Go.undef)) {m:M} {e:fA} (hE:gh G get obj base m=some e) (hfree:∀ j,j<e.nw.length→obj (base+j)=.free) {o:Oper} (hc:iL P o.op=some m) :
  cS P o a w (bB G obj (bQ obj base e) J ι w e.r):=by
 obtain ⟨dst,op,type,pos,after,guard⟩:=o
 dsimp only at hc
 have stay:∀ {e:fA} {v:Value},e.nw=[]→e.wr=[]→dF J w ι e.r v→bB G obj (bQ obj base e) J ι w e.r v w:=by
  intro e v h1 h2 h3
  simp only [bQ,h1,h2,pY,de]
  exact bB.stay S h3
 cases op with
 | slice T x lo hi mx=>
   cases mx with
   | some _=>simp [iL] at hc
   | none=>
     simp only [iL] at hc
     split at hc
     ·rename_i x' lo' hi' n el h1 h2 h3 hu
      split at hc
      ·rename_i hs
       cases hc
       obtain ⟨v,hv,hr,h6,h7⟩:=Jo S he h1 h2 h3 hu hs hE
       exact cS.value (s:=Instr.sliceAt T (a.eval x) (lo.map a.eval) (hi.map a.eval) none) rfl hv (stay h6 h7 hr)
      ·cases hc
     ·cases hc
 | makeSlice T l c=>
   simp only [iL] at hc
   split at hc
   ·rename_i n el h1 hu
    split at hc
    ·rename_i z size bytes h2 h3
     split at hc
     ·rename_i lU
      cases hc
      have hb:obj base=.free:=by
       have hlen:0<e.nw.length:=by
        have OZ:=hE
        simp only [gh] at OZ
        split at OZ
        ·split at OZ
         ·cases OZ; simp
         ·cases OZ
        ·cases OZ
       simpa using hfree 0 hlen
      obtain ⟨v,w',hv,hA⟩:=JM S he h1 lU.1 hu h3 h2 lU.2 hb hE
      exact cS.value (s:=Instr.makeSlice T (a.eval l) (a.eval c)) rfl hv hA
     ·cases hc
    ·cases hc
   ·cases hc
 | convert S' T x=>
   simp only [iL] at hc
   split at hc
   ·rename_i y el h1 h2 h3
    split at hc
    ·rename_i h4
     cases hc
     obtain ⟨v,hv,hr,h6,h7⟩:=Lg S he h1 h2 h4 h3 hE
     exact cS.value (s:=Go.convert S' T (a.eval x)) rfl hv (stay h6 h7 hr)
    ·cases hc
   ·cases hc
 | call c=>
   obtain ⟨callee,args,ts⟩:=c
   cases callee with
   | value f=>simp [iL] at hc
   | invoke r m=>simp [iL] at hc
   | builtin b=>
     cases b with
     | copy=>
       simp only [iL] at hc
       split at hc
       ·rename_i x y tx ty hargs hT
        have ha:args=#[x,y]:=by apply Array.ext'; simpa using hargs
        have ht:ts=#[tx,ty]:=by apply Array.ext'; simpa using hT
        subst ha ht
        split at hc
        ·rename_i x' y' el h1 h2 h3
         split at hc
         ·rename_i lU
          cases hc
          obtain ⟨v,w',hv,hA⟩:=KV (rt:=type) S he h1 h2 h3 lU.1 lU.2 hE
          exact cS.value (s:=Builtin.copy_ #[tx,ty] type #[a.eval x,a.eval y]) (by simp [execOp,resolve,invoke,builtin]) hv hA
         ·cases hc
        ·cases hc
       ·cases hc
     | clear=>
       simp only [iL] at hc
       split at hc
       ·rename_i x tx hargs hT
        have ha:args=#[x]:=by apply Array.ext'; simpa using hargs
        have ht:ts=#[tx]:=by apply Array.ext'; simpa using hT
        subst ha ht
        split at hc
        ·rename_i x' el h1 h2
         split at hc
         ·rename_i z n h3 h4
          split at hc
          ·rename_i lU
           cases hc
           obtain ⟨v,w',hv,hA⟩:=K_ (rt:=type) S he h1 h2 h3 lU hE
           exact cS.value (s:=Builtin.clear_ #[tx] type #[a.eval x]) (by simp [execOp,resolve,invoke,builtin]) hv hA
          ·cases hc
         ·cases hc
        ·cases hc
       ·cases hc
     | _=>simp [iL] at hc
 | unOp u T x=>
   cases u with
   | xor=>
     simp only [iL] at hc
     split at hc
     ·rename_i y h1
      cases hc
      have cD:=bp S he h1
      simp only [gh] at hE
      split at hE
      ·rename_i k n eu
       rw [eu] at cD
       have hX:a.eval x=.int k n:=cD
       cases hE
       exact cS.value (s:=Op.unary .xor (a.eval x)) rfl (by rw [hX]; rfl) (stay rfl rfl rfl)
      ·cases hE
     ·cases hc
   | _=>simp [iL] at hc
 | makeMap T r=>
   cases r with
   | some _=>simp [iL] at hc
   | none=>
     simp only [iL,Option.some.injEq] at hc
     subst hc
     simp only [gh,Option.some.injEq] at hE
     subst hE
     have hb:obj base=.free:=by simpa using hfree 0 (by simp)
     refine cS.value (s:=Instr.makeMap T none) rfl rfl ?_
     have e1:bQ obj base { r:=.mr base,nw:=[.mp []] } = fun o=>if o=base then .live (.mp []) else obj o:=by funext k; simp [bQ,pY,de]
     rw [e1]
     exact bB.Yv S hb
 | mapUpdate T m k x=>
   simp only [iL] at hc
   split at hc
   ·rename_i h1 h2 h3 h4
    split at hc
    ·rename_i h5
     cases hc
     obtain ⟨w',hv,hA⟩:=AX S he h1 h2 h3 h4 h5 hE
     refine cS.w_ (w':=w') ?_ hA
     simp [execOp,hv,Result.andThen]
    ·cases hc
   ·cases hc
 | insert T m k x=>
   simp only [iL] at hc
   split at hc
   ·rename_i h1 h2 h3 h4
    split at hc
    ·rename_i h5
     cases hc
     obtain ⟨w',hv,hA⟩:=AX S he h1 h2 h3 h4 h5 hE
     refine cS.w_ (w':=w') ?_ hA
     simp [execOp,hv,Result.andThen]
    ·cases hc
   ·cases hc
 | lookup T m k ok=>
   simp only [iL] at hc
   split at hc
   ·rename_i h1 h2 h3
    split at hc
    ·rename_i i h4
     split at hc
     ·rename_i z h5
      split at hc
      ·rename_i h6
       cases hc
       obtain ⟨v,hv,hr,h7,h8⟩:=JL S he h1 h2 h3 h6 h4 h5 hE
       exact cS.value (s:=Instr.lookup T (a.eval m) (a.eval k) ok) rfl hv (stay h7 h8 hr)
      ·cases hc
     ·cases hc
    ·cases hc
   ·cases hc
 | _=>simp [iL] at hc
theorem GQ (S:aN G J w ι obj) (he:∀ t,dF J w ι (get t) (a.tmps.getD t Go.undef)) {i:I} {e:fA} (hE:cR G get obj base i=some e) (hfree:∀ j,j<e.nw.length→obj (base+j)=.free) {o:Oper} (hc:mE P o.op=some i) :
  cS P o a w (bB G obj (bQ obj base e) J ι w e.r):=by
 rcases wq hc with h | ⟨m,rfl,h⟩
 ·exact KM S he hE hfree h
 ·have OZ:gh G get obj base m=some e:=by simpa only [cR] using hE
  rcases h with h | h | rfl
  ·exact GP S he OZ hfree h
  ·exact GR S he OZ h
  ·cases OZ
end
end Dv
namespace Dv
open Go
def fz (ro:Option Nat):Fence:={ fn:=fun _=>True,depth:=none,alive:=false,round:=ro }
theorem qa {ro:Option Nat} {n:Nat} {P:Program} {f:FuncId} {args:Array Value} {w:World} {R:Ending→World→Prop} : CallsIn (fz ro) n P f args w R↔Calls P f args w R:=by
 have:CallsIn (fz ro) n P f args w R=CallsIn Fence.wide n P f args w R:=rfl
 rw [this]; exact callsIn_wide
theorem SV {ro:Option Nat} {n:Nat} {P:Program} {row:String} {args:Array Value} {w:World} {R:Value→World→Prop} (h:Rows P row args w R):RowsIn (fz ro) n P row args w R:=by
 intro b cs _
 obtain ⟨v,w',h1,h2⟩:=h b cs
 exact ⟨v,w',h1,stepsIn_wide.2 h2⟩
theorem VT {ro:Option Nat} {n:Nat} {P:Program} {o:Oper} {a:Act} {w:World} {next:Act→World→Prop} {Q:Exit→Act→World→Prop} (hd:∀ c,o.op≠.defer c) (h:o.wp P a w next Q):o.wpIn (fz ro) n P a w next Q:=by
 refine ⟨fun _ _=>trivial,?_⟩
 rw [Oper.semAt_eq _ _ _ hd]
 unfold Oper.wp at h
 generalize (execOp a.eval o).run P w=r at h
 unfold Oper.upon at h
 unfold Oper.uponIn
 split at h
 ·exact h
 ·exact h
 ·exact h
 ·exact ⟨(fun hh=>by cases hh),qa.2 (Calls.mono h (fun e w' q=>by cases e <;> exact q))⟩
 ·exact ⟨(fun hh=>by cases hh),SV h⟩
 ·exact h
 ·exact h.elim
structure St where
 env:List (Nat×LV)
 ag:List (Option aG)
def aO:List (Nat×LV)→Nat→LV
 | [],_=>.top
 | (k,v)::r,t=>if k=t then v else aO r t
def ej (dst:Option Nat) (r:LV) (env:List (Nat×LV)):List (Nat×LV):=match dst with
 | some d=>(d,r)::env
 | none=>env
def St.get (s:St) (t:Nat):LV:=aO s.env t
def St.obj (s:St) (o:Nat):cW:=ay s.ag o
def ga:List (Nat×aG)→List (Option aG)→List (Option aG)
 | [],l=>l
 | (k,ob)::r,l=>(ga r l).set k (some ob)
def St.app (s:St) (dst:Option Nat) (e:fA):St:={ env:=ej dst e.r s.env,ag:=ga e.wr s.ag++e.nw.map some }
def St.put (s:St) (dst:Option Nat) (r:LV):St:={ s with env:=ej dst r s.env }
def callee:LV→Option (Nat×List LV×List LV)
 | .d (.fn (.func k) fs cs)=>some (k,fs.map .d,cs.map .d)
 | .fn (.func k) fs cs=>some (k,fs,cs)
 | _=>none
def kX (P:Program) (G:Nat→Option (List DV)) (get:Nat→LV) (obj:Nat→cW) (base:Nat) (i:I) (e:fA):Prop:=
 match i with
 | .call f args=>match callee (f.ev G get) with
   | some (k,fs,cs)=>cF P G k (fs++args.map (·.ev G get)++cs) obj base e
   | none=>False
 | i=>cR G get obj base i=some e
section
variable {P:Program} {G:Nat→Option (List DV)} {J:Nat→Prop} {w w':World} {ι:Nat→Nat→Option Nat} {obj:Nat→cW} {a:Act} {get:Nat→LV} {base:Nat}
theorem cL.append:∀ {xs ys:List LV} {vs us:List Value},cL J w ι xs vs→cL J w ι ys us→cL J w ι (xs++ys) (vs++us)
 | [],ys,[],us,_,h=>h
 | x::xs,ys,v::vs,us,h,k=>⟨h.1,cL.append h.2 k⟩
 | [],_,_::_,_,h,_=>h.elim
 | _::_,_,[],_,h,_=>h.elim
theorem vH (keep:Nat→Bool):∀ (l:List (Nat×aG)) (obj:Nat→cW),(l.map (·.1)).Nodup→(∀ p∈l,keep p.1=false→obj p.1=.live p.2)→de (l.filter fun p=>keep p.1) obj=de l obj
 | [],_,_,_=>rfl
 | (k,ob)::r,obj,hn,h=>by
   simp only [List.map_cons,List.nodup_cons] at hn
   have ih:=vH keep r obj hn.2 (fun p hp=>h p (by simp [hp]))
   cases hk:keep k with
   | true=>rw [List.filter_cons_of_pos (by simpa using hk)]; simp only [de,ih]
   | false=>
     rw [List.filter_cons_of_neg (by simp [hk]),ih]
     funext o
     simp only [de]
     split
     ·rename_i ho
      subst ho
      have hout:∀ (l:List (Nat×aG)) (o:Nat),o∉l.map (·.1)→de l obj o=obj o:=by
       intro l
       induction l with
       | nil=>intro o _; rfl
       | cons p l ihl=>
         intro o ho
         obtain ⟨a,b⟩:=p
         simp only [List.map_cons,List.mem_cons,not_or] at ho
         simp only [de]; rw [if_neg ho.1]; exact ihl o ho.2
      rw [hout r _ hn.1]
      exact h (o,ob) (by simp) hk
     ·rfl
theorem CG (obj:Nat→cW):∀ (Z:List Nat),∀ p∈gE obj Z,p.1∈Z
 | [],p,h=>by cases h
 | z::Z,p,h=>by
   simp only [gE] at h
   split at h
   ·rcases List.mem_cons.1 h with rfl | h
    ·simp
    ·exact List.mem_cons_of_mem _ (CG obj Z p h)
   ·exact List.mem_cons_of_mem _ (CG obj Z p h)
theorem Fj {ρ Z:List Nat} {tmp:Bool} {aH aA:List aG} {base:Nat} {r:LV} (hn:ρ.Nodup) (hz:∀ z∈Z,z∉ρ) {obj:Nat→cW}
  (ho:∀ (i o:Nat),ρ[i]? = some o→∃ ob,aH[i]? = some ob∧obj o=.live (fC (bE ρ base) ob)) {keep:Nat→Bool} (hk:∀ (i o:Nat),ρ[i]? = some o→keep o=false→aA[i]? = aH[i]?) (nw:List aG) :
  bQ obj base { r:=rn (bE ρ base) r,rd:=ρ++Z,wr:=((ρ.zip (aA.map (fC (bE ρ base)))).filter fun p=>keep p.1)++(if tmp then [] else gE obj Z),nw:=nw } =
   bQ obj base { r:=rn (bE ρ base) r,rd:=ρ++Z,wr:=(ρ.zip (aA.map (fC (bE ρ base))))++(if tmp then [] else gE obj Z),nw:=nw }:=by
 unfold bQ
 dsimp only
 have hap:∀ (l m:List (Nat×aG)) (obj:Nat→cW),de (l++m) obj=de l (de m obj):=by
  intro l m obj
  induction l with
  | nil=>rfl
  | cons p l ih=>obtain ⟨a,b⟩:=p; simp only [List.cons_append,de,ih]
 rw [hap,hap,vH]
 ·have sub:∀ (ρ:List Nat) (l:List aG),((ρ.zip l).map (·.1)).Sublist ρ:=by
   intro ρ
   induction ρ with
   | nil=>intro l; simp
   | cons a r ih=>
     intro l
     cases l with
     | nil=>simp
     | cons b l=>simpa using ih l
  exact hn.sublist (sub _ _)
 ·intro p hp hkp
  obtain ⟨i,hi⟩:=List.mem_iff_getElem?.1 hp
  rw [List.getElem?_zip_eq_some] at hi
  obtain ⟨h1,h2⟩:=hi
  have h3:=hk i p.1 h1 hkp
  obtain ⟨ob,h4,h5⟩:=ho i p.1 h1
  rw [List.getElem?_map,h3,h4] at h2
  simp only [Option.map_some,Option.some.injEq] at h2
  have hout:∀ (l:List (Nat×aG)) (o:Nat),o∉l.map (·.1)→de l obj o=obj o:=by
   intro l
   induction l with
   | nil=>intro o _; rfl
   | cons p l ihl=>
     intro o ho
     obtain ⟨a,b⟩:=p
     simp only [List.map_cons,List.mem_cons,not_or] at ho
     simp only [de]; rw [if_neg ho.1]; exact ihl o ho.2
  rw [hout _ _ ?_,h5,← h2]
  intro hm
  obtain ⟨q,hq,Cz⟩:=List.mem_map.1 hm
  split at hq
  ·cases hq
  ·exact hz _ (CG obj Z q hq) (Cz ▸ List.mem_of_getElem? h1)
theorem G9 (S:aN G J w ι obj) (he:∀ t,dF J w ι (get t) (a.tmps.getD t Go.undef)) {f:bY} {args:List bY} {e:fA} (hE:kX P G get obj base (.call f args) e) (hfree:∀ j,j<e.nw.length→obj (base+j)=.free) {o:Oper} (hc:mE P o.op=some (.call f args)) :
  cS P o a w (bB G obj (bQ obj base e) J ι w e.r):=by
 replace hc:=sW hc
 obtain ⟨dst,op,type,pos,after,guard⟩:=o
 dsimp only at hc
 obtain ⟨F,as,ts,rfl,hF,hargs⟩:∃ F as ts,op=.call ⟨.value F,as,ts⟩∧aL F=some f∧ee as.toList=some args:=by
  cases op with
  | call c=>
    obtain ⟨callee,as,ts⟩:=c
    cases callee with
    | value F=>
      simp only [cV] at hc
      split at hc
      ·rename_i f' args' h1 h2; cases hc; exact ⟨F,as,ts,rfl,h1,h2⟩
      ·cases hc
    | invoke r m=>simp [cV] at hc
    | builtin b=>
      exfalso
      cases b <;> simp only [cV] at hc <;> (repeat' split at hc) <;> cases hc
  | unOp u T x=>exfalso; cases u <;> simp only [cV] at hc <;> (try (cases hc; done)) <;> (repeat' split at hc) <;> cases hc
  | _=>
    exfalso
    simp only [cV] at hc <;> (repeat' split at hc) <;> cases hc
 simp only [kX] at hE
 split at hE
 ·rename_i k fs cs jq
  have Gz:=bp S he hF
  have hrA:=qN S he hargs
  obtain ⟨fs',cs',hval,hfs,hcs⟩:∃ fs' cs',a.eval F=.func (.func k) fs' cs'∧cL J w ι fs fs'.toList∧cL J w ι cs cs'.toList:=by
   generalize f.ev G get=x at jq Gz
   unfold callee at jq
   split at jq
   ·cases jq
    obtain ⟨fs',cs',h1,h2,h3⟩:=Gz
    exact ⟨fs',cs',h1,h2.Db,h3.Db⟩
   ·cases jq
    obtain ⟨fs',cs',h1,h2,h3⟩:=Gz
    exact ⟨fs',cs',h1,h2,h3⟩
   ·cases jq
  obtain ⟨ρ,Z,tmp,bh,aH,r,aA,keep,hkeep,hn,hz,wH,hl,e_,hid,ue,Ew,hle,CC,rfl⟩:=hE.ex
  obtain ⟨hent,GI⟩:=CC
  obtain ⟨SF,_⟩:=S.sub (base:=base) hn hz hl e_ hid wH
  have Gy:cL J w ι (fs++args.map (·.ev G get)++cs) (fs'++as.map a.eval++cs').toList:=by
   simp only [Array.toList_append,Array.toList_map]
   exact (hfs.append hrA).append hcs
  have NP:=GI _ _ w (fs'++as.map a.eval++cs') SF (gW S _ _ _ ue Gy)
  have hrun:(execOp a.eval ⟨dst,.call ⟨.value F,as,ts⟩,type,pos,after,guard⟩).run P w=.ok (.enter k (fs'++as.map a.eval++cs')) w:=by
   simp only [execOp,resolve,Sem.run_bind,hval,Deferred.ofValue,Sem.run_pure,Result.andThen_ok,invoke]
   exact ru hent _ w
  intro next Q hnext
  unfold Oper.wp
  rw [hrun,Oper.upon_enter]
  refine Calls.mono NP (fun e w'' ⟨v,eu,hA⟩=>?_)
  subst eu
  refine hnext v w'' ?_
  simp only [List.length_map,List.length_drop] at hfree
  rw [Fj hn hz e_ hkeep]
  exact bB.call S hn hz hl e_ hid wH Ew hle hfree hA
 ·exact hE.elim
theorem Oz (S:aN G J w ι obj) (he:∀ t,dF J w ι (get t) (a.tmps.getD t Go.undef)) {f:bY} {args:List bY} {e:fA} {p:Value} {k:Nat} {fs cs:List LV} (jq:callee (f.ev G get)=some (k,fs,cs)) (hE:fB P G k (fs++args.map (·.ev G get)++cs) obj base p e) (hfree:∀ j,j<e.nw.length→obj (base+j)=.free) {o:Oper} (hc:mE P o.op=some (.call f args))
  (next:Act→World→Prop) (Q:Exit→Act→World→Prop) (hQ:∀ w',bB G obj (bQ obj base e) J ι w .top Go.undef w'→Q (.panic [{ v:=p,recovered:=false }]) a w'):o.wp P a w next Q:=by
 replace hc:=sW hc
 obtain ⟨dst,op,type,pos,after,guard⟩:=o
 dsimp only at hc
 obtain ⟨F,as,ts,rfl,hF,hargs⟩:∃ F as ts,op=.call ⟨.value F,as,ts⟩∧aL F=some f∧ee as.toList=some args:=by
  cases op with
  | call c=>
    obtain ⟨callee,as,ts⟩:=c
    cases callee with
    | value F=>
      simp only [cV] at hc
      split at hc
      ·rename_i f' args' h1 h2; cases hc; exact ⟨F,as,ts,rfl,h1,h2⟩
      ·cases hc
    | invoke r m=>simp [cV] at hc
    | builtin b=>
      exfalso
      cases b <;> simp only [cV] at hc <;> (repeat' split at hc) <;> cases hc
  | unOp u T x=>exfalso; cases u <;> simp only [cV] at hc <;> (try (cases hc; done)) <;> (repeat' split at hc) <;> cases hc
  | _=>
    exfalso
    simp only [cV] at hc <;> (repeat' split at hc) <;> cases hc
 have Gz:=bp S he hF
 have hrA:=qN S he hargs
 obtain ⟨fs',cs',hval,hfs,hcs⟩:∃ fs' cs',a.eval F=.func (.func k) fs' cs'∧cL J w ι fs fs'.toList∧cL J w ι cs cs'.toList:=by
  generalize f.ev G get=x at jq Gz
  unfold callee at jq
  split at jq
  ·cases jq
   obtain ⟨fs',cs',h1,h2,h3⟩:=Gz
   exact ⟨fs',cs',h1,h2.Db,h3.Db⟩
  ·cases jq
   obtain ⟨fs',cs',h1,h2,h3⟩:=Gz
   exact ⟨fs',cs',h1,h2,h3⟩
  ·cases jq
 obtain ⟨ρ,Z,bh,aH,aA,hn,hz,wH,hl,e_,hid,ue,hle,CC,rfl⟩:=hE.ex
 obtain ⟨hent,GI⟩:=CC
 obtain ⟨SF,_⟩:=S.sub (base:=base) hn hz hl e_ hid wH
 have Gy:cL J w ι (fs++args.map (·.ev G get)++cs) (fs'++as.map a.eval++cs').toList:=by
  simp only [Array.toList_append,Array.toList_map]
  exact (hfs.append hrA).append hcs
 have NP:=GI _ _ w (fs'++as.map a.eval++cs') SF (gW S _ _ _ ue Gy)
 have hrun:(execOp a.eval ⟨dst,.call ⟨.value F,as,ts⟩,type,pos,after,guard⟩).run P w=.ok (.enter k (fs'++as.map a.eval++cs')) w:=by
  simp only [execOp,resolve,Sem.run_bind,hval,Deferred.ofValue,Sem.run_pure,Result.andThen_ok,invoke]
  exact ru hent _ w
 unfold Oper.wp
 rw [hrun,Oper.upon_enter]
 refine Calls.mono NP (fun e w'' ⟨eu,hA⟩=>?_)
 subst eu
 refine hQ w'' ?_
 simp only [List.length_map,List.length_drop] at hfree
 have:=bB.call (tmp:=false) S hn hz hl e_ hid wH (fun h=>by cases h) hle hfree hA
 simpa [rn] using this
theorem Hw (S:aN G J w ι obj) (he:∀ t,dF J w ι (get t) (a.tmps.getD t Go.undef)) {i:I} {e:fA} (hE:kX P G get obj base i e) (hfree:∀ j,j<e.nw.length→obj (base+j)=.free) {o:Oper} (hc:mE P o.op=some i) :
  cS P o a w (bB G obj (bQ obj base e) J ι w e.r):=by
 by_cases h:∃ f args,i=.call f args
 ·obtain ⟨f,args,rfl⟩:=h
  exact G9 S he hE hfree hc
 ·have:kX P G get obj base i e=(cR G get obj base i=some e):=by
   cases i <;> first | rfl | (exfalso; exact h ⟨_,_,rfl⟩)
  rw [this] at hE
  exact GQ S he hE hfree hc
end
theorem xh {l:List (Option aG)} {o:Nat} {ob:aG} (h:ay l o=.live ob):o<l.length:=by
 unfold ay at h
 split at h
 ·cases h
 ·cases h
 ·rename_i hh; exact (List.getElem?_eq_some_iff.1 hh).1
theorem dw {l:List (Option aG)} {o:Nat} (h:l.length≤o):ay l o=.free:=by
 unfold ay; rw [List.getElem?_eq_none h]
theorem pg:∀ (wr:List (Nat×aG)) (l:List (Option aG)),(ga wr l).length=l.length
 | [],_=>rfl
 | (k,ob)::r,l=>by simp only [ga,List.length_set,pg r l]
theorem xH:∀ (wr:List (Nat×aG)) (l:List (Option aG)),(∀ p∈wr,p.1<l.length)→∀ o,ay (ga wr l) o=de wr (ay l) o
 | [],_,_,_=>rfl
 | (k,ob)::r,l,h,o=>by
   have hk:k<(ga r l).length:=by rw [pg]; exact h (k,ob) (by simp)
   simp only [ga,de]
   unfold ay
   by_cases ho:o=k
   ·subst ho
    rw [List.getElem?_set_self hk]; simp
   ·rw [List.getElem?_set_ne (fun e=>ho e.symm),if_neg ho]
    exact xH r l (fun p hp=>h p (by simp [hp])) o
theorem IP (l:List (Option aG)) (e:fA) (h:∀ p∈e.wr,p.1<l.length):ay (ga e.wr l++e.nw.map some)=bQ (ay l) l.length e:=by
 funext o
 simp only [bQ,tQ]
 have hl:=pg e.wr l
 by_cases ho:l.length≤o
 ·rw [if_pos ho]
  have:ay (ga e.wr l++e.nw.map some) o=(match e.nw[o-l.length]? with | some ob=>.live ob | none=>.free):=by
   unfold ay
   rw [List.getElem?_append_right (by omega),hl,List.getElem?_map]
   cases e.nw[o-l.length]? <;> rfl
  rw [this]
  cases e.nw[o-l.length]? with
  | some ob=>rfl
  | none=>
    show cW.free=de e.wr (ay l) o
    rw [← xH e.wr l h o,dw (by omega)]
 ·rw [if_neg ho,← xH e.wr l h o]
  unfold ay
  rw [List.getElem?_append_left (by omega)]
theorem EK {obj:Nat→cW} {x:LV} {o:Nat} {ob:aG} {d:DV} (h:qb obj x=some (o,ob,d)):∃ Y2,obj o=.live Y2:=by
 unfold qb at h
 split at h
 ·split at h
  ·rename_i ho
   split at h
   ·cases h; exact ⟨_,ho⟩
   ·cases h
  ·cases h
 ·cases h
theorem s_ {G:Nat→Option (List DV)} {get:Nat→LV} {obj:Nat→cW} {base:Nat} {i:I} {e:fA} (h:cR G get obj base i=some e):∀ p∈e.wr,∃ ob,obj p.1=.live ob:=by
 intro p hp
 by_cases hm:∃ m,i=.more m
 ·obtain ⟨m,rfl⟩:=hm
  exact S8 (by simpa only [cR] using h) p hp
 cases i <;> (try (exfalso; exact hm ⟨_,rfl⟩; done)) <;> simp only [cR] at h <;> (repeat' split at h) <;> (try (cases h; done)) <;> cases h <;> first
  | (cases hp; done)
  | (simp only [List.mem_singleton] at hp; subst hp; exact ⟨_,by assumption⟩)
  | (simp only [List.mem_singleton] at hp; subst hp; rename_i hf; exact EK hf)
theorem rq (obj:Nat→cW):∀ (Z:List Nat),∀ p∈gE obj Z,∃ ob,obj p.1=.live ob
 | [],p,h=>by cases h
 | z::Z,p,h=>by
   simp only [gE] at h
   split at h
   ·rename_i et e rows hz
    rcases List.mem_cons.1 h with rfl | h
    ·exact ⟨_,hz⟩
    ·exact rq obj Z p h
   ·exact rq obj Z p h
theorem kX.s_ {P:Program} {G:Nat→Option (List DV)} {get:Nat→LV} {obj:Nat→cW} {base:Nat} {i:I} {e:fA} (h:kX P G get obj base i e):∀ p∈e.wr,∃ ob,obj p.1=.live ob:=by
 by_cases hi:∃ f args,i=.call f args
 ·obtain ⟨f,args,rfl⟩:=hi
  simp only [kX] at h
  split at h
  ·obtain ⟨ρ,Z,tmp,bh,aH,r,aA,keep,hkeep,hn,hz,wH,hl,e_,hid,ue,Ew,hle,CC,rfl⟩:=h.ex
   intro p hp
   simp only [List.mem_append] at hp
   rcases hp with hp | hp
   ·have:p.1∈ρ:=(List.of_mem_zip (List.mem_filter.1 hp).1).1
    obtain ⟨i,hi⟩:=List.mem_iff_getElem?.1 this
    obtain ⟨ob,_,k⟩:=e_ i _ hi
    exact ⟨_,k⟩
   ·split at hp
    ·cases hp
    ·exact rq obj Z p hp
  ·exact h.elim
 ·have:kX P G get obj base i e=(cR G get obj base i=some e):=by
   cases i <;> first | rfl | (exfalso; exact hi ⟨_,_,rfl⟩)
  rw [this] at h
  exact Dv.s_ h
theorem fB.s_ {P:Program} {G:Nat→Option (List DV)} {f:Nat} {args:List LV} {obj:Nat→cW} {base:Nat} {p:Value} {e:fA} (h:fB P G f args obj base p e):∀ q∈e.wr,∃ ob,obj q.1=.live ob:=by
 obtain ⟨ρ,Z,bh,aH,aA,hn,hz,wH,hl,e_,hid,ue,hle,CC,rfl⟩:=h.ex
 intro q hq
 simp only [List.mem_append] at hq
 rcases hq with hq | hq
 ·have:q.1∈ρ:=(List.of_mem_zip hq).1
  obtain ⟨i,hi⟩:=List.mem_iff_getElem?.1 this
  obtain ⟨ob,_,k⟩:=e_ i _ hi
  exact ⟨_,k⟩
 ·exact rq obj Z q hq
def j3 (w w':World):Prop:=∀ (b:Nat) (ob:Obj),w.heap[b]? = some ob→ob.vY=false→w'.heap[b]? = some ob
theorem j3.refl (w:World):j3 w w:=fun _ _ h _=>h
theorem j3.trans {w w' w'':World} (h:j3 w w') (k:j3 w' w''):j3 w w'':=fun b ob hb hc=>k b ob (h b ob hb hc) hc
theorem Ext.nc {G:Nat→Option (List DV)} {J J':Nat→Prop} {w w':World} {ι ι':Nat→Nat→Option Nat} {obj obj':Nat→cW} (S:aN G J w ι obj) (E:Ext obj obj' J J' ι ι' w w'):j3 w w':=by
 intro b ob hb hc
 rw [E.ev.same b (Array.getElem?_eq_some_iff.1 hb).1 (fun ho=>?_)]
 ·exact hb
 ·obtain ⟨x,h,hx⟩:=S.B_ ho
  rw [hb] at h; cases h; rw [hc] at hx; cases hx
def YS:Nat:=4294967294
def isNil:LV→Bool
 | .d (.val (.slice none 0 0))=>true
 | _=>false
structure Dk where
 ds:List Deferred
 vW:Bool
 lo:Nat
 ys:LV→World→Prop
 keep:∀ v w w',j3 w w'→ys v w→ys v w'
 top:∀ w,ys .top w
 tot:∀ v w,isNil v=true→ys v w→∀ u,ys u w
def Dk.plain (ds:List Deferred) (mk:Bool) (lo:Nat:=0):Dk:=⟨ds,mk,lo,fun _ _=>True,fun _ _ _ _ _=>trivial,fun _=>trivial,fun _ _ _ _ _=>trivial⟩
def Marks (D:Dk) (ds:List Deferred) (w:World):Prop:=∃ Bs:List Nat,(D.vW=false→Bs=[])∧Bs.Nodup∧ds=Bs.map (fun b=>{ target:=.collected b,args:=#[] })++D.ds∧∀ b∈Bs,D.lo≤b∧w.heap[b]? = some (.deferred (some []))
theorem Marks.keep {D:Dk} {ds:List Deferred} {w w':World} (h:Marks D ds w) (k:j3 w w'):Marks D ds w':=by
 obtain ⟨Bs,h1,h2,h3,h4⟩:=h
 exact ⟨Bs,h1,h2,h3,fun b hb=>⟨(h4 b hb).1,k b _ (h4 b hb).2 rfl⟩⟩
theorem Marks.plain (D:Dk) (w:World):Marks D D.ds w:=⟨[],fun _=>rfl,List.nodup_nil,rfl,fun _ h=>by cases h⟩
theorem Marks.none {D:Dk} {ds:List Deferred} {w:World} (h:Marks D ds w) (k:D.vW=false):ds=D.ds:=by
 obtain ⟨Bs,h1,h2,h3,h4⟩:=h
 rw [h1 k] at h3; simpa using h3
structure Sim (G:Nat→Option (List DV)) (D:Dk) (N:Nat) (J:Nat→Prop) (w:World) (ι:Nat→Nat→Option Nat) (a:Act) (get:Nat→LV) (obj:Nat→cW):Prop where
 store:aN G J w ι obj
 env:∀ t,dF J w ι (get t) (a.tmps.getD t Go.undef)
 size:a.tmps.size=N
 defers:Marks D a.defers w
 ys:D.ys (get YS) w
 lim:N≤YS
def gM (dst:Option Nat) (r:LV) (get:Nat→LV) (t:Nat):LV:=if dst=some t then r else get t
theorem ze (dst:Option Nat) (r:LV) (env:List (Nat×LV)):aO (ej dst r env)=gM dst r (aO env):=by
 funext t
 cases dst with
 | none=>simp [ej,gM]
 | some d=>simp [ej,aO,gM]
theorem Sim.step {G:Nat→Option (List DV)} {D:Dk} {N:Nat} {J:Nat→Prop} {w w':World} {ι:Nat→Nat→Option Nat} {a:Act} {get:Nat→LV} {obj obj':Nat→cW} (S:Sim G D N J w ι a get obj) {dst:Option Nat} (hd:∀ d,dst=some d→d<N) {r:LV} {v:Value}
  (h:bB G obj obj' J ι w r v w'):∃ J' ι',Sim G D N J' w' ι' (a.put dst v) (gM dst r get) obj'∧Ext obj obj' J J' ι ι' w w':=by
 obtain ⟨J',ι',S',hr,E⟩:=h
 have hnc:=E.nc S.store
 refine ⟨J',ι',⟨S',fun t=>?_,?_,?_,?_,S.lim⟩,E⟩
 ·cases dst with
  | none=>simpa [gM,Act.put] using (S.env t).ev S.store E.ev
  | some d=>
    have SE:=hd d rfl
    simp only [gM,Act.put,Option.some.injEq]
    by_cases ht:d=t
    ·subst ht
     rw [if_pos rfl]
     have:(a.tmps.setIfInBounds d v).getD d Go.undef=v:=by simp [Array.getD_eq_getD_getElem?,S.size,SE]
     rw [this]; exact hr
    ·rw [if_neg ht]
     have:(a.tmps.setIfInBounds d v).getD t Go.undef=a.tmps.getD t Go.undef:=by
      simp [Array.getD_eq_getD_getElem?,Array.getElem?_setIfInBounds_ne ht]
     rw [this]; exact (S.env t).ev S.store E.ev
 ·cases dst <;> simp [Act.put,S.size]
 ·have h1:=S.defers.keep hnc
  cases dst <;> exact h1
 ·have h1:=D.keep _ _ _ hnc S.ys
  have h2:gM dst r get YS=get YS:=by
   unfold gM
   rw [if_neg]
   intro h
   have h3:=hd YS h
   have:=S.lim
   omega
  rw [h2]; exact h1
end Dv
namespace Dv
open Go
structure qD where
 tr:List Nat
 td:Option Nat
 r:LV
 rd:List Nat
 ow:List (Nat×aG)
def qD.wr (e:qD):List Nat:=e.ow.map (·.1)
theorem tc:∀ (l:List (Nat×aG)) (obj:Nat→cW) (o:Nat),o∉l.map (·.1)→de l obj o=obj o
 | [],_,_,_=>rfl
 | (k,ob)::r,obj,o,h=>by
   simp only [List.map_cons,List.mem_cons,not_or] at h
   simp only [de]; rw [if_neg h.1]; exact tc r obj o h.2
theorem BM:∀ (l:List (Nat×aG)) (obj obj':Nat→cW) (o:Nat),o∈l.map (·.1)→de l obj o=de l obj' o
 | [],_,_,_,h=>by cases h
 | (k,ob)::r,obj,obj',o,h=>by
   simp only [de]
   by_cases ho:o=k
   ·rw [if_pos ho,if_pos ho]
   ·rw [if_neg ho,if_neg ho]
    exact BM r obj obj' o (by simpa [ho] using h)
section
variable (E:Nat→qD) (g0:Nat→LV) (o0:Nat→cW)
def jU (D:Nat→Bool):Nat→(Nat→LV)×(Nat→cW)
 | 0=>(g0,o0)
 | k+1=>if D k then (gM (E k).td (E k).r (jU D k).1,de (E k).ow (jU D k).2) else jU D k
variable {E g0 o0}
theorem BR {D D':Nat→Bool} {t:Nat} : ∀ k,(∀ j,j<k→(E j).td=some t→D j=D' j)→(jU E g0 o0 D k).1 t=(jU E g0 o0 D' k).1 t
 | 0,_=>rfl
 | k+1,h=>by
   have ih:=BR k (fun j hj=>h j (by omega))
   simp only [jU]
   by_cases ht:(E k).td=some t
   ·have:=h k (by omega) ht
    rw [this]
    split
    ·simp [gM,ht]
    ·exact ih
   ·have key:∀ D:Nat→Bool,(if D k=true then (gM (E k).td (E k).r (jU E g0 o0 D k).1,de (E k).ow (jU E g0 o0 D k).2) else jU E g0 o0 D k).1 t=(jU E g0 o0 D k).1 t:=fun D=>by
     split
     ·simp [gM,ht]
     ·rfl
    rw [key,key]; exact ih
theorem wP {D D':Nat→Bool} {o:Nat} : ∀ k,(∀ j,j<k→o∈(E j).wr→D j=D' j)→(jU E g0 o0 D k).2 o=(jU E g0 o0 D' k).2 o
 | 0,_=>rfl
 | k+1,h=>by
   have ih:=wP k (fun j hj=>h j (by omega))
   simp only [jU]
   by_cases ht:o∈(E k).wr
   ·have:=h k (by omega) ht
    rw [this]
    split
    ·exact BM _ _ _ _ ht
    ·exact ih
   ·have key:∀ D:Nat→Bool,(if D k=true then (gM (E k).td (E k).r (jU E g0 o0 D k).1,de (E k).ow (jU E g0 o0 D k).2) else jU E g0 o0 D k).2 o=(jU E g0 o0 D k).2 o:=fun D=>by
     split
     ·exact tc _ _ _ ht
     ·rfl
    rw [key,key]; exact ih
theorem Au {D:Nat→Bool} {t i:Nat} (hD:D i=true) (ht:(E i).td=some t):∀ k,i<k→(∀ j,i<j→j<k→(E j).td=some t→D j=false)→(jU E g0 o0 D k).1 t=(E i).r
 | 0,h,_=>by omega
 | k+1,h,hl=>by
   simp only [jU]
   by_cases hk:k=i
   ·subst hk; rw [if_pos hD]; simp [gM,ht]
   ·have ih:=Au hD ht k (by omega) (fun j h1 h2=>hl j h1 (by omega))
    by_cases hkt:(E k).td=some t
    ·have:=hl k (by omega) (by omega) hkt
     rw [if_neg (by simp [this])]; exact ih
    ·split
     ·simpa [gM,hkt] using ih
     ·exact ih
theorem As {D:Nat→Bool} {o i:Nat} (hD:D i=true) (ht:o∈(E i).wr):∀ k,i<k→(∀ j,i<j→j<k→o∈(E j).wr→D j=false)→∀ obj,(jU E g0 o0 D k).2 o=de (E i).ow obj o
 | 0,h,_,_=>by omega
 | k+1,h,hl,obj=>by
   simp only [jU]
   by_cases hk:k=i
   ·subst hk; rw [if_pos hD]; exact BM _ _ _ _ ht
   ·have ih:=As hD ht k (by omega) (fun j h1 h2=>hl j h1 (by omega)) obj
    by_cases hkt:o∈(E k).wr
    ·have:=hl k (by omega) (by omega) hkt
     rw [if_neg (by simp [this])]; exact ih
    ·split
     ·exact (tc _ _ _ hkt).trans ih
     ·exact ih
def uK (x y:qD):Prop:=
 (∃ t,x.td=some t∧(t∈y.tr∨y.td=some t))∨(∃ t,y.td=some t∧t∈x.tr)∨(∃ o,o∈x.wr∧(o∈y.rd∨o∈y.wr))∨(∃ o,o∈y.wr∧o∈x.rd)
variable {n:Nat} {R:Nat→Nat→Prop} (hR:∀ i j,i<j→j<n→uK (E i) (E j)→R i j)
include hR
theorem uU {D:Nat→Bool} (kK:∀ j,j<n→D j=true→∀ i,R i j→D i=true) {i:Nat} (hi:i<n) (y7:D i=false) (jN:∀ k,R k i→D k=true) {t:Nat} (ht:t∈(E i).tr∨(E i).td=some t) :
  (jU E g0 o0 D n).1 t=(jU E g0 o0 (fun j=>decide (j<i)) n).1 t:=by
 refine BR n (fun j hj hjt=>?_)
 rcases Nat.lt_trichotomy j i with h | h | h
 ·rw [jN j (hR j i h hi (.inl ⟨t,hjt,ht⟩))]; simp [h]
 ·subst h; simp [y7]
 ·have:D j=false:=by
   cases SJ:D j with
   | false=>rfl
   | true=>
     have hc:uK (E i) (E j):=by
      rcases ht with ht | ht
      ·exact .inr (.inl ⟨t,hjt,ht⟩)
      ·exact .inl ⟨t,ht,.inr hjt⟩
     have:=kK j hj SJ i (hR i j h hj hc)
     rw [y7] at this; cases this
  rw [this]; simp; omega
theorem Ar {D:Nat→Bool} (kK:∀ j,j<n→D j=true→∀ i,R i j→D i=true) {i:Nat} (hi:i<n) (y7:D i=false) (jN:∀ k,R k i→D k=true) {o:Nat} (ho:o∈(E i).rd∨o∈(E i).wr) :
  (jU E g0 o0 D n).2 o=(jU E g0 o0 (fun j=>decide (j<i)) n).2 o:=by
 refine wP n (fun j hj hjo=>?_)
 rcases Nat.lt_trichotomy j i with h | h | h
 ·rw [jN j (hR j i h hi (.inr (.inr (.inl ⟨o,hjo,ho⟩))))]; simp [h]
 ·subst h; simp [y7]
 ·have:D j=false:=by
   cases SJ:D j with
   | false=>rfl
   | true=>
     have hc:uK (E i) (E j):=by
      rcases ho with ho | ho
      ·exact .inr (.inr (.inr ⟨o,hjo,ho⟩))
      ·exact .inr (.inr (.inl ⟨o,ho,.inr hjo⟩))
     have:=kK j hj SJ i (hR i j h hj hc)
     rw [y7] at this; cases this
  rw [this]; simp; omega
theorem HB {D:Nat→Bool} (kK:∀ j,j<n→D j=true→∀ i,R i j→D i=true) {i:Nat} (hi:i<n) (y7:D i=false) :
  jU E g0 o0 (fun j=>D j||j==i) n=(gM (E i).td (E i).r (jU E g0 o0 D n).1,de (E i).ow (jU E g0 o0 D n).2):=by
 have Nx:∀ j,i<j→j<n→uK (E i) (E j)→D j=false:=fun j h hj hc=>by
  cases SJ:D j with
  | false=>rfl
  | true=>
    have:=kK j hj SJ i (hR i j h hj hc)
    rw [y7] at this; cases this
 refine Prod.ext (funext fun t=>?_) (funext fun o=>?_)
 ·simp only [gM]
  by_cases ht:(E i).td=some t
  ·rw [if_pos ht]
   refine Au (D:=fun j=>D j||j==i) (by simp) ht n hi (fun j h1 h2 hj=>?_)
   have:=Nx j h1 h2 (.inl ⟨t,ht,.inr hj⟩)
   simp [this]; omega
  ·rw [if_neg ht]
   refine BR n (fun j hj hjt=>?_)
   have:j≠i:=fun e=>ht (e ▸ hjt)
   simp [this]
 ·show (jU E g0 o0 (fun j=>D j||j==i) n).2 o=de (E i).ow (jU E g0 o0 D n).2 o
  by_cases ho:o∈(E i).wr
  ·refine As (D:=fun j=>D j||j==i) (by simp) ho n hi (fun j h1 h2 hj=>?_) _
   have:=Nx j h1 h2 (.inr (.inr (.inl ⟨o,ho,.inr hj⟩)))
   simp [this]; omega
  ·rw [tc _ _ _ ho]
   refine wP n (fun j hj hjo=>?_)
   have:j≠i:=fun e=>ho (e ▸ hjo)
   simp [this]
end
theorem count_set:∀ {l:List Bool} {i:Nat},l[i]? = some false→(l.set i true).count false+1=l.count false:=by
 intro l
 induction l with
 | nil=>intro i h; simp at h
 | cons x l ihl=>
   intro i h
   cases i with
   | zero=>simp at h; subst h; simp
   | succ i=>
     have:=ihl (i:=i) (by simpa using h)
     simp only [List.set_cons_succ,List.count_cons]
     omega
theorem FB {ro:Option Nat} {nn:Nat} {P:Program} {ops:Array Oper} {Q:Exit→Act→World→Prop} {E:Nat→qD} {g0:Nat→LV} {o0:Nat→cW} {R:Nat→Nat→Prop} (Inv:(Nat→LV)→(Nat→cW)→Act→World→Prop) (lo hi:Nat) (hhi:hi≤ops.size)
  (Kt:∀ i j,i<hi→hi≤j→j<ops.size→R i j)
  (hR:∀ i j,i<j→j<ops.size→uK (E i) (E j)→R i j)
  (hpre:∀ j o,ops[j]? = some o→∀ i,R i j→∃ e∈o.after,Region.binds .any e=true∧(e.on=i∨R i e.on))
  (hback:∀ j o,ops[j]? = some o→∀ e∈o.after,Region.binds .any e=true→e.on<j)
  (ab4:∀ i j,R i j→i<ops.size)
  (hstep:∀ i g obj,lo≤i→i<hi→(∀ t,t∈(E i).tr∨(E i).td=some t→g t=(jU E g0 o0 (fun j=>decide (j<i)) ops.size).1 t)→(∀ o,o∈(E i).rd∨o∈(E i).wr→obj o=(jU E g0 o0 (fun j=>decide (j<i)) ops.size).2 o)→
   ∀ a w K,Inv g obj a w→(∀ a' w',Inv (gM (E i).td (E i).r g) (de (E i).ow obj) a' w'→K a' w')→wpOpIn (fz ro) nn P ops Q i K a w)
  (hQ:∀ listed a w,listed.size=ops.size→(∀ j,listed.getD j false=decide (j<hi))→Inv (jU E g0 o0 (fun j=>decide (j<hi)) ops.size).1 (jU E g0 o0 (fun j=>decide (j<hi)) ops.size).2 a w→wpAnyIn (fz ro) nn P .any ops Q (listed.toList.count false) listed a w) :
  ∀ (fuel:Nat) (listed:Array Bool) (a:Act) (w:World),listed.size=ops.size→listed.toList.count false=fuel→(∀ j,listed.getD j false=true→j<hi)→(∀ j,j<lo→listed.getD j false=true)→
    (∀ j o,ops[j]? = some o→listed.getD j false=true→∀ e∈o.after,Region.binds .any e=true→listed.getD e.on false=true)→
    Inv (jU E g0 o0 (fun j=>listed.getD j false) ops.size).1 (jU E g0 o0 (fun j=>listed.getD j false) ops.size).2 a w→
    wpAnyIn (fz ro) nn P .any ops Q fuel listed a w:=by
 intro fuel
 induction fuel with
 | zero=>
   intro listed a w hls hc hlh hlo hcl hI
   have hall:∀ j,j<ops.size→listed.getD j false=true:=by
    intro j hj
    have hjj:j<listed.size:=by omega
    have h1:=List.count_eq_zero.1 hc
    cases hx:listed[j] with
    | true=>simp [hjj,hx]
    | false=>exact absurd (by rw [← hx]; simp) h1
   have hD:(fun j=>listed.getD j false)=fun j=>decide (j<hi):=by
    funext j
    cases hx:listed.getD j false with
    | true=>simp [hlh j hx]
    | false=>
      by_cases hj:j<ops.size
      ·rw [hall j hj] at hx; cases hx
      ·simp; omega
   rw [hD] at hI
   have:=hQ listed a w hls (fun j=>congrFun hD j) hI
   rw [hc] at this; exact this
 | succ fuel ih=>
   intro listed a w hls hc hlh hlo hcl hI
   by_cases hfull:∀ j,j<hi→listed.getD j false=true
   ·have hD:(fun j=>listed.getD j false)=fun j=>decide (j<hi):=by
     funext j
     by_cases hj:j<hi
     ·simp [hfull j hj,hj]
     ·cases hx:listed.getD j false with
      | true=>exact absurd (hlh j hx) hj
      | false=>simp [hj]
    rw [hD] at hI
    have:=hQ listed a w hls (fun j=>congrFun hD j) hI
    rw [hc] at this; exact this
   ·obtain ⟨j0,hj0⟩:=Classical.not_forall.1 hfull
    obtain ⟨hj0,SD⟩:j0<hi∧listed.getD j0 false=false:=by
     by_cases h:j0<hi
     ·exact ⟨h,by cases hx:listed.getD j0 false with
       | true=>exact absurd (fun _=>hx) hj0
       | false=>rfl⟩
     ·exact absurd (fun h'=>absurd h' h) hj0
    -- closed below
    have kK:∀ j,j<ops.size→listed.getD j false=true→∀ k,R k j→listed.getD k false=true:=by
     intro j
     induction j using Nat.strongRecOn with
     | _ j ihj=>
       intro hj SJ k hk
       obtain ⟨e,he,hb,yZ⟩:=hpre j _ (Array.getElem?_eq_getElem hj) k hk
       have hlt:=hback j _ (Array.getElem?_eq_getElem hj) e he hb
       have hDe:=hcl j _ (Array.getElem?_eq_getElem hj) SJ e he hb
       rcases yZ with rfl | yZ
       ·exact hDe
       ·exact ihj e.on hlt (by omega) hDe k yZ
    have hrd:∀ i o,ops[i]? = some o→(∀ e∈o.after,Region.binds .any e=true→listed.getD e.on false=true)→∀ k,R k i→listed.getD k false=true:=by
     intro i o ho hall k hk
     have hilt:=(Array.getElem?_eq_some_iff.1 ho).1
     obtain ⟨e,he,hb,yZ⟩:=hpre i o ho k hk
     have hlt:=hback i o ho e he hb
     rcases yZ with rfl | yZ
     ·exact hall e he hb
     ·exact kK e.on (by omega) (hall e he hb) k yZ
    refine ⟨fun hr=>?_,fun i hi'=>?_⟩
    ·exfalso
     have GD:∀ j,j<ops.size→listed.getD j false=true:=by
      intro j
      induction j using Nat.strongRecOn with
      | _ j ih=>
        intro hj
        cases hl:listed.getD j false with
        | true=>rfl
        | false=>
          have hjj:j<listed.size:=by omega
          have hmem:j∈Region.ready .any ops listed:=by
           rw [mem_ready]
           refine ⟨?_,ops[j],Array.getElem?_eq_getElem hj,fun e he hb=>?_⟩
           ·simp [hjj] at hl ⊢; exact hl
           ·have hlt:=hback j _ (Array.getElem?_eq_getElem hj) e he hb
            exact ih e.on hlt (by omega)
          rw [hr] at hmem; cases hmem
     rw [GD j0 (by omega)] at SD; cases SD
    ·rw [mem_ready] at hi'
     obtain ⟨hun,o,ho,hall⟩:=hi'
     have hilt:=(Array.getElem?_eq_some_iff.1 ho).1
     have hil:i<listed.size:=by omega
     have y7:listed.getD i false=false:=by simp [hil] at hun ⊢; exact hun
     have jN:=hrd i o ho hall
     have aar:i<hi:=by
      rcases Nat.lt_or_ge i hi with h | h
      ·exact h
      ·rw [jN j0 (Kt j0 i hj0 h hilt)] at SD; cases SD
     have abJ:lo≤i:=Nat.le_of_not_lt fun h=>by rw [hlo i h] at y7; cases y7
     refine hstep i _ _ abJ aar (fun t ht=>uU (D:=fun j=>listed.getD j false) hR kK hilt y7 jN ht) (fun q hq=>Ar (D:=fun j=>listed.getD j false) hR kK hilt y7 jN hq) a w _ hI (fun a' w' hI'=>?_)
     have oW:∀ j,(listed.setIfInBounds i true).getD j false=(listed.getD j false||j==i):=by
      intro j
      by_cases hj:j=i
      ·subst hj; simp [hil]
      ·rw [getD_set_ne false (fun e=>hj e.symm)]
       simp [hj]
     refine ih (listed.setIfInBounds i true) a' w' (by simpa using hls) ?_ ?_ (fun j hj=>by rw [oW,hlo j hj]; rfl) ?_ ?_
     ·have og:listed.toList[i]? = some false:=by
       simp [hil] at hun
       simp [hil,hun]
      have:=count_set og
      rw [Array.toList_setIfInBounds]
      omega
     ·intro j hj
      rw [oW] at hj
      simp only [Bool.or_eq_true,beq_iff_eq] at hj
      rcases hj with hj | rfl
      ·exact hlh j hj
      ·exact aar
     ·intro j oj De hj e he hb
      rw [oW] at hj ⊢
      simp only [Bool.or_eq_true,beq_iff_eq] at hj ⊢
      rcases hj with hj | rfl
      ·exact .inl (hcl j oj De hj e he hb)
      ·rw [ho] at De; cases De
       exact .inl (hall e he hb)
     ·have e1:(fun j=>(listed.setIfInBounds i true).getD j false)=(fun j=>listed.getD j false||j==i):=funext oW
      rw [e1,HB hR kK hilt y7]
      exact hI'
theorem wpAny_done {ro:Option Nat} {nn:Nat} {P:Program} {ops:Array Oper} {Q:Exit→Act→World→Prop} {listed:Array Bool} {a:Act} {w:World} (hls:listed.size=ops.size) (hD:∀ j,listed.getD j false=decide (j<ops.size)) (hQ:Q .normal a w):wpAnyIn (fz ro) nn P .any ops Q (listed.toList.count false) listed a w:=by
 have hc:listed.toList.count false=0:=by
  refine List.count_eq_zero.2 (fun hm=>?_)
  obtain ⟨i,hi,he⟩:=List.mem_iff_getElem.1 hm
  have hi:i<listed.size:=by simpa using hi
  have:=hD i
  rw [show listed.getD i false=listed[i] by simp [hi]] at this
  have he:listed[i]=false:=by simpa using he
  rw [he] at this
  simp at this; omega
 rw [hc]
 refine ⟨?_,hQ⟩
 apply List.eq_nil_iff_forall_not_mem.2
 intro j hj
 rw [mem_ready] at hj
 obtain ⟨h1,o,ho,_⟩:=hj
 have aap:=(Array.getElem?_eq_some_iff.1 ho).1
 have h2:=hD j
 have hjj:j<listed.size:=by omega
 simp [hjj] at h1 h2
 rw [h1] at h2; simp at h2; omega
theorem Jb {ro:Option Nat} {nn:Nat} {P:Program} {ops:Array Oper} {Q:Exit→Act→World→Prop} {R:Nat→Nat→Prop} {p:Nat} (hp:p<ops.size) (Kt:∀ j,p<j→j<ops.size→R p j)
  (hpre:∀ j o,ops[j]? = some o→∀ i,R i j→∃ e∈o.after,Region.binds .any e=true∧(e.on=i∨R i e.on))
  (hback:∀ j o,ops[j]? = some o→∀ e∈o.after,Region.binds .any e=true→e.on<j)
  {listed:Array Bool} {a:Act} {w:World} (hls:listed.size=ops.size) (hD:∀ j,listed.getD j false=decide (j<p))
  (h:∀ K:Act→World→Prop,(∀ a' w',(∀ tU:Array Bool,tU.size=ops.size→(∀ j,tU.getD j false=decide (j<p+1))→wpAnyIn (fz ro) nn P .any ops Q (tU.toList.count false) tU a' w')→K a' w')→wpOpIn (fz ro) nn P ops Q p K a w):wpAnyIn (fz ro) nn P .any ops Q (listed.toList.count false) listed a w:=by
 have hlt:∀ j,j<ops.size→∀ i,R i j→i<j:=by
  intro j
  induction j using Nat.strongRecOn with
  | _ j ih=>
    intro hj i hi
    obtain ⟨e,he,hb,yZ⟩:=hpre j _ (Array.getElem?_eq_getElem hj) i hi
    have h1:=hback j _ (Array.getElem?_eq_getElem hj) e he hb
    rcases yZ with rfl | yZ
    ·exact h1
    ·have:=ih e.on h1 (by omega) i yZ; omega
 have iZ:p<listed.size:=by omega
 have hpf:listed[p]=false:=by have:=hD p; simpa [iZ] using this
 have og:listed.toList[p]? = some false:=by simp [iZ,hpf]
 have Ks:=count_set og
 have oW:∀ j,(listed.setIfInBounds p true).getD j false=decide (j<p+1):=by
  intro j
  by_cases hj:j=p
  ·subst hj; simp [iZ]
  ·rw [getD_set_ne false (fun e=>hj e.symm),hD]
   simp; omega
 rw [← Array.toList_setIfInBounds] at Ks
 rw [← Ks]
 have aaa:∀ (i:Nat) (o:Oper),ops[i]? = some o→((∀ e∈o.after,Region.binds .any e=true→listed.getD e.on false=true)↔∀ e∈o.after,Region.binds .any e=true→e.on<p):=fun i o _=>by simp only [hD,decide_eq_true_eq]
 refine ⟨fun hr=>?_,fun i hi=>?_⟩
 ·exfalso
  have:p∈Region.ready .any ops listed:=by
   rw [mem_ready]
   exact ⟨by simp [iZ,hpf],ops[p],Array.getElem?_eq_getElem hp,(aaa p _ (Array.getElem?_eq_getElem hp)).2 fun e he hb=>hback p _ (Array.getElem?_eq_getElem hp) e he hb⟩
  rw [hr] at this; cases this
 ·rw [mem_ready] at hi
  obtain ⟨hun,o,ho,hall⟩:=hi
  have hilt:=(Array.getElem?_eq_some_iff.1 ho).1
  have hil:i<listed.size:=by omega
  have y7:listed.getD i false=false:=by simp [hil] at hun ⊢; exact hun
  rw [hD] at y7
  have YE:i=p:=by
   rcases Nat.lt_trichotomy i p with h1 | h1 | h1
   ·simp [h1] at y7
   ·exact h1
   ·obtain ⟨e,he,hb,yZ⟩:=hpre i o ho p (Kt i h1 hilt)
    have h2:=(aaa i o ho).1 hall e he hb
    rcases yZ with h3 | h3
    ·omega
    ·have:=hlt e.on (by omega) p h3; omega
  subst YE
  exact h _ fun a' w' hk=>hk _ (by simpa using hls) oW
theorem Ja {ro:Option Nat} {nn:Nat} {P:Program} {ops:Array Oper} {Q:Exit→Act→World→Prop} {E:Nat→qD} {g0:Nat→LV} {o0:Nat→cW} {R:Nat→Nat→Prop} (Inv:(Nat→LV)→(Nat→cW)→Act→World→Prop) (lo p:Nat) (hp:p<ops.size)
  (hR:∀ i j,i<j→j<ops.size→uK (E i) (E j)→R i j)
  (hpre:∀ j o,ops[j]? = some o→∀ i,R i j→∃ e∈o.after,Region.binds .any e=true∧(e.on=i∨R i e.on))
  (hback:∀ j o,ops[j]? = some o→∀ e∈o.after,Region.binds .any e=true→e.on<j)
  (ab4:∀ i j,R i j→i<ops.size)
  (hstep:∀ i g obj,lo≤i→i<ops.size→i≠p→¬ R p i→(∀ t,t∈(E i).tr∨(E i).td=some t→g t=(jU E g0 o0 (fun j=>decide (j<i)) ops.size).1 t)→(∀ o,o∈(E i).rd∨o∈(E i).wr→obj o=(jU E g0 o0 (fun j=>decide (j<i)) ops.size).2 o)→
   ∀ a w K,Inv g obj a w→(∀ a' w',Inv (gM (E i).td (E i).r g) (de (E i).ow obj) a' w'→K a' w')→wpOpIn (fz ro) nn P ops Q i K a w)
  (abA:∀ j,j<ops.size→(E j).wr≠[]→R j p∧j<p)
  (Nn:∀ g obj,(∀ t,t∈(E p).tr→g t=(jU E g0 o0 (fun j=>decide (j<p)) ops.size).1 t)→obj=(jU E g0 o0 (fun j=>decide (j<p)) ops.size).2→∀ a w K,Inv g obj a w→wpOpIn (fz ro) nn P ops Q p K a w) :
  ∀ (fuel:Nat) (listed:Array Bool) (a:Act) (w:World),listed.size=ops.size→listed.toList.count false=fuel→
    (∀ j o,ops[j]? = some o→listed.getD j false=true→∀ e∈o.after,Region.binds .any e=true→listed.getD e.on false=true)→
    (∀ j,j<lo→listed.getD j false=true)→listed.getD p false=false→Inv (jU E g0 o0 (fun j=>listed.getD j false) ops.size).1 (jU E g0 o0 (fun j=>listed.getD j false) ops.size).2 a w→
    wpAnyIn (fz ro) nn P .any ops Q fuel listed a w:=by
 -- what is ready,when all is listed
 have GD:∀ listed:Array Bool,listed.size=ops.size→Region.ready .any ops listed=[]→∀ j,j<ops.size→listed.getD j false=true:=by
  intro listed hls hr j
  induction j using Nat.strongRecOn with
  | _ j ih=>
    intro hj
    cases hl:listed.getD j false with
    | true=>rfl
    | false=>
      have hjj:j<listed.size:=by omega
      have hmem:j∈Region.ready .any ops listed:=by
       rw [mem_ready]
       refine ⟨?_,ops[j],Array.getElem?_eq_getElem hj,fun e he hb=>?_⟩
       ·simp [hjj] at hl ⊢; exact hl
       ·have hlt:=hback j _ (Array.getElem?_eq_getElem hj) e he hb
        exact ih e.on hlt (by omega)
      rw [hr] at hmem; cases hmem
 intro fuel
 induction fuel with
 | zero=>
   intro listed a w hls hc hcl hlo hDp hI
   exfalso
   have h1:=List.count_eq_zero.1 hc
   have hjj:p<listed.size:=by omega
   have:listed[p]=false:=by simpa [hjj] using hDp
   exact h1 (by rw [← this]; simp)
 | succ fuel ih=>
   intro listed a w hls hc hcl hlo hDp hI
   refine ⟨fun hr=>(by have:=GD listed hls hr p hp; rw [hDp] at this; cases this),fun i hi=>?_⟩
   rw [mem_ready] at hi
   obtain ⟨hun,o,ho,hall⟩:=hi
   have hilt:=(Array.getElem?_eq_some_iff.1 ho).1
   have hil:i<listed.size:=by omega
   have y7:listed.getD i false=false:=by simp [hil] at hun ⊢; exact hun
   -- closed below
   have kK:∀ j,j<ops.size→listed.getD j false=true→∀ k,R k j→listed.getD k false=true:=by
    intro j
    induction j using Nat.strongRecOn with
    | _ j ihj=>
      intro hj SJ k hk
      obtain ⟨e,he,hb,yZ⟩:=hpre j _ (Array.getElem?_eq_getElem hj) k hk
      have hlt:=hback j _ (Array.getElem?_eq_getElem hj) e he hb
      have hDe:=hcl j _ (Array.getElem?_eq_getElem hj) SJ e he hb
      rcases yZ with rfl | yZ
      ·exact hDe
      ·exact ihj e.on hlt (by omega) hDe k yZ
   have jN:∀ k,R k i→listed.getD k false=true:=by
    intro k hk
    obtain ⟨e,he,hb,yZ⟩:=hpre i o ho k hk
    have hlt:=hback i o ho e he hb
    rcases yZ with rfl | yZ
    ·exact hall e he hb
    ·exact kK e.on (by omega) (hall e he hb) k yZ
   by_cases YE:i=p
   ·subst YE
    refine Nn _ _ (fun t ht=>uU (D:=fun j=>listed.getD j false) hR kK hilt y7 jN (.inl ht)) (funext fun o=>?_) a w _ hI
    refine wP _ (fun j hj hjo=>?_)
    obtain ⟨h1,h2⟩:=abA j hj (List.ne_nil_of_mem hjo)
    rw [jN j h1]; simp [h2]
   have hRp:¬ R p i:=fun h=>by have:=jN p h; rw [hDp] at this; cases this
   refine hstep i _ _ (Nat.le_of_not_lt fun h=>by rw [hlo i h] at y7; cases y7) hilt YE hRp (fun t ht=>uU (D:=fun j=>listed.getD j false) hR kK hilt y7 jN ht) (fun q hq=>Ar (D:=fun j=>listed.getD j false) hR kK hilt y7 jN hq) a w _ hI (fun a' w' hI'=>?_)
   have oW:∀ j,(listed.setIfInBounds i true).getD j false=(listed.getD j false||j==i):=by
    intro j
    by_cases hj:j=i
    ·subst hj; simp [hil]
    ·rw [getD_set_ne false (fun e=>hj e.symm)]
     simp [hj]
   refine ih (listed.setIfInBounds i true) a' w' (by simpa using hls) ?_ ?_ (fun j hj=>by rw [oW,hlo j hj]; rfl) (by rw [oW,hDp]; simpa using fun e=>YE e.symm) ?_
   ·have og:listed.toList[i]? = some false:=by
     simp [hil] at hun
     simp [hil,hun]
    have:=count_set og
    rw [Array.toList_setIfInBounds]
    omega
   ·intro j oj De hj e he hb
    rw [oW] at hj ⊢
    simp only [Bool.or_eq_true,beq_iff_eq] at hj ⊢
    rcases hj with hj | rfl
    ·exact .inl (hcl j oj De hj e he hb)
    ·rw [ho] at De; cases De
     exact .inl (hall e he hb)
   ·have e1:(fun j=>(listed.setIfInBounds i true).getD j false)=(fun j=>listed.getD j false||j==i):=funext oW
    rw [e1,HB hR kK hilt y7]
    exact hI'
end Dv
namespace Dv
open Go
section
variable {P:Program} {G:Nat→Option (List DV)} {get get':Nat→LV} {obj obj':Nat→cW} {base:Nat}
theorem bY.dn {x:bY} (h:∀ t∈x.tmps,get' t=get t):x.ev G get'=x.ev G get:=by
 cases x with
 | t n=>exact h n (by simp [bY.tmps])
 | _=>rfl
theorem nJ:∀ {xs:List bY},(∀ t∈xs.flatMap bY.tmps,get' t=get t)→xs.map (·.ev G get')=xs.map (·.ev G get)
 | [],_=>rfl
 | x::xs,h=>by
   simp only [List.flatMap_cons,List.mem_append] at h
   simp only [List.map_cons]
   rw [bY.dn (fun t ht=>h t (.inl ht)),nJ (fun t ht=>h t (.inr ht))]
theorem wh:∀ {parts:List (Nat×Nat×bY)} {cells:List LV},(∀ t∈parts.flatMap (fun p=>p.2.2.tmps),get' t=get t)→rV G get' cells parts=rV G get cells parts
 | [],_,_=>rfl
 | (off,size,x)::rest,cells,h=>by
   simp only [List.flatMap_cons,List.mem_append] at h
   simp only [rV]
   rw [bY.dn (fun t ht=>h t (.inl ht))]
   cases (x.ev G get).cells with
   | none=>rfl
   | some cs=>
     dsimp only
     split
     ·exact wh (fun t ht=>h t (.inr ht))
     ·rfl
theorem wu:∀ {xs:List bY},(∀ t∈xs.flatMap bY.tmps,get' t=get t)→uB G get' xs=uB G get xs
 | [],_=>rfl
 | x::xs,h=>by
   simp only [List.flatMap_cons,List.mem_append] at h
   simp only [uB]
   rw [bY.dn (fun t ht=>h t (.inl ht)),wu (fun t ht=>h t (.inr ht))]
theorem tA {aV:Nat} : ∀ {xs:List bY},(∀ t∈xs.flatMap bY.tmps,get' t=get t)→rowsOf G get' aV xs=rowsOf G get aV xs
 | [],_=>rfl
 | x::xs,h=>by
   simp only [List.flatMap_cons,List.mem_append] at h
   simp only [rowsOf]
   rw [bY.dn (fun t ht=>h t (.inl ht)),tA (fun t ht=>h t (.inr ht))]
theorem DW:∀ {xs:List bY},(∀ t∈xs.flatMap bY.tmps,get' t=get t)→yx G get' xs=yx G get xs
 | [],_=>rfl
 | [x],h=>by
   simp only [List.flatMap_cons,List.mem_append] at h
   simp only [yx]
   rw [bY.dn (fun t ht=>h t (.inl ht))]
 | _::_::_,_=>rfl
theorem jK:∀ {o:Option bY},(∀ t∈bY.vR o,get' t=get t)→o.map (·.ev G get')=o.map (·.ev G get)
 | none,_=>rfl
 | some x,h=>by simp only [Option.map_some]; rw [bY.dn h]
theorem Om {m:M} (h:∀ t∈m.tmps,get' t=get t):gh G get' obj base m=gh G get obj base m:=by
 cases m <;> simp only [M.tmps,List.mem_append] at h <;> simp only [gh] <;> first
  | (rw [bY.dn h]; done)
  | (rw [bY.dn (fun t ht=>h t (.inl ht)),bY.dn (fun t ht=>h t (.inr ht))]; done)
  | (rw [bY.dn (fun t ht=>h t (.inl (.inl ht))),jK (fun t ht=>h t (.inl (.inr ht))),jK (fun t ht=>h t (.inr ht))]; done)
  | (rw [bY.dn (fun t ht=>h t (.inl (.inl ht))),bY.dn (fun t ht=>h t (.inl (.inr ht))),bY.dn (fun t ht=>h t (.inr ht))]; done)
theorem Oo {i:I} (h:∀ t∈i.tmps,get' t=get t):cR G get' obj base i=cR G get obj base i:=by
 cases i <;> simp only [I.tmps,List.mem_append] at h <;> simp only [cR] <;> first
  | rfl
  | exact Om h
  | (rw [bY.dn h]; done)
  | (rw [bY.dn (fun t ht=>h t (.inl ht)),bY.dn (fun t ht=>h t (.inr ht))]; done)
  | (rw [bY.dn (fun t ht=>h t (.inl (.inl ht))),bY.dn (fun t ht=>h t (.inl (.inr ht))),bY.dn (fun t ht=>h t (.inr ht))]; done)
  | (rw [wh h]; done)
  | (rw [tA h,wu h,DW h]; done)
  | (rw [nJ (fun t ht=>h t (.inl ht)),nJ (fun t ht=>h t (.inr ht))]; done)
  | (rw [bY.dn (fun t ht=>h t (.inl (.inl (.inl ht)))),jK (fun t ht=>h t (.inl (.inl (.inr ht)))),jK (fun t ht=>h t (.inl (.inr ht))),jK (fun t ht=>h t (.inr ht))]; done)
  | (rw [bY.dn (fun t ht=>h t (.inl (.inl ht))),jK (fun t ht=>h t (.inl (.inr ht))),jK (fun t ht=>h t (.inr ht))]; done)
theorem j7 {aV:Nat} {y:LV} {new:List (List DV)} {rd:List Nat} (h:bq obj aV y=some (new,rd)) (ho:∀ o∈rd,obj' o=obj o):bq obj' aV y=some (new,rd):=by
 cases y with
 | sl o n e lo len=>
   simp only [bq] at h ⊢
   have:rd=[o]:=by
    split at h
    ·split at h <;> cases h; rfl
    ·split at h <;> cases h; rfl
    ·split at h
     ·split at h <;> cases h; rfl
     ·cases h
    ·cases h
   subst this
   rw [ho o (by simp)]; exact h
 | d x=>
   have:bq obj' aV (.d x)=bq obj aV (.d x):=by
    cases x with
    | val v=>
      cases v with
      | slice a n c=>cases a <;> cases n <;> cases c <;> rfl
      | _=>rfl
    | _=>rfl
   rw [this]; exact h
 | _=>exact h
theorem Ol {m:M} {e:fA} (h:gh G get obj base m=some e) (ho:∀ o∈e.rd,obj' o=obj o):gh G get obj' base m=some e:=by
 cases m with
 | YV n x lo hi=>
   simp only [gh] at h ⊢
   cases hx:x.ev G get with
   | ptr o col=>
     rw [hx] at h; dsimp only at h ⊢
     have:e.rd=[o]:=by
      (repeat' split at h) <;> (try (cases h; done)) <;> cases h <;> rfl
     rw [ho o (by simp [this])]; exact h
   | _=>rw [hx] at h; exact h
 | cpy x y=>
   simp only [gh] at h ⊢
   cases hs:bq obj 1 (y.ev G get) with
   | none=>rw [hs] at h; cases h
   | some p=>
     obtain ⟨new,rd⟩:=p
     rw [hs] at h; dsimp only at h
     split at h
     ·rename_i o lo len hx
      have hh:e.rd=o::rd:=by
       split at h
       ·split at h
        ·cases h; rfl
        ·cases h
       ·cases h
      rw [j7 hs (fun q hq=>ho q (by rw [hh]; exact List.mem_cons_of_mem _ hq))]
      dsimp only
      rw [ho o (by simp [hh])]; exact h
     ·rename_i o n lo len hno hx
      have hh:e.rd=o::rd:=by
       split at h
       ·split at h
        ·cases h; rfl
        ·cases h
       ·cases h
      rw [j7 hs (fun q hq=>ho q (by rw [hh]; exact List.mem_cons_of_mem _ hq))]
      cases n with
      | zero=>exact absurd rfl hno
      | succ n=>
        dsimp only
        rw [ho o (by simp [hh])]; exact h
     ·cases h
 | stk=>cases h
 | cpl x=>exact h
 | clr aV z x=>
   simp only [gh] at h ⊢
   cases hx:x.ev G get with
   | sl o n e0 lo len=>
     rw [hx] at h; dsimp only at h ⊢
     have:e.rd=[o]:=by
      (repeat' split at h) <;> (try (cases h; done)) <;> cases h <;> rfl
     rw [ho o (by simp [this])]; exact h
   | d v=>
     rw [hx] at h
     cases v with
     | dN e0 rs=>cases rs <;> exact h
     | _=>exact h
   | _=>rw [hx] at h; exact h
 | YP x=>
   simp only [gh] at h ⊢
   cases hx:x.ev G get with
   | ptr o col=>
     rw [hx] at h; dsimp only at h ⊢
     have:e.rd=[o]:=by
      (repeat' split at h) <;> (try (cases h; done)) <;> cases h <;> rfl
     rw [ho o (by simp [this])]; exact h
   | _=>rw [hx] at h; exact h
 | YQ x y=>
   simp only [gh] at h ⊢
   split at h
   ·rename_i o c d hx hy
    have:e.rd=[o]:=by
     (repeat' split at h) <;> (try (cases h; done)) <;> cases h <;> rfl
    rw [ho o (by simp [this])]; exact h
   ·cases h
 | Yv=>exact h
 | Yu x k y=>
   simp only [gh] at h ⊢
   split at h
   ·rename_i o n hx hy
    have:e.rd=[o]:=by
     (repeat' split at h) <;> (try (cases h; done)) <;> cases h <;> rfl
    rw [ho o (by simp [this])]; exact h
   ·cases h
 | Y9 z ok x k=>
   simp only [gh] at h ⊢
   split at h
   ·rename_i o n hx hy
    have:e.rd=[o]:=by
     (repeat' split at h) <;> (try (cases h; done)) <;> cases h <;> rfl
    rw [ho o (by simp [this])]; exact h
   ·cases h
 | vW et aV bytes z n=>exact h
 | b2s x=>
   simp only [gh] at h ⊢
   split at h
   ·cases h
   ·rename_i hns
    cases hs:bq obj 1 (x.ev G get) with
    | none=>rw [hs] at h; cases h
    | some p=>
      obtain ⟨rows,rd⟩:=p
      rw [hs] at h; dsimp only at h
      have hh:e.rd=rd:=by
       split at h
       ·cases h; rfl
       ·cases h
      rw [j7 hs (fun q hq=>ho q (by rw [hh]; exact hq))]
      dsimp only
      rw [← h]
      try (split <;> first | rfl | (rename_i s hx; exact absurd hx (hns s)))
theorem GM {x:LV} {o:Nat} {ob:aG} {d:DV} (h:qb obj x=some (o,ob,d)) (ho:obj' o=obj o):qb obj' x=some (o,ob,d):=by
 unfold qb at h ⊢
 split at h
 ·rename_i o1 n e lo len
  have e1:o1=o:=by
   split at h
   ·split at h
    ·cases h; rfl
    ·cases h
   ·cases h
  subst e1
  rw [ho]; exact h
 ·cases h
theorem On {i:I} {e:fA} (h:cR G get obj base i=some e) (ho:∀ o∈e.rd,obj' o=obj o):cR G get obj' base i=some e:=by
 cases i with
 | O0 et aV parts=>
   simp only [cR] at h ⊢
   cases hr:rowsOf G get aV parts with
   | some rows=>rw [hr] at h; exact h
   | none=>
     rw [hr] at h; dsimp only at h ⊢
     cases hx:yx G get parts with
     | none=>rw [hx] at h; exact h
     | some x=>
       rw [hx] at h; dsimp only at h ⊢
       split at h
       ·rename_i h1
        rw [if_pos h1]
        split at h
        ·rename_i o ob d hf
         cases h
         rw [GM hf (ho o (by simp))]
        ·cases h
       ·cases h
 | ld1 x=>
   simp only [cR] at h ⊢
   cases hx:x.ev G get with
   | ptr o col=>
     rw [hx] at h; dsimp only at h ⊢
     have:e.rd=[o]:=by
      (repeat' split at h) <;> (try (cases h; done)) <;> cases h <;> rfl
     rw [ho o (by simp [this])]; exact h
   | rp o n aV row col=>
     rw [hx] at h; dsimp only at h ⊢
     have:e.rd=[o]:=by
      (repeat' split at h) <;> (try (cases h; done)) <;> cases h <;> rfl
     rw [ho o (by simp [this])]; exact h
   | _=>rw [hx] at h; exact h
 | HV size x=>
   simp only [cR] at h ⊢
   cases hx:x.ev G get with
   | ptr o col=>
     rw [hx] at h; dsimp only at h ⊢
     have:e.rd=[o]:=by
      (repeat' split at h) <;> (try (cases h; done)) <;> cases h <;> rfl
     rw [ho o (by simp [this])]; exact h
   | rp o n aV row col=>
     rw [hx] at h; dsimp only at h ⊢
     have:e.rd=[o]:=by
      (repeat' split at h) <;> (try (cases h; done)) <;> cases h <;> rfl
     rw [ho o (by simp [this])]; exact h
   | _=>rw [hx] at h; exact h
 | st size x y=>
   simp only [cR] at h ⊢
   cases hy:(y.ev G get).cells with
   | none=>rw [hy] at h; exact h
   | some cs=>
     rw [hy] at h; dsimp only at h ⊢
     split at h
     ·rename_i hl
      rw [if_pos hl]
      cases hx:x.ev G get with
      | ptr o col=>
        rw [hx] at h; dsimp only at h ⊢
        have:e.rd=[o]:=by
         (repeat' split at h) <;> (try (cases h; done)) <;> cases h <;> rfl
        rw [ho o (by simp [this])]; exact h
      | rp o n aV row col=>
        rw [hx] at h; dsimp only at h ⊢
        have:e.rd=[o]:=by
         (repeat' split at h) <;> (try (cases h; done)) <;> cases h <;> rfl
        rw [ho o (by simp [this])]; exact h
      | _=>rw [hx] at h; exact h
     ·cases h
 | sM aV x j=>
   simp only [cR] at h ⊢
   split at h
   ·rename_i k jj hj
    split at h
    ·rename_i h0
     rw [if_pos h0]
     cases hx:x.ev G get with
     | sl o n e' lo len=>
       rw [hx] at h; dsimp only at h ⊢
       have:e.rd=[o]:=by
        (repeat' split at h) <;> (try (cases h; done)) <;> cases h <;> rfl
       rw [ho o (by simp [this])]; exact h
     | d z=>rw [hx] at h; cases z <;> exact h
     | _=>rw [hx] at h; exact h
    ·cases h
   ·cases h
 | app et aV bytes x y=>
   simp only [cR] at h ⊢
   cases hs:bq obj aV (y.ev G get) with
   | none=>rw [hs] at h; cases h
   | some p=>
     obtain ⟨new,rd⟩:=p
     rw [hs] at h; dsimp only at h
     cases hx:x.ev G get with
     | sl o n e' lo len=>
       rw [hx] at h; dsimp only at h
       have hh:e.rd=o::rd:=by
        split at h
        ·split at h
         ·cases h; rfl
         ·cases h
        ·cases h
       rw [j7 hs (fun q hq=>ho q (by rw [hh]; exact List.mem_cons_of_mem _ hq))]
       dsimp only
       rw [ho o (by simp [hh])]; exact h
     | d z=>
       have hrd:e.rd=rd:=by
        rw [hx] at h
        (repeat' split at h) <;> (try contradiction) <;> (try (cases h; done)) <;> cases h <;> rfl
       have hsr:bq obj' aV (y.ev G get)=some (new,rd):=j7 hs (by rw [← hrd]; exact ho)
       rw [hsr]; dsimp only
       rw [← h,hx]
       cases z with
       | val v=>
         cases v with
         | slice a n c=>cases a <;> cases n <;> cases c <;> rfl
         | _=>rfl
       | _=>rfl
     | _=>rw [hx] at h; cases h
 | more m=>exact Ol h ho
 | _=>exact h
mutual
theorem Fi {ρ Z:List Nat} (hZ:∀ z∈Z,obj' z=obj z):∀ (x y:LV),ah obj ρ Z x y→ah obj' ρ Z x y:=by
 intro x y h
 cases x with
 | sl o n e l k=>
   cases y with
   | d y=>
     cases y with
     | dN e' rs=>
       simp only [ah] at h ⊢
       refine ⟨h.1,?_⟩
       have h2:=h.2
       have hoZ:o∈Z:=by
        unfold aM at h2
        split at h2
        ·exact h2.1
        ·exact h2.1
        ·exact h2.elim
       unfold aM at h2 ⊢
       rw [hZ o hoZ]; exact h2
     | _=>simp [ah] at h
   | top=>simp [ah]
   | sl _ _ _ _ _=>simp only [ah] at h ⊢; exact h
   | _=>simp [ah] at h
 | agg xs=>
   cases y with
   | agg ys=>simp only [ah] at h ⊢; exact jR hZ xs ys h
   | top=>simp [ah]
   | _=>simp [ah] at h
 | dM xs=>
   cases y with
   | dM ys=>simp only [ah] at h ⊢; exact jR hZ xs ys h
   | top=>simp [ah]
   | _=>simp [ah] at h
 | fn f a b=>
   cases y with
   | fn f' a' b'=>simp only [ah] at h ⊢; exact ⟨h.1,jR hZ a a' h.2.1,jR hZ b b' h.2.2⟩
   | top=>simp [ah]
   | _=>simp [ah] at h
 | gp t x=>
   cases y with
   | gp t' y=>simp only [ah] at h ⊢; exact ⟨h.1,Fi hZ x y h.2⟩
   | top=>simp [ah]
   | _=>simp [ah] at h
 | d x=>
   cases y with
   | d y=>simp only [ah] at h ⊢; exact h
   | top=>simp [ah]
   | fn f' a' b'=>cases x <;> first | (simp only [ah] at h ⊢; exact h) | (simp [ah] at h)
   | _=>cases x <;> simp [ah] at h
 | yl o=>cases y <;> first | (simp only [ah] at h ⊢; exact h) | (simp [ah] at h ⊢)
 | mr o=>cases y <;> first | (simp only [ah] at h ⊢; exact h) | (simp [ah] at h ⊢)
 | ptr o c=>cases y <;> first | (simp only [ah] at h ⊢; exact h) | (simp [ah] at h ⊢)
 | rp o n e r c=>cases y <;> first | (simp only [ah] at h ⊢; exact h) | (simp [ah] at h ⊢)
 | ip r c=>cases y <;> first | (simp only [ah] at h ⊢; exact h) | (simp [ah] at h ⊢)
 | top=>cases y <;> first | (simp only [ah] at h ⊢; exact h) | (simp [ah] at h ⊢)
 | dW=>cases y <;> first | (simp only [ah] at h ⊢; done) | (simp only [ah] at h ⊢; exact h) | (simp [ah] at h ⊢)
theorem jR {ρ Z:List Nat} (hZ:∀ z∈Z,obj' z=obj z):∀ (xs ys:List LV),aa obj ρ Z xs ys→aa obj' ρ Z xs ys
 | [],[],_=>by simp [aa]
 | x::xs,y::ys,h=>by
   simp only [aa] at h ⊢
   exact ⟨Fi hZ x y h.1,jR hZ xs ys h.2⟩
 | [],_::_,h=>by simp [aa] at h
 | _::_,[],h=>by simp [aa] at h
end
theorem sP:∀ {Z:List Nat},(∀ z∈Z,obj' z=obj z)→gE obj' Z=gE obj Z
 | [],_=>rfl
 | z::Z,h=>by
   simp only [gE]
   rw [h z (by simp),sP (fun y hy=>h y (by simp [hy]))]
theorem kX.local {i:I} {e:fA} (h:kX P G get obj base i e) (hg:∀ t∈i.tmps,get' t=get t) (ho:∀ o∈e.rd,obj' o=obj o):kX P G get' obj' base i e:=by
 by_cases hi:∃ f args,i=.call f args
 ·obtain ⟨f,args,rfl⟩:=hi
  simp only [I.tmps,List.mem_append] at hg
  simp only [kX] at h ⊢
  rw [bY.dn (fun t ht=>hg t (.inl ht)),nJ (fun t ht=>hg t (.inr ht))]
  split at h
  ·rename_i k fs cs hc
   obtain ⟨ρ,Z,tmp,bh,aH,r,aA,keep,hkeep,hn,hz,wH,hl,e_,hid,ue,Ew,hle,CC,rfl⟩:=h.ex
   simp only [List.mem_append] at ho
   have hZ:∀ z∈Z,obj' z=obj z:=fun z hz=>ho z (.inr hz)
   refine ⟨⟨ρ,Z,tmp,bh,aH,r,aA,keep,hkeep,hn,hz,fun z hz=>by rw [hZ z hz]; exact wH z hz,hl,fun i o oN=>?_,hid,jR hZ _ _ ue,Ew,hle,CC,by rw [sP hZ]⟩⟩
   obtain ⟨ob,k1,k2⟩:=e_ i o oN
   exact ⟨ob,k1,by rw [ho o (.inl (List.mem_of_getElem? oN))]; exact k2⟩
  ·exact h.elim
 ·have e1:∀ get obj,kX P G get obj base i e=(cR G get obj base i=some e):=fun get obj=>by
   cases i <;> first | rfl | (exfalso; exact hi ⟨_,_,rfl⟩)
  rw [e1] at h ⊢
  rw [Oo hg]
  exact On h ho
theorem fB.local {f:Nat} {args args':List LV} {p:Value} {e:fA} (h:fB P G f args obj base p e) (ha:args'=args) (ho:∀ o∈e.rd,obj' o=obj o):fB P G f args' obj' base p e:=by
 subst ha
 obtain ⟨ρ,Z,bh,aH,aA,hn,hz,wH,hl,e_,hid,ue,hle,CC,rfl⟩:=h.ex
 simp only [List.mem_append] at ho
 have hZ:∀ z∈Z,obj' z=obj z:=fun z hz=>ho z (.inr hz)
 refine ⟨⟨ρ,Z,bh,aH,aA,hn,hz,fun z hz=>by rw [hZ z hz]; exact wH z hz,hl,fun i o oN=>?_,hid,jR hZ _ _ ue,hle,CC,by rw [sP hZ]⟩⟩
 obtain ⟨ob,k1,k2⟩:=e_ i o oN
 exact ⟨ob,k1,by rw [ho o (.inl (List.mem_of_getElem? oN))]; exact k2⟩
end
end Dv
namespace Dv
open Go
structure iS where
 pre:List Nat
 rd:List Nat
 wr:List Nat
def eo.tr (o:eo):List Nat:=o.op.tmps++(match o.guard with | some (g,_)=>[g] | none=>[])
def DY:Nat→List aG→List (Nat×aG)
 | _,[]=>[]
 | k,ob::r=>(k,ob)::DY (k+1) r
theorem tM:∀ (l:List aG) (k:Nat) (obj:Nat→cW),pY k l obj=de (DY k l) obj
 | [],_,_=>rfl
 | ob::r,k,obj=>by simp only [pY,DY,de,tM r]
theorem HO:∀ (l:List aG) (k j:Nat),j<l.length→k+j∈(DY k l).map (·.1)
 | [],_,_,h=>by simp at h
 | ob::r,k,0,_=>by simp [DY]
 | ob::r,k,j+1,h=>by
   have:=HO r (k+1) j (by simpa using h)
   simp only [DY,List.map_cons,List.mem_cons]
   right
   rw [show k+(j+1)=k+1+j by omega]; exact this
def fA.owned (base:Nat) (e:fA):List (Nat×aG):=DY base e.nw++e.wr
section
variable (P:Program) (G:Nat→Option (List DV))
abbrev YO:=List LV→List (Option aG)→LV→(LV→Bool→List (Option aG)→Prop)→Prop
def qS:YO:=fun _ _ _ _=>False
def vcY (Y:YO) (fv:LV) (as:List LV) (dst:Option Nat) (s:St) (K:St→Prop):Prop:=match fv with
 | .yl oy=>Y (.yl oy::as) s.ag (s.get YS) (fun ys b aC=>K ⟨ej dst (.bool b) ((YS,ys)::s.env),aC⟩)
 | _=>False
def xE (Y:YO) (X:Value→fA→St→Prop) (o:eo) (s:St) (K:St→fA→Prop):Prop:=
 match o.op with
 | .call f args=>match callee (f.ev G s.get) with
   | some (k,fs,cs)=>(∃ e,cF P G k (fs++args.map (·.ev G s.get)++cs) s.obj s.ag.length e∧K (s.app o.dst e) e)∨
     (∃ p e,fB P G k (fs++args.map (·.ev G s.get)++cs) s.obj s.ag.length p e∧X p e (s.app none e))
   | none=>vcY Y (f.ev G s.get) (args.map (·.ev G s.get)) o.dst s (fun s'=>K s' { r:=.top })
 | i=>match cR G s.get s.obj s.ag.length i with
   | some e=>K (s.app o.dst e) e
   | none=>False
def xD (Y:YO) (X:Value→fA→St→Prop) (o:eo) (s:St) (K:St→fA→Prop) (K0:St→Prop):Prop:=
 match o.guard with
 | none=>xE P G Y X o s K
 | some (g,want)=>match s.get g with
   | .d (.val (.bool b))=>if b=want then xE P G Y X o s K else K0 (s.put o.dst .undef)
   | .d (.val (.tuple _))=>K0 (s.put o.dst .undef)
   | _=>False
def gO (Y:YO) (X:Value→St→Prop):List eo→St→(St→Prop)→Prop
 | [],s,K=>K s
 | o::os,s,K=>xD P G Y (fun p _ s'=>X p s') o s (fun s' _=>gO Y X os s' K) (fun s'=>gO Y X os s' K)
def zF (x y:iS):Bool:=x.wr.any (fun o=>y.rd.contains o||y.wr.contains o)||y.wr.any (fun o=>x.rd.contains o)
def indep (log:List iS):Bool:=
 (log.all fun e=>e.wr.isEmpty)||(List.range log.length).all fun j=>match log[j]? with
  | none=>true
  | some y=>(List.range j).all fun i=>match log[i]? with
    | none=>true
    | some x=>y.pre.contains i||!zF x y
def DQ (log:List iS) (p:Nat) (pre:List Nat):Bool:=
 (pre.all fun i=>decide (i<p))&&(List.range log.length).all fun i=>pre.contains i||(match log[i]? with | some x=>x.wr.isEmpty | none=>true)
def o9 (p:Nat) (pre:List Nat):List eo→St→List iS→Prop
 | [],_,log=>indep log=true∧DQ log p pre=true
 | o::os,s,log=>if o.pre.contains p=true then o9 p pre os (s.put o.dst .top) (log++[⟨o.pre,[],[]⟩])
   else xD P G qS (fun _ _ _=>False) o s (fun s' e=>o9 p pre os s' (log++[⟨o.pre,e.rd,(e.owned s.ag.length).map (·.1)⟩])) (fun s'=>o9 p pre os s' (log++[⟨o.pre,[],[]⟩]))
def e6 (X:Value→St→Prop):List eo→St→List iS→(St→List iS→Prop)→Prop
 | [],s,log,K=>K s log
 | o::os,s,log,K=>xD P G qS (fun p e s'=>X p ⟨[],s'.ag⟩∧o9 P G log.length o.pre os (s.put o.dst .top) (log++[⟨o.pre,e.rd,[]⟩])) o s
    (fun s' e=>e6 X os s' (log++[⟨o.pre,e.rd,(e.owned s.ag.length).map (·.1)⟩]) K) (fun s'=>e6 X os s' (log++[⟨o.pre,[],[]⟩]) K)
end
theorem yW {log:List iS} (h:indep log=true) {i j:Nat} {x y:iS} (hi:log[i]? = some x) (hj:log[j]? = some y) (hij:i<j) (hc:zF x y=true):i∈y.pre:=by
 unfold indep at h
 rw [Bool.or_eq_true] at h
 rcases h with h | h
 ·rw [List.all_eq_true] at h
  have h1:=h x (List.mem_of_getElem? hi)
  have h2:=h y (List.mem_of_getElem? hj)
  simp only [List.isEmpty_iff] at h1 h2
  simp [zF,h1,h2] at hc
 ·rw [List.all_eq_true] at h
  have hjl:=(List.getElem?_eq_some_iff.1 hj).1
  have h1:=h j (by simpa using hjl)
  rw [hj] at h1
  dsimp only at h1
  rw [List.all_eq_true] at h1
  have h2:=h1 i (by simpa using hij)
  rw [hi] at h2
  simp only [hc,Bool.not_true,Bool.or_false,List.contains_iff_mem] at h2
  exact h2
def ER (N:Nat):Option Nat→Bool
 | none=>true
 | some d=>decide (d<N)
def uw (N:Nat) (ops:Array Oper):Option (Nat×Bool)→Option (Option (Nat×Bool))
 | none=>some none
 | some (j,want)=>match ops[j]? with
   | some oj=>match oj.dst with
     | some t=>if t<N then some (some (t,want)) else none
     | none=>none
   | none=>none
def gI (P:Program) (N:Nat) (ops:Array Oper) (o:Oper) (pre:List Nat):Option eo:=
 if ER N o.dst then (match mE P o.op,uw N ops o.guard with
  | some i,some g=>some ⟨o.dst,i,g,pre⟩
  | _,_=>none) else none
def rz (P:Program) (N:Nat) (ops:Array Oper):List Oper→List (List Nat)→Option (List eo)
 | [],_=>some []
 | o::os,ps=>match gI P N ops o (ps.headD []),rz P N ops os ps.tail with
   | some x,some xs=>some (x::xs)
   | _,_=>none
theorem qv {P:Program} {N:Nat} {ops:Array Oper} : ∀ {os:List Oper} {ps:List (List Nat)} {gi:List eo},rz P N ops os ps=some gi→gi.length=os.length∧∀ (i:Nat) (o:Oper),os[i]? = some o→∃ io,gi[i]? = some io∧gI P N ops o io.pre=some io
 | [],ps,gi,h=>by simp only [rz] at h; cases h; exact ⟨rfl,fun i o h=>by simp at h⟩
 | o::os,ps,gi,h=>by
   simp only [rz] at h
   split at h
   ·rename_i x xs h1 h2
    cases h
    obtain ⟨k1,k2⟩:=qv h2
    refine ⟨by simp [k1],fun i o' hi=>?_⟩
    cases i with
    | zero=>
      simp at hi; subst hi
      refine ⟨x,by simp,?_⟩
      have:x.pre=ps.headD []:=by
       unfold gI at h1
       split at h1
       ·split at h1
        ·cases h1; rfl
        ·cases h1
       ·cases h1
      rw [this]; exact h1
    | succ i=>simpa using k2 i o' (by simpa using hi)
   ·cases h
def direct (o:Oper):List Nat:=(o.after.toList.filter (Region.binds .any ·)).map (·.on)
def Yh (xs ys:List Nat):List Nat:=xs.foldl (fun acc x=>if acc.contains x then acc else acc++[x]) ys
def WA (ops:List Oper):List (List Nat):=
 ops.foldl (fun acc o=>acc++[(direct o).foldl (fun s k=>Yh (k::acc.getD k []) s) []]) []
def G3 (x y:eo):Bool:=match x.dst with
 | some t=>y.tr.contains t||y.dst==some t
 | none=>false
def CT (x y:eo):Bool:=match y.dst with
 | some t=>x.tr.contains t
 | none=>false
def My (ops:List Oper) (gi:List eo):Bool:=
 (List.range ops.length).all fun j=>match ops[j]?,gi[j]? with
  | some o,some io=>((direct o).all fun k=>decide (k<j))&&
    (io.pre.all fun i=>decide (i<ops.length)&&(direct o).any fun k=>k==i||(match gi[k]? with | some z=>z.pre.contains i | none=>false))&&
    ((List.range j).all fun i=>match gi[i]? with | some x=>io.pre.contains i||!(G3 x io||CT x io) | none=>false)
  | _,_=>false
def ov (P:Program) (N:Nat) (ops:Array Oper) (draw:Bool):Option (List eo):=
 if draw then (match rz P N ops ops.toList (WA ops.toList) with
  | some gi=>if P.follows .mixedOrders&&My ops.toList gi then some gi else none
  | none=>none)
 else rz P N ops ops.toList []
def eP (o:eo) (s:St):Option Bool:=match o.guard with
 | none=>some true
 | some (g,want)=>match s.get g with
   | .d (.val (.bool b))=>some (b==want)
   | .d (.val (.tuple _))=>some false
   | _=>none
def rW (o:eo) (base:Nat) (e:fA):qD:={ tr:=o.tr,td:=o.dst,r:=e.r,rd:=e.rd,ow:=e.owned base }
def uo (o:eo):qD:={ tr:=o.tr,td:=o.dst,r:=.undef,rd:=[],ow:=[] }
def r_ (P:Program) (G:Nat→Option (List DV)) (o:eo) (s:St) (ev:qD) (s':St):Prop:=
 (eP o s=some true∧∃ e,kX P G s.get s.obj s.ag.length o.op e∧ev=rW o s.ag.length e∧s'=s.app o.dst e)∨
 (eP o s=some false∧ev=uo o∧s'=s.put o.dst .undef)
section
variable {P:Program} {G:Nat→Option (List DV)}
def Fo (P:Program) (G:Nat→Option (List DV)) (o:eo) (s:St) (p:Value) (e:fA):Prop:=
 eP o s=some true∧∃ f args k fs cs,o.op=.call f args∧callee (f.ev G s.get)=some (k,fs,cs)∧fB P G k (fs++args.map (·.ev G s.get)++cs) s.obj s.ag.length p e
def YAt (G:Nat→Option (List DV)) (Y:YO) (o:eo) (s:St) (K:St→Prop):Prop:=
 eP o s=some true∧∃ f args oy,o.op=.call f args∧f.ev G s.get=.yl oy∧Y (.yl oy::args.map (·.ev G s.get)) s.ag (s.get YS) (fun ys b aC=>K ⟨ej o.dst (.bool b) ((YS,ys)::s.env),aC⟩)
theorem O8 {Y:YO} {X:Value→fA→St→Prop} {o:eo} {s:St} {K:St→fA→Prop} (h:xE P G Y X o s K):(∃ e,kX P G s.get s.obj s.ag.length o.op e∧K (s.app o.dst e) e)∨
  (∃ p e,(∃ f args k fs cs,o.op=.call f args∧callee (f.ev G s.get)=some (k,fs,cs)∧fB P G k (fs++args.map (·.ev G s.get)++cs) s.obj s.ag.length p e)∧X p e (s.app none e))∨
  (∃ f args oy,o.op=.call f args∧f.ev G s.get=.yl oy∧Y (.yl oy::args.map (·.ev G s.get)) s.ag (s.get YS) (fun ys b aC=>K ⟨ej o.dst (.bool b) ((YS,ys)::s.env),aC⟩ { r:=.top })):=by
 unfold xE at h
 split at h
 ·rename_i f args hop
  split at h
  ·rename_i k fs cs hc
   rcases h with ⟨e,h1,h2⟩ | ⟨p,e,h1,h2⟩
   ·refine .inl ⟨e,?_,h2⟩
    rw [hop]
    simp only [kX,hc]; exact h1
   ·exact .inr (.inl ⟨p,e,⟨f,args,k,fs,cs,hop,hc,h1⟩,h2⟩)
  ·unfold vcY at h
   split at h
   ·rename_i oy eu
    exact .inr (.inr ⟨f,args,oy,hop,eu,h⟩)
   ·exact h.elim
 ·rename_i i hni
  split at h
  ·rename_i e he
   refine .inl ⟨e,?_,h⟩
   revert hni he
   cases o.op <;> intro hni he <;> first | exact he | (exfalso; exact hni _ _ rfl)
  ·exact h.elim
theorem Ao {Y:YO} {X:Value→fA→St→Prop} {o:eo} {s:St} {K:St→fA→Prop} {K0:St→Prop} (h:xD P G Y X o s K K0) :
  (eP o s=some true∧∃ e,kX P G s.get s.obj s.ag.length o.op e∧K (s.app o.dst e) e)∨(eP o s=some false∧K0 (s.put o.dst .undef))∨(∃ p e,Fo P G o s p e∧X p e (s.app none e))∨YAt G Y o s (fun s'=>K s' { r:=.top }):=by
 have key:∀ {s:St},eP o s=some true→xE P G Y X o s K→(eP o s=some true∧∃ e,kX P G s.get s.obj s.ag.length o.op e∧K (s.app o.dst e) e)∨(eP o s=some false∧K0 (s.put o.dst .undef))∨(∃ p e,Fo P G o s p e∧X p e (s.app none e))∨YAt G Y o s (fun s'=>K s' { r:=.top }):=fun hw h=>by
  rcases O8 h with h | ⟨p,e,h1,h2⟩ | h
  ·exact .inl ⟨hw,h⟩
  ·exact .inr (.inr (.inl ⟨p,e,⟨hw,h1⟩,h2⟩))
  ·exact .inr (.inr (.inr ⟨hw,h⟩))
 unfold xD at h
 split at h
 ·rename_i hg
  exact key (by unfold eP; rw [hg]) h
 ·rename_i g want hg
  split at h
  ·rename_i b hb
   by_cases LF:b=want
   ·rw [if_pos LF] at h
    exact key (by unfold eP; rw [hg]; simp [hb,LF]) h
   ·rw [if_neg LF] at h
    exact .inr (.inl ⟨by unfold eP; rw [hg]; simp [hb,LF],h⟩)
  ·rename_i v hb
   exact .inr (.inl ⟨by unfold eP; rw [hg]; simp [hb],h⟩)
  ·exact h.elim
theorem Dg {X:Value→fA→St→Prop} {o:eo} {s:St} {K:St→fA→Prop} {K0:St→Prop} (h:xD P G qS X o s K K0) :
  (eP o s=some true∧∃ e,kX P G s.get s.obj s.ag.length o.op e∧K (s.app o.dst e) e)∨(eP o s=some false∧K0 (s.put o.dst .undef))∨(∃ p e,Fo P G o s p e∧X p e (s.app none e)):=by
 rcases Ao h with h | h | h | ⟨_,f,args,oy,_,_,h⟩
 ·exact .inl h
 ·exact .inr (.inl h)
 ·exact .inr (.inr h)
 ·exact h.elim
theorem St.SQ (s:St) (dst:Option Nat) (e:fA):(s.app dst e).get=gM dst e.r s.get:=ze dst e.r s.env
theorem St.CE (s:St) (dst:Option Nat) (r:LV):(s.put dst r).get=gM dst r s.get:=ze dst r s.env
theorem St.PK {s:St} {o:eo} {e:fA} (h:kX P G s.get s.obj s.ag.length o.op e):(s.app o.dst e).obj=de (e.owned s.ag.length) s.obj:=by
 have hl:∀ p∈e.wr,p.1<s.ag.length:=fun p hp=>by
  obtain ⟨ob,e_⟩:=h.s_ p hp
  exact xh e_
 funext q
 show ay (ga e.wr s.ag++e.nw.map some) q=_
 rw [IP s.ag e hl]
 simp only [bQ,fA.owned,iT,tM]
 rfl
theorem r_.next {o:eo} {s s':St} {ev:qD} (h:r_ P G o s ev s'):s'.get=gM ev.td ev.r s.get∧s'.obj=de ev.ow s.obj:=by
 rcases h with ⟨_,e,he,rfl,rfl⟩ | ⟨_,rfl,rfl⟩
 ·exact ⟨St.SQ ..,St.PK he⟩
 ·exact ⟨St.CE ..,rfl⟩
def IC (o:eo):qD:={ tr:=o.tr,td:=o.dst,r:=.top,rd:=[],ow:=[] }
def GO (o:eo) (e:fA):qD:={ tr:=o.tr,td:=o.dst,r:=.top,rd:=e.rd,ow:=[] }
def Fm (P:Program) (G:Nat→Option (List DV)) (p:Nat) (o:eo) (s:St) (ev:qD) (s':St):Prop:=
 (p∈o.pre∧ev=IC o∧s'=s.put o.dst .top)∨(p∉o.pre∧r_ P G o s ev s')
theorem Fm.next {p:Nat} {o:eo} {s s':St} {ev:qD} (h:Fm P G p o s ev s'):s'.get=gM ev.td ev.r s.get∧s'.obj=de ev.ow s.obj:=by
 rcases h with ⟨_,rfl,rfl⟩ | ⟨_,h⟩
 ·exact ⟨St.CE ..,rfl⟩
 ·exact h.next
def abd (P:Program) (G:Nat→Option (List DV)) (p:Nat) (pre:List Nat) (os:List eo) (s:St) (log:List iS):Prop:=
 ∃ (ss:Nat→St) (es:Nat→qD) (ig:List iS),ss 0=s∧(∀ (i:Nat) (o:eo),os[i]? = some o→Fm P G p o (ss i) (es i) (ss (i+1)))∧(indep ig=true∧DQ ig p pre=true)∧
   ig.length=log.length+os.length∧(∀ (i:Nat) (o:eo),os[i]? = some o→ig[log.length+i]? = some ⟨o.pre,(es i).rd,(es i).wr⟩)∧(∀ i,i<log.length→ig[i]? = log[i]?)
theorem An {p:Nat} {pre:List Nat} : ∀ (os:List eo) (s:St) (log:List iS),o9 P G p pre os s log→abd P G p pre os s log
 | [],s,log,h=>⟨fun _=>s,fun _=>uo ⟨none,.mv (.t 0),none,[]⟩,log,rfl,fun i o hi=>by simp at hi,h,by simp,fun i o hi=>by simp at hi,fun _ _=>rfl⟩
 | o::os,s,log,h=>by
   have cons:∀ (s1:St) (ev:qD),Fm P G p o s ev s1→o9 P G p pre os s1 (log++[⟨o.pre,ev.rd,ev.wr⟩])→abd P G p pre (o::os) s log:=fun s1 ev hst hk=>by
    obtain ⟨ss,es,ig,h0,hs,hK,hlen,oe,hold⟩:=An os _ _ hk
    refine ⟨fun i=>match i with | 0=>s | i+1=>ss i,fun i=>match i with | 0=>ev | i+1=>es i,ig,rfl,fun i o' hi=>?_,hK,?_,fun i o' hi=>?_,fun i hi=>?_⟩
    ·cases i with
     | zero=>
       simp at hi; subst hi
       rw [← h0] at hst; exact hst
     | succ i=>exact hs i o' (by simpa using hi)
    ·simp at hlen ⊢; omega
    ·cases i with
     | zero=>
       simp at hi; subst hi
       rw [Nat.add_zero,hold _ (by simp)]
       simp
     | succ i=>
       have:=oe i o' (by simpa using hi)
       rw [← this]; congr 1; simp; omega
    ·rw [hold i (by simp; omega),List.getElem?_append_left hi]
   simp only [o9] at h
   split at h
   ·rename_i hp
    exact cons _ (IC o) (.inl ⟨by simpa using hp,rfl,rfl⟩) h
   ·rename_i hp
    have hp:p∉o.pre:=by simpa using hp
    rcases Dg h with ⟨hw,e,he,hk⟩ | ⟨hw,hk⟩ | ⟨_,_,_,hk⟩
    ·exact cons _ (rW o s.ag.length e) (.inr ⟨hp,.inl ⟨hw,e,he,rfl,rfl⟩⟩) hk
    ·exact cons _ (uo o) (.inr ⟨hp,.inr ⟨hw,rfl,rfl⟩⟩) hk
    ·exact hk.elim
def oP (P:Program) (G:Nat→Option (List DV)) (X:Value→St→Prop) (p i:Nat) (o:eo) (s:St) (ev:qD) (s':St):Prop:=
 if i<p then r_ P G o s ev s' else if i=p then (∃ v e,Fo P G o s v e∧X v ⟨[],(s.app none e).ag⟩∧ev=GO o e∧s'=s.put o.dst .top) else Fm P G p o s ev s'
theorem oP.next {X:Value→St→Prop} {p i:Nat} {o:eo} {s s':St} {ev:qD} (h:oP P G X p i o s ev s'):s'.get=gM ev.td ev.r s.get∧s'.obj=de ev.ow s.obj:=by
 unfold oP at h
 split at h
 ·exact h.next
 ·split at h
  ·obtain ⟨_,_,_,_,rfl,rfl⟩:=h
   exact ⟨St.CE ..,rfl⟩
  ·exact h.next
theorem oP.tr {X:Value→St→Prop} {p i:Nat} {o:eo} {s s':St} {ev:qD} (h:oP P G X p i o s ev s'):ev.tr=o.tr∧ev.td=o.dst:=by
 have hR:∀ {ev:qD},r_ P G o s ev s'→ev.tr=o.tr∧ev.td=o.dst:=fun h=>by
  rcases h with ⟨_,e,_,h1,_⟩ | ⟨_,h1,_⟩ <;> rw [h1] <;> exact ⟨rfl,rfl⟩
 unfold oP at h
 split at h
 ·exact hR h
 ·split at h
  ·obtain ⟨_,_,_,_,rfl,rfl⟩:=h
   exact ⟨rfl,rfl⟩
  ·rcases h with ⟨_,rfl,_⟩ | ⟨_,h⟩
   ·exact ⟨rfl,rfl⟩
   ·exact hR h
def abc (P:Program) (G:Nat→Option (List DV)) (K:St→List iS→Prop) (os:List eo) (s:St) (log:List iS):Prop:=
 ∃ (ss:Nat→St) (es:Nat→qD) (ig:List iS),ss 0=s∧(∀ (i:Nat) (o:eo),os[i]? = some o→r_ P G o (ss i) (es i) (ss (i+1)))∧K (ss os.length) ig∧
   ig.length=log.length+os.length∧(∀ (i:Nat) (o:eo),os[i]? = some o→ig[log.length+i]? = some ⟨o.pre,(es i).rd,(es i).wr⟩)∧(∀ i,i<log.length→ig[i]? = log[i]?)
def abb (P:Program) (G:Nat→Option (List DV)) (X:Value→St→Prop) (os:List eo) (s:St) (log:List iS):Prop:=
 ∃ (p:Nat) (op:eo) (ss:Nat→St) (es:Nat→qD) (ig:List iS),log.length≤p∧os[p-log.length]? = some op∧ss 0=s∧(∀ (i:Nat) (o:eo),os[i]? = some o→oP P G X p (log.length+i) o (ss i) (es i) (ss (i+1)))∧(indep ig=true∧DQ ig p op.pre=true)∧
   ig.length=log.length+os.length∧(∀ (i:Nat) (o:eo),os[i]? = some o→ig[log.length+i]? = some ⟨o.pre,(es i).rd,(es i).wr⟩)∧(∀ i,i<log.length→ig[i]? = log[i]?)
theorem xC {X:Value→St→Prop} {K:St→List iS→Prop} : ∀ (os:List eo) (s:St) (log:List iS),e6 P G X os s log K→abc P G K os s log∨abb P G X os s log
 | [],s,log,h=>.inl ⟨fun _=>s,fun _=>uo ⟨none,.mv (.t 0),none,[]⟩,log,rfl,fun i o hi=>by simp at hi,h,by simp,fun i o hi=>by simp at hi,fun _ _=>rfl⟩
 | o::os,s,log,h=>by
   have cons:∀ (s1:St) (ev:qD),r_ P G o s ev s1→e6 P G X os s1 (log++[⟨o.pre,ev.rd,ev.wr⟩]) K→abc P G K (o::os) s log∨abb P G X (o::os) s log:=fun s1 ev hst hk=>by
    rcases xC os _ _ hk with ⟨ss,es,ig,h0,hs,hK,hlen,oe,hold⟩ | ⟨p,op,ss,es,ig,iZ,hop,h0,hs,hK,hlen,oe,hold⟩
    ·refine .inl ⟨fun i=>match i with | 0=>s | i+1=>ss i,fun i=>match i with | 0=>ev | i+1=>es i,ig,rfl,fun i o' hi=>?_,hK,?_,fun i o' hi=>?_,fun i hi=>?_⟩
     ·cases i with
      | zero=>
        simp at hi; subst hi
        rw [← h0] at hst; exact hst
      | succ i=>exact hs i o' (by simpa using hi)
     ·simp at hlen ⊢; omega
     ·cases i with
      | zero=>
        simp at hi; subst hi
        rw [Nat.add_zero,hold _ (by simp)]
        simp
      | succ i=>
        have:=oe i o' (by simpa using hi)
        rw [← this]; congr 1; simp; omega
     ·rw [hold i (by simp; omega),List.getElem?_append_left hi]
    ·simp only [List.length_append,List.length_cons,List.length_nil] at iZ hop hs hlen oe
     refine .inr ⟨p,op,fun i=>match i with | 0=>s | i+1=>ss i,fun i=>match i with | 0=>ev | i+1=>es i,ig,by omega,?_,rfl,fun i o' hi=>?_,hK,?_,fun i o' hi=>?_,fun i hi=>?_⟩
     ·rw [show p-log.length=(p-(log.length+1))+1 by omega]; simpa using hop
     ·cases i with
      | zero=>
        simp at hi; subst hi
        unfold oP
        rw [if_pos (by omega)]
        rw [← h0] at hst; exact hst
      | succ i=>
        have:=hs i o' (by simpa using hi)
        rw [show log.length+(0+1)+i=log.length+(i+1) by omega] at this
        exact this
     ·simp; omega
     ·cases i with
      | zero=>
        simp at hi; subst hi
        rw [Nat.add_zero,hold _ (by simp)]
        simp
      | succ i=>
        have:=oe i o' (by simpa using hi)
        rw [← this]; congr 1; omega
     ·rw [hold i (by simp; omega),List.getElem?_append_left hi]
   simp only [e6] at h
   rcases Dg h with ⟨hw,e,he,hk⟩ | ⟨hw,hk⟩ | ⟨v,e,Nn,hX,hk⟩
   ·exact cons _ (rW o s.ag.length e) (.inl ⟨hw,e,he,rfl,rfl⟩) hk
   ·exact cons _ (uo o) (.inr ⟨hw,rfl,rfl⟩) hk
   ·obtain ⟨ss,es,ig,h0,hs,hK,hlen,oe,hold⟩:=An os _ _ hk
    simp only [List.length_append,List.length_cons,List.length_nil] at hs hlen oe
    refine .inr ⟨log.length,o,fun i=>match i with | 0=>s | i+1=>ss i,fun i=>match i with | 0=>GO o e | i+1=>es i,ig,Nat.le_refl _,by simp,rfl,fun i o' hi=>?_,hK,?_,fun i o' hi=>?_,fun i hi=>?_⟩
    ·cases i with
     | zero=>
       simp at hi; subst hi
       unfold oP
       rw [if_neg (by omega),if_pos (by omega)]
       exact ⟨v,e,Nn,hX,rfl,h0⟩
     | succ i=>
       have:=hs i o' (by simpa using hi)
       unfold oP
       rw [if_neg (by omega),if_neg (by omega)]
       exact this
    ·simp; omega
    ·cases i with
     | zero=>
       simp at hi; subst hi
       rw [Nat.add_zero,hold _ (by simp)]
       simp [GO,qD.wr]
     | succ i=>
       have:=oe i o' (by simpa using hi)
       rw [← this]; congr 1; omega
    ·rw [hold i (by simp; omega),List.getElem?_append_left hi]
end
structure At (G:Nat→Option (List DV)) (D:Dk) (N:Nat) (bF:Nat→cW) (J0:Nat→Prop) (cI:Nat→Nat→Option Nat) (w0:World) (get:Nat→LV) (obj:Nat→cW) (a:Act) (w:World):Prop where
 mk::
 ex:∃ J ι,Sim G D N J w ι a get obj∧Ext bF obj J0 J cI ι w0 w
section
variable {P:Program} {G:Nat→Option (List DV)} {D:Dk} {N:Nat} {bF:Nat→cW} {J0:Nat→Prop} {cI:Nat→Nat→Option Nat} {w0:World} {ops:Array Oper} {Q:Exit→Act→World→Prop} {ro:Option Nat} {nn:Nat}
theorem uv {o:Oper} {i:I} (h:mE P o.op=some i) (hs:i≠.more .stk) (c:Call):o.op≠.defer c:=by
 intro hc
 rw [hc] at h
 have:mE P (.defer c)=some (.more .stk):=by
  have h1:zy P (.defer c)=none:=rfl
  simp only [mE,h1,cV,iL]
 rw [this] at h
 exact hs (Option.some.inj h).symm
theorem kX.Y5 {get:Nat→LV} {obj:Nat→cW} {base:Nat} {i:I} {e:fA} (h:kX P G get obj base i e):i≠.more .stk:=by
 rintro rfl
 simp [kX,cR,gh] at h
theorem At.drew {get:Nat→LV} {obj:Nat→cW} {a:Act} {w:World} {n:Nat} (h:At G D N bF J0 cI w0 get obj a w):At G D N bF J0 cI w0 get obj a { w with drawn:=n }:=by
 obtain ⟨J,ι,S,E⟩:=h.ex
 have E1:Ext obj obj J J ι ι w { w with drawn:=n }:=⟨⟨rfl,rfl,rfl,Nat.le_refl _,fun _ _ _=>rfl,fun _ _=>rfl,fun _ h=>h,fun _ h=>.inl h,fun _ _ _ h=>h⟩,fun _ h=>.inl h⟩
 refine ⟨J,ι,⟨⟨fun o=>mW.keep S.store E1.ev (fun _=>rfl) (fun _ _=>rfl),S.store.inj,S.store.uu,S.store.nB,fun g row hg=>?_⟩,fun t=>(S.env t).ev S.store E1.ev,S.size,S.defers.keep (E1.nc S.store),D.keep _ _ _ (E1.nc S.store) S.ys,S.lim⟩,E.trans E1⟩
 obtain ⟨h1,h2,h3⟩:=S.store.Ab g row hg
 exact ⟨h1,h2.ev S.store E1.ev h1,h3⟩
theorem Cd {o:Oper} {io:eo} (hc:gI P N ops o io.pre=some io) {s:St} {ev:qD} {s':St} (hst:r_ P G io s ev s') {get:Nat→LV} {obj:Nat→cW}
  (hg:∀ t,t∈ev.tr∨ev.td=some t→get t=s.get t) (ho:∀ q,q∈ev.rd∨q∈ev.wr→obj q=s.obj q) {a:Act} {w:World} (hA:At G D N bF J0 cI w0 get obj a w) {K:Act→World→Prop}
  (hK:∀ a' w',At G D N bF J0 cI w0 (gM ev.td ev.r get) (de ev.ow obj) a' w'→K a' w') :
  if Region.wanted o (yielded ops a.tmps) then o.wpIn (fz ro) nn P a w K Q else (∀ f,o.about P w a.eval=some f→(fz ro).fn f)∧K (a.put o.dst Go.undef) w:=by
 obtain ⟨J,ι,S,E⟩:=hA.ex
 obtain ⟨NK,i,g,hi,hgd,oN⟩:ER N o.dst=true∧∃ i g,mE P o.op=some i∧uw N ops o.guard=some g∧io=⟨o.dst,i,g,io.pre⟩:=by
  unfold gI at hc
  split at hc
  ·rename_i hd
   split at hc
   ·rename_i i g h1 h2
    exact ⟨hd,i,g,h1,h2,(Option.some.inj hc).symm⟩
   ·cases hc
  ·cases hc
 have SE:∀ d,o.dst=some d→d<N:=fun d hd=>by rw [hd] at NK; simpa [ER] using NK
 have ND:io.dst=o.dst:=by rw [oN]
 have CA:io.op=i:=by rw [oN]
 have GG:io.guard=g:=by rw [oN]
 have htr:ev.tr=io.tr:=by rcases hst with ⟨_,e,_,rfl,_⟩ | ⟨_,rfl,_⟩ <;> rfl
 have htd:ev.td=o.dst:=by rcases hst with ⟨_,e,_,rfl,_⟩ | ⟨_,rfl,_⟩ <;> exact ND
 -- O6 it is wanted
 have Bf:∀ b,eP io s=some b→Region.wanted o (yielded ops a.tmps)=b:=by
  intro b hb
  unfold eP at hb
  rw [GG] at hb
  cases Km:o.guard with
  | none=>
    rw [Km] at hgd
    simp only [uw] at hgd; cases hgd
    simp only [Region.wanted,Km]
    exact Option.some.inj hb
  | some p=>
    obtain ⟨j,want⟩:=p
    rw [Km] at hgd
    simp only [uw] at hgd
    split at hgd
    ·rename_i oj De
     split at hgd
     ·rename_i t ht
      split at hgd
      ·rename_i Z3
       cases hgd
       dsimp only at hb
       have hgt:get t=s.get t:=hg t (.inl (by rw [htr]; simp [eo.tr,GG]))
       have uc:=S.env t
       rw [hgt] at uc
       have hval:a.tmps[t]? = some (a.tmps.getD t Go.undef):=by
        have:t<a.tmps.size:=by rw [S.size]; exact Z3
        simp [this]
       simp only [Region.wanted,Km,yielded,De,Option.bind_some,ht,hval]
       split at hb
       ·rename_i b' hb'
        rw [hb'] at uc
        have:a.tmps.getD t Go.undef=.bool b':=uc
        rw [this]
        have:=Option.some.inj hb
        rw [← this]
        cases b' <;> cases want <;> rfl
       ·rename_i v hv
        rw [hv] at uc
        have:a.tmps.getD t Go.undef=.tuple v:=uc
        rw [this]
        have:=Option.some.inj hb
        rw [← this]; rfl
       ·cases hb
      ·cases hgd
     ·cases hgd
    ·cases hgd
 rcases hst with ⟨hw,e,he,rfl,rfl⟩ | ⟨hw,rfl,rfl⟩
 ·rw [Bf true hw,if_pos rfl]
  have he':kX P G get obj s.ag.length io.op e:=he.local (fun t ht=>hg t (.inl (by simp [rW,eo.tr,ht]))) (fun q hq=>ho q (.inl hq))
  have hfree:∀ j,j<e.nw.length→obj (s.ag.length+j)=.free:=fun j hj=>by
   rw [ho _ (.inr (by
    simp only [rW,qD.wr,fA.owned,List.map_append,List.mem_append]
    exact .inl (HO _ _ _ hj)))]
   exact dw (by omega)
  rw [CA] at he'
  refine VT (uv hi he'.Y5) (Hw S.store S.env he' hfree hi K Q (fun v w' hAf=>hK _ _ ?_))
  obtain ⟨J',ι',S',E'⟩:=S.step (dst:=o.dst) SE hAf
  refine ⟨J',ι',?_,?_⟩
  ·have e1:(rW io s.ag.length e).td=o.dst:=ND
   rw [e1]
   have e2:de (rW io s.ag.length e).ow obj=bQ obj s.ag.length e:=by
    simp only [rW,fA.owned,iT,bQ,tM]
   rw [e2]; exact S'
  ·have e2:de (rW io s.ag.length e).ow obj=bQ obj s.ag.length e:=by
    simp only [rW,fA.owned,iT,bQ,tM]
   rw [e2]; exact E.trans E'
 ·rw [Bf false hw]
  simp only [Bool.false_eq_true,if_false]
  refine ⟨fun _ _=>trivial,hK _ _ ?_⟩
  obtain ⟨J',ι',S',E'⟩:=S.step (dst:=o.dst) SE (bB.stay S.store (r:=.undef) (v:=Go.undef) rfl)
  exact ⟨J',ι',by rw [htd]; exact S',E.trans E'⟩
def Tr (G:Nat→Option (List DV)) (bF:Nat→cW) (J0:Nat→Prop) (cI:Nat→Nat→Option Nat) (w0:World) (get:Nat→LV) (obj:Nat→cW) (a:Act) (w:World):Prop:=∃ J ι,aN G J w ι obj∧Ext bF obj J0 J cI ι w0 w∧∀ t,dF J w ι (get t) (a.tmps.getD t Go.undef)
theorem Mt {o:Oper} {io:eo} (hc:gI P N ops o io.pre=some io) {s:St} {v:Value} {e:fA} (hp:Fo P G io s v e) {get:Nat→LV} {obj:Nat→cW}
  (hg:∀ t,t∈io.tr→get t=s.get t) (ho:obj=s.obj) {a:Act} {w:World} (hA:At G D N bF J0 cI w0 get obj a w) (K:Act→World→Prop)
  (hX:(D.vW=false→a.defers=D.ds)→∀ w',Tr G bF J0 cI w0 get (s.app none e).obj a w'→Q (.panic [{ v:=v,recovered:=false }]) a w'):Region.wanted o (yielded ops a.tmps)=true∧o.wpIn (fz ro) nn P a w K Q:=by
 obtain ⟨J,ι,S,E⟩:=hA.ex
 obtain ⟨i,g,hi,hgd,oN⟩:∃ i g,mE P o.op=some i∧uw N ops o.guard=some g∧io=⟨o.dst,i,g,io.pre⟩:=by
  unfold gI at hc
  split at hc
  ·split at hc
   ·rename_i i g h1 h2
    exact ⟨i,g,h1,h2,(Option.some.inj hc).symm⟩
   ·cases hc
  ·cases hc
 have CA:io.op=i:=by rw [oN]
 have GG:io.guard=g:=by rw [oN]
 -- O6 it is wanted
 have Bf:∀ b,eP io s=some b→Region.wanted o (yielded ops a.tmps)=b:=by
  intro b hb
  unfold eP at hb
  rw [GG] at hb
  cases Km:o.guard with
  | none=>
    rw [Km] at hgd
    simp only [uw] at hgd; cases hgd
    simp only [Region.wanted,Km]
    exact Option.some.inj hb
  | some p=>
    obtain ⟨j,want⟩:=p
    rw [Km] at hgd
    simp only [uw] at hgd
    split at hgd
    ·rename_i oj De
     split at hgd
     ·rename_i t ht
      split at hgd
      ·rename_i Z3
       cases hgd
       dsimp only at hb
       have hgt:get t=s.get t:=hg t (by simp [eo.tr,GG])
       have uc:=S.env t
       rw [hgt] at uc
       have hval:a.tmps[t]? = some (a.tmps.getD t Go.undef):=by
        have:t<a.tmps.size:=by rw [S.size]; exact Z3
        simp [this]
       simp only [Region.wanted,Km,yielded,De,Option.bind_some,ht,hval]
       split at hb
       ·rename_i b' hb'
        rw [hb'] at uc
        have:a.tmps.getD t Go.undef=.bool b':=uc
        rw [this]
        have:=Option.some.inj hb
        rw [← this]
        cases b' <;> cases want <;> rfl
       ·rename_i v hv
        rw [hv] at uc
        have:a.tmps.getD t Go.undef=.tuple v:=uc
        rw [this]
        have:=Option.some.inj hb
        rw [← this]; rfl
       ·cases hb
      ·cases hgd
     ·cases hgd
    ·cases hgd
 obtain ⟨hw,f,args,k,fs,cs,hop,jq,Is⟩:=hp
 refine ⟨Bf true hw,?_⟩
 rw [CA] at hop
 subst hop
 have hf:f.ev G get=f.ev G s.get:=bY.dn (fun t ht=>hg t (by simp [eo.tr,CA,I.tmps,ht]))
 have ha:args.map (·.ev G get)=args.map (·.ev G s.get):=nJ (fun t ht=>hg t (by simp only [eo.tr,CA,I.tmps,List.mem_append]; exact .inl (.inr ht)))
 have hl:∀ p∈e.wr,p.1<s.ag.length:=fun p hp=>by
  obtain ⟨ob,e_⟩:=Is.s_ p hp
  exact xh e_
 refine VT (uv hi (by simp)) (Oz S.store S.env (by rw [hf]; exact jq) (Is.local (by rw [ha]) (fun q _=>by rw [ho])) (fun j _=>?_) hi K Q (fun w' hAf=>hX S.defers.none w' ?_))
 ·rw [ho]; exact dw (by omega)
 ·obtain ⟨J',ι',S',_,E'⟩:=hAf
  have e1:(s.app none e).obj=bQ obj s.ag.length e:=by
   rw [ho]; exact IP s.ag e hl
  rw [e1]
  exact ⟨J',ι',S',E.trans E',fun t=>(S.env t).ev S.store E'.ev⟩
def qy (P:Program) (G:Nat→Option (List DV)) (ro:Option Nat) (Y:YO) (D:Dk) (N:Nat) (bF:Nat→cW) (J0:Nat→Prop) (cI:Nat→Nat→Option Nat) (w0:World):Prop:=
 ∀ oy args ag ys K',Y (.yl oy::args) ag ys K'→∀ get a w,At G D N bF J0 cI w0 get (ay ag) a w→get YS=ys→∀ (y:Value) (vs:List Value),(∃ J ι,Sim G D N J w ι a get (ay ag)∧Ext bF (ay ag) J0 J cI ι w0 w∧dF J w ι (.yl oy) y∧cL J w ι args vs)→
   ∃ l,y=.func (.yield l) #[] #[]∧∀ nn,YieldAt (fz ro) nn P l vs.toArray w (fun e w'=>∃ ys' b aC,e=.returned (.bool b)∧K' ys' b aC∧∀ dst,(∀ d,dst=some d→d<N)→At G D N bF J0 cI w0 (gM dst (.bool b) (fun t=>if YS=t then ys' else get t)) (ay aC) (a.put dst (.bool b)) w')
theorem qy.no {D:Dk} {N:Nat} {bF:Nat→cW} {J0:Nat→Prop} {cI:Nat→Nat→Option Nat} {w0:World} : qy P G ro qS D N bF J0 cI w0:=fun _ _ _ _ _ h=>h.elim
theorem Ms {Y:YO} (hY:qy P G ro Y D N bF J0 cI w0) {o:Oper} {io:eo} (hc:gI P N ops o io.pre=some io) {s:St} {K0:St→Prop} (hst:YAt G Y io s K0) {a:Act} {w:World} (hA:At G D N bF J0 cI w0 s.get s.obj a w) {K:Act→World→Prop}
  (hK:∀ s' a' w',K0 s'→At G D N bF J0 cI w0 s'.get s'.obj a' w'→K a' w'):Region.wanted o (yielded ops a.tmps)=true∧o.wpIn (fz ro) nn P a w K Q:=by
 obtain ⟨hw,f,args,oy,hop,eu,hY0⟩:=hst
 obtain ⟨J,ι,S,E⟩:=hA.ex
 obtain ⟨NK,i,g,hi,hgd,oN⟩:ER N o.dst=true∧∃ i g,mE P o.op=some i∧uw N ops o.guard=some g∧io=⟨o.dst,i,g,io.pre⟩:=by
  unfold gI at hc
  split at hc
  ·rename_i hd
   split at hc
   ·rename_i i g h1 h2
    exact ⟨hd,i,g,h1,h2,(Option.some.inj hc).symm⟩
   ·cases hc
  ·cases hc
 have SE:∀ d,o.dst=some d→d<N:=fun d hd=>by rw [hd] at NK; simpa [ER] using NK
 have ND:io.dst=o.dst:=by rw [oN]
 have CA:io.op=i:=by rw [oN]
 have GG:io.guard=g:=by rw [oN]
 have Bf:Region.wanted o (yielded ops a.tmps)=true:=by
  have hb:=hw
  unfold eP at hb
  rw [GG] at hb
  cases Km:o.guard with
  | none=>simp only [Region.wanted,Km]
  | some p=>
    obtain ⟨j,want⟩:=p
    rw [Km] at hgd
    simp only [uw] at hgd
    split at hgd
    ·rename_i oj De
     split at hgd
     ·rename_i t ht
      split at hgd
      ·rename_i Z3
       cases hgd
       dsimp only at hb
       have uc:=S.env t
       have hval:a.tmps[t]? = some (a.tmps.getD t Go.undef):=by
        have:t<a.tmps.size:=by rw [S.size]; exact Z3
        simp [this]
       simp only [Region.wanted,Km,yielded,De,Option.bind_some,ht,hval]
       split at hb
       ·rename_i b' hb'
        rw [hb'] at uc
        have:a.tmps.getD t Go.undef=.bool b':=uc
        rw [this]
        have:=Option.some.inj hb
        revert this
        cases b' <;> cases want <;> simp
       ·rename_i v hv
        cases hb
       ·cases hb
      ·cases hgd
     ·cases hgd
    ·cases hgd
 refine ⟨Bf,?_⟩
 rw [CA] at hop
 subst hop
 replace hi:=sW hi
 obtain ⟨dst,op,type,pos,after,guard⟩:=o
 dsimp only at hi ND SE ⊢
 obtain ⟨F,as,ts,rfl,hF,hargs⟩:∃ F as ts,op=.call ⟨.value F,as,ts⟩∧aL F=some f∧ee as.toList=some args:=by
  cases op with
  | call c=>
    obtain ⟨callee,as,ts⟩:=c
    cases callee with
    | value F=>
      simp only [cV] at hi
      split at hi
      ·rename_i f' args' h1 h2; cases hi; exact ⟨F,as,ts,rfl,h1,h2⟩
      ·cases hi
    | invoke r m=>simp [cV] at hi
    | builtin b=>
      exfalso
      cases b <;> simp only [cV] at hi <;> (repeat' split at hi) <;> cases hi
  | unOp u T x=>exfalso; cases u <;> simp only [cV] at hi <;> (try (cases hi; done)) <;> (repeat' split at hi) <;> cases hi
  | _=>
    exfalso
    simp only [cV] at hi <;> (repeat' split at hi) <;> cases hi
 have Gz:=bp S.store S.env hF
 have hrA:=qN S.store S.env hargs
 rw [eu] at Gz
 obtain ⟨l,Nc,Cy⟩:=hY _ _ _ _ _ hY0 s.get a w hA rfl (a.eval F) (as.toList.map a.eval) ⟨J,ι,S,E,Gz,hrA⟩
 obtain ⟨fn,tmps,assign,body,hrun,hR⟩:=Cy (nn-1)
 refine ⟨fun _ _=>trivial,?_⟩
 rw [Oper.semAt_eq _ _ _ (fun c h=>by cases h)]
 have hex:(execOp a.eval ⟨dst,.call ⟨.value F,as,ts⟩,type,pos,after,guard⟩).run P w=.ok (.round l fn tmps assign body) w:=by
  have e1:as.map a.eval=(as.toList.map a.eval).toArray:=by
   apply Array.toList_inj.1
   simp
  simp only [execOp,resolve,Sem.run_bind,Nc,Deferred.ofValue,Sem.run_pure,Result.andThen_ok,invoke,callFunc,e1]
  simpa using hrun
 rw [hex,Oper.uponIn_round]
 refine ⟨(fun hh=>by cases hh),hR.mono (fun e w' hq=>?_)⟩
 obtain ⟨ys',b,aC,rfl,hk,hat⟩:=hq
 refine hK _ _ _ hk ?_
 have:=hat dst SE
 have e2:(St.get ⟨ej io.dst (.bool b) ((YS,ys')::s.env),aC⟩)=gM dst (.bool b) (fun t=>if YS=t then ys' else s.get t):=by
  show aO _=_
  rw [ze,ND]
  rfl
 rw [e2]
 exact this
theorem AR {Y:YO} (hY:qy P G ro Y D N bF J0 cI w0) {X:Value→fA→St→Prop} (hX:∀ v e s a w,(D.vW=false→a.defers=D.ds)→Tr G bF J0 cI w0 s.get s.obj a w→X v e s→Q (.panic [{ v:=v,recovered:=false }]) a w)
  {o:Oper} {io:eo} (h2:gI P N ops o io.pre=some io) {s:St} {K:St→fA→Prop} {K0:St→Prop} (hv:xD P G Y X io s K K0) {a:Act} {w:World} (hA:At G D N bF J0 cI w0 s.get s.obj a w) {K':Act→World→Prop}
  (h1:∀ s' e a' w',K s' e→At G D N bF J0 cI w0 s'.get s'.obj a' w'→K' a' w') (h0:∀ s' a' w',K0 s'→At G D N bF J0 cI w0 s'.get s'.obj a' w'→K' a' w') :
  if Region.wanted o (yielded ops a.tmps) then o.wpIn (fz ro) nn P a w K' Q else (∀ f,o.about P w a.eval=some f→(fz ro).fn f)∧K' (a.put o.dst Go.undef) w:=by
 have kJ:∀ s' ev,r_ P G io s ev s'→(∀ a' w',At G D N bF J0 cI w0 s'.get s'.obj a' w'→K' a' w')→if Region.wanted o (yielded ops a.tmps) then o.wpIn (fz ro) nn P a w K' Q else (∀ f,o.about P w a.eval=some f→(fz ro).fn f)∧K' (a.put o.dst Go.undef) w:=by
  intro s' ev hst Z1
  obtain ⟨LB,hn2⟩:=hst.next
  refine Cd h2 hst (fun _ _=>rfl) (fun _ _=>rfl) hA (fun a' w' vo=>Z1 a' w' ?_)
  rw [← LB,← hn2] at vo
  exact vo
 rcases Ao hv with ⟨hw,e,he,hk⟩ | ⟨hw,hk⟩ | ⟨v,e,hp,hk⟩ | hy
 ·exact kJ _ _ (.inl ⟨hw,e,he,rfl,rfl⟩) (fun a' w'=>h1 _ _ a' w' hk)
 ·exact kJ _ _ (.inr ⟨hw,rfl,rfl⟩) (fun a' w'=>h0 _ a' w' hk)
 ·obtain ⟨h3,h4⟩:=Mt (Q:=Q) h2 hp (fun _ _=>rfl) rfl hA K' (fun hd w' hO=>hX v _ _ a w' hd hO hk)
  rw [h3,if_pos rfl]; exact h4
 ·obtain ⟨h3,h4⟩:=Ms (Q:=Q) hY h2 hy hA (fun s' a' w' hk vo=>h1 _ _ _ _ hk vo)
  rw [h3,if_pos rfl]; exact h4
theorem Ay {Y:YO} (hY:qy P G ro Y D N bF J0 cI w0) {X:Value→St→Prop} {K:St→Prop} (hQ:∀ s a w,At G D N bF J0 cI w0 s.get s.obj a w→K s→Q .normal a w) (hX:∀ v s a w,(D.vW=false→a.defers=D.ds)→Tr G bF J0 cI w0 s.get s.obj a w→X v s→Q (.panic [{ v:=v,recovered:=false }]) a w) :
  ∀ (os:List Oper) (gi:List eo) (s:St) (a:Act) (w:World),gi.length=os.length→(∀ (i:Nat) (o:Oper),os[i]? = some o→∃ io,gi[i]? = some io∧gI P N ops o io.pre=some io)→gO P G Y X gi s K→
    At G D N bF J0 cI w0 s.get s.obj a w→wpListIn (fz ro) nn P ops Q os a w
 | [],gi,s,a,w,hl,hc,hv,hA=>by
   cases gi with
   | nil=>exact hQ s a w hA hv
   | cons _ _=>simp at hl
 | o::os,[],s,a,w,hl,hc,hv,hA=>by simp at hl
 | o::os,io::gi,s,a,w,hl,hc,hv,hA=>by
   obtain ⟨io',h1,h2⟩:=hc 0 o (by simp)
   simp at h1; subst h1
   refine wpListIn_step (fun K' Fx=>?_)
   simp only [gO] at hv
   have hnext:∀ s' a' w',gO P G Y X gi s' K→At G D N bF J0 cI w0 s'.get s'.obj a' w'→K' a' w':=fun s' a' w' Z1 vo=>
    Fx _ _ (Ay hY hQ hX os gi s' a' w' (by simpa using hl) (fun i o' hi=>by simpa using hc (i+1) o' (by simpa using hi)) Z1 vo)
   exact AR hY (fun v _ s a w h1 h2 h3=>hX v s a w h1 h2 h3) h2 hv hA (fun s' _=>hnext s') hnext
structure Ord (P:Program) (N:Nat) (ops:Array Oper) (gi:List eo):Prop where
 mix:P.follows .mixedOrders=true
 len:gi.length=ops.size
 at_:∀ i,i<ops.size→∃ o io,ops[i]? = some o∧gi[i]? = some io∧gI P N ops o io.pre=some io
 dr:∀ j o io,ops[j]? = some o→gi[j]? = some io→(∀ k∈direct o,k<j)∧(∀ i∈io.pre,i<ops.size∧∃ k∈direct o,k=i∨∃ z,gi[k]? = some z∧i∈z.pre)∧
   (∀ i x,i<j→gi[i]? = some x→i∈io.pre∨(G3 x io=false∧CT x io=false))
def O3 (gi:List eo) (i j:Nat):Prop:=∃ io,gi[j]? = some io∧i∈io.pre
theorem Ord.of {gi:List eo} (hc:ov P N ops true=some gi):Ord P N ops gi:=by
 simp only [ov,if_true] at hc
 split at hc
 ·rename_i aco hcs
  split at hc
  ·rename_i hok
   cases hc
   rw [Bool.and_eq_true] at hok
   obtain ⟨abI,NL⟩:=hok
   obtain ⟨hlen,og⟩:=qv hcs
   simp only [Array.length_toList] at hlen
   unfold My at NL
   rw [List.all_eq_true] at NL
   refine ⟨abI,hlen,fun i hi=>?_,fun j o io De hij=>?_⟩
   ·obtain ⟨io,k1,k2⟩:=og i ops[i] (by simp)
    exact ⟨ops[i],io,Array.getElem?_eq_getElem hi,k1,k2⟩
   ·have aap:=(Array.getElem?_eq_some_iff.1 De).1
    have h1:=NL j (by simpa using aap)
    have abG:ops.toList[j]? = some o:=by simpa using De
    rw [abG,hij] at h1
    simp only [Bool.and_eq_true,List.all_eq_true,decide_eq_true_eq,List.any_eq_true,Bool.or_eq_true,beq_iff_eq] at h1
    obtain ⟨⟨h2,h3⟩,h4⟩:=h1
    refine ⟨h2,fun i hi=>?_,fun i x hilt hx=>?_⟩
    ·obtain ⟨h5,k,hk,h6⟩:=h3 i hi
     refine ⟨by simpa using h5,k,hk,h6.imp id (fun h=>?_)⟩
     split at h
     ·rename_i z hz; exact ⟨z,hz,by simpa using h⟩
     ·cases h
    ·have:=h4 i (by simpa using hilt)
     rw [hx] at this
     simp only [Bool.or_eq_true,Bool.not_eq_true',List.contains_iff_mem,Bool.or_eq_false_iff] at this
     exact this
  ·cases hc
 ·cases hc
theorem Ord.pre {gi:List eo} (h:Ord P N ops gi) (j:Nat) (o:Oper) (ho:ops[j]? = some o) (i:Nat) (hij:O3 gi i j):∃ e∈o.after,Region.binds .any e=true∧(e.on=i∨O3 gi i e.on):=by
 obtain ⟨io,oN,hmem⟩:=hij
 obtain ⟨_,h2,_⟩:=h.dr j o io ho oN
 obtain ⟨_,k,hk,h3⟩:=h2 i hmem
 simp only [direct,List.mem_map,List.mem_filter,Array.mem_toList_iff] at hk
 obtain ⟨e,⟨he,hb⟩,yZ⟩:=hk
 refine ⟨e,he,hb,?_⟩
 rw [yZ]
 exact h3.imp id (fun ⟨z,hz,hiz⟩=>⟨z,hz,hiz⟩)
theorem Ord.back {gi:List eo} (h:Ord P N ops gi) (j:Nat) (o:Oper) (ho:ops[j]? = some o) (e:Edge) (he:e∈o.after) (hb:Region.binds .any e=true):e.on<j:=by
 obtain ⟨_,io,_,oN,_⟩:=h.at_ j (Array.getElem?_eq_some_iff.1 ho).1
 obtain ⟨h1,_,_⟩:=h.dr j o io ho oN
 refine h1 e.on ?_
 simp only [direct,List.mem_map,List.mem_filter,Array.mem_toList_iff]
 exact ⟨e,⟨he,hb⟩,rfl⟩
theorem Ord.lt {gi:List eo} (h:Ord P N ops gi) (i j:Nat) (hij:O3 gi i j):i<ops.size:=by
 obtain ⟨io,oN,hmem⟩:=hij
 have hj:j<ops.size:=by rw [← h.len]; exact (List.getElem?_eq_some_iff.1 oN).1
 obtain ⟨o,io',ho,NF,_⟩:=h.at_ j hj
 rw [oN] at NF; cases NF
 obtain ⟨_,h2,_⟩:=h.dr j o io ho oN
 exact (h2 i hmem).1
def Of:qD:={ tr:=[],td:=none,r:=.top,rd:=[],ow:=[] }
theorem zo {X:Value→St→Prop} {K:St→Prop} {gi:List eo} (O:Ord P N ops gi) {lo hi:Nat} (hlh:lo≤hi) (hhi:hi≤ops.size) (Kt:∀ i j,i<hi→hi≤j→j<ops.size→O3 gi i j) {sg:List eo} (uM:sg.length=hi-lo)
  (hsg:∀ i io x,gi[lo+i]? = some io→sg[i]? = some x→x.dst=io.dst∧x.op=io.op∧x.guard=io.guard∧∀ k∈x.pre,lo+k∈io.pre)
  (hQ:∀ s a w listed,At G D N bF J0 cI w0 s.get s.obj a w→K s→listed.size=ops.size→(∀ j,listed.getD j false=decide (j<hi))→wpAnyIn (fz ro) nn P .any ops Q (listed.toList.count false) listed a w)
  (hX:∀ v s a w,(D.vW=false→a.defers=D.ds)→Tr G bF J0 cI w0 s.get s.obj a w→X v s→Q (.panic [{ v:=v,recovered:=false }]) a w) {s:St} (hv:e6 P G X sg s [] (fun s log=>indep log=true∧K s)) {a:Act} {w:World}
  (hA:At G D N bF J0 cI w0 s.get s.obj a w) {listed:Array Bool} (hls:listed.size=ops.size) (hD:∀ j,listed.getD j false=decide (j<lo)):wpAnyIn (fz ro) nn P .any ops Q (listed.toList.count false) listed a w:=by
 have Gu:∀ i,lo≤i→i<hi→∃ o io x,ops[i]? = some o∧gi[i]? = some io∧sg[i-lo]? = some x∧gI P N ops o x.pre=some x∧x.dst=io.dst∧x.tr=io.tr∧∀ k∈x.pre,lo+k∈io.pre:=by
  intro i h1 h2
  obtain ⟨o,io,ho,oN,ja⟩:=O.at_ i (by omega)
  have hx:=List.getElem?_eq_getElem (l:=sg) (i:=i-lo) (by omega)
  obtain ⟨q1,q2,q3,q4⟩:=hsg (i-lo) io _ (by rw [show lo+(i-lo)=i by omega]; exact oN) hx
  refine ⟨o,io,_,ho,oN,hx,?_,q1,by unfold eo.tr; rw [q2,q3],q4⟩
  generalize sg[i-lo]=x at *
  obtain ⟨xd,xo,xg,xp⟩:=x
  obtain ⟨d,op,g,pr⟩:=io
  dsimp only at q1 q2 q3
  subst q1 q2 q3
  unfold gI at ja ⊢
  split at ja
  ·rename_i hd
   rw [if_pos hd]
   split at ja
   ·rename_i i' g' e1 e2
    cases ja
    rfl
   ·cases ja
  ·cases ja
 let E:(Nat→qD)→Nat→qD:=fun es i=>if lo≤i∧i<hi then es (i-lo) else Of
 have CD:∀ es i,lo≤i→i<hi→E es i=es (i-lo):=fun es i h1 h2=>by simp only [E,if_pos (And.intro h1 h2)]
 have Iz:∀ es i,¬ (lo≤i∧i<hi)→E es i=Of:=fun es i h=>by simp only [E,if_neg h]
 have NO:∀ (es:Nat→qD) (ig:List iS),(∀ (i:Nat) (x:eo),sg[i]? = some x→(es i).tr=x.tr∧(es i).td=x.dst)→indep ig=true→(∀ (i:Nat) (x:eo),sg[i]? = some x→ig[i]? = some ⟨x.pre,(es i).rd,(es i).wr⟩)→
   ∀ i j,i<j→j<ops.size→uK (E es i) (E es j)→O3 gi i j:=by
  intro es ig Bg Ko oe i j hij hj hcl
  by_cases hi1:lo≤i∧i<hi
  case neg=>rw [Iz es i hi1] at hcl; simp [uK,Of,qD.wr] at hcl
  by_cases hj1:lo≤j∧j<hi
  case neg=>rw [Iz es j hj1] at hcl; simp [uK,Of,qD.wr] at hcl
  rw [CD es i hi1.1 hi1.2,CD es j hj1.1 hj1.2] at hcl
  obtain ⟨oi,ioi,x,_,abR,hx,_,dxi,txi,_⟩:=Gu i hi1.1 hi1.2
  obtain ⟨oj,ioj,y,De,aaq,hy,_,dyj,tyj,VJ⟩:=Gu j hj1.1 hj1.2
  refine ⟨ioj,aaq,?_⟩
  obtain ⟨_,_,h3⟩:=O.dr j oj ioj De aaq
  rcases h3 i ioi hij abR with h | ⟨hT,hT'⟩
  ·exact h
  ·obtain ⟨tx,dx⟩:=Bg _ x hx
   obtain ⟨ty,dy⟩:=Bg _ y hy
   have v_:=oe _ x hx
   have Nv:=oe _ y hy
   rw [txi] at tx; rw [dxi] at dx; rw [tyj] at ty; rw [dyj] at dy
   have hin:i-lo∈y.pre→i∈ioj.pre:=fun h=>by
    have:=VJ _ h
    rwa [show lo+(i-lo)=i by omega] at this
   rcases hcl with ⟨t,h1,h2⟩ | ⟨t,h1,h2⟩ | ⟨q,h1,h2⟩ | ⟨q,h1,h2⟩
   ·exfalso
    rw [dx] at h1; rw [ty,dy] at h2
    simp only [G3,h1,Bool.or_eq_false_iff] at hT
    rcases h2 with h2 | h2
    ·have:=hT.1; simp [h2] at this
    ·have:=hT.2; simp [h2] at this
   ·exfalso
    rw [dy] at h1; rw [tx] at h2
    simp [CT,h1,h2] at hT'
   ·refine hin (yW Ko v_ Nv (by omega) ?_)
    simp only [zF,Bool.or_eq_true,List.any_eq_true,List.contains_iff_mem]
    exact .inl ⟨q,h1,h2⟩
   ·refine hin (yW Ko v_ Nv (by omega) ?_)
    simp only [zF,Bool.or_eq_true,List.any_eq_true,List.contains_iff_mem]
    exact .inr ⟨q,h1,h2⟩
 have X0:∀ (es:Nat→qD) (ss:Nat→St),ss 0=s→(∀ (i:Nat) (x:eo),sg[i]? = some x→(ss (i+1)).get=gM (es i).td (es i).r (ss i).get∧(ss (i+1)).obj=de (es i).ow (ss i).obj)→∀ k,k≤ops.size→jU (E es) s.get s.obj (fun _=>true) k=((ss (min k hi-lo)).get,(ss (min k hi-lo)).obj):=by
  intro es ss h0 hnx k
  induction k with
  | zero=>intro _; simp only [jU,Nat.zero_min,Nat.zero_sub,h0]
  | succ k ih=>
    intro hk
    simp only [jU,if_true,ih (by omega)]
    by_cases hin:lo≤k∧k<hi
    ·obtain ⟨_,_,x,_,_,hx,_⟩:=Gu k hin.1 hin.2
     obtain ⟨n1,n2⟩:=hnx _ x hx
     rw [CD es k hin.1 hin.2,show min (k+1) hi-lo=(k-lo)+1 by omega,show min k hi-lo=k-lo by omega,n1,n2]
    ·rw [Iz es k hin,show min (k+1) hi-lo=min k hi-lo by omega]
     refine Prod.ext (funext fun t=>?_) rfl
     simp [gM,Of]
 have ud:∀ (es:Nat→qD) (ss:Nat→St),ss 0=s→(∀ (i:Nat) (x:eo),sg[i]? = some x→(ss (i+1)).get=gM (es i).td (es i).r (ss i).get∧(ss (i+1)).obj=de (es i).ow (ss i).obj)→∀ i,i≤ops.size→jU (E es) s.get s.obj (fun j=>decide (j<i)) ops.size=((ss (min i hi-lo)).get,(ss (min i hi-lo)).obj):=by
  intro es ss h0 hnx i hi
  rw [← X0 es ss h0 hnx i hi]
  have h1:∀ k,i≤k→jU (E es) s.get s.obj (fun j=>decide (j<i)) k=jU (E es) s.get s.obj (fun j=>decide (j<i)) i:=by
   intro k
   induction k with
   | zero=>intro h; have:i=0:=by omega
           subst this; rfl
   | succ k ih=>
     intro h
     by_cases hki:i=k+1
     ·subst hki; rfl
     ·rw [← ih (by omega)]
      simp only [jU]
      rw [if_neg (by simp; omega)]
  have h2:∀ k,k≤i→jU (E es) s.get s.obj (fun j=>decide (j<i)) k=jU (E es) s.get s.obj (fun _=>true) k:=by
   intro k
   induction k with
   | zero=>intro _; rfl
   | succ k ih=>
     intro h
     simp only [jU,ih (by omega),if_true]
     rw [if_pos (by simp; omega)]
  rw [h1 _ hi,h2 _ (Nat.le_refl _)]
 have hI0:∀ (es:Nat→qD) (ss:Nat→St),ss 0=s→(∀ (i:Nat) (x:eo),sg[i]? = some x→(ss (i+1)).get=gM (es i).td (es i).r (ss i).get∧(ss (i+1)).obj=de (es i).ow (ss i).obj)→At G D N bF J0 cI w0 (jU (E es) s.get s.obj (fun j=>listed.getD j false) ops.size).1 (jU (E es) s.get s.obj (fun j=>listed.getD j false) ops.size).2 a w:=by
  intro es ss h0 hnx
  rw [show (fun j=>listed.getD j false)=fun j=>decide (j<lo) from funext hD,ud es ss h0 hnx lo (by omega),show min lo hi-lo=0 by omega,h0]
  exact hA
 have aaz:∀ (j:Nat) (o:Oper),ops[j]? = some o→listed.getD j false=true→∀ e∈o.after,Region.binds .any e=true→listed.getD e.on false=true:=fun j o ho hj e he hb=>by
  have:=O.back j o ho e he hb
  rw [hD] at hj ⊢
  simp at hj ⊢; omega
 have hlo:∀ j,j<lo→listed.getD j false=true:=fun j hj=>by rw [hD]; simp [hj]
 rcases xC sg s [] hv with ⟨ss,es,ig,h0,hst,⟨Ko,hK⟩,Bh,oe,_⟩ | ⟨p,op,ss,es,ig,_,Sw,h0,hst,⟨Ko,XK⟩,Bh,oe,_⟩
 ·simp only [List.length_nil,Nat.zero_add] at oe
  have Bg:∀ (i:Nat) (o:eo),sg[i]? = some o→(es i).tr=o.tr∧(es i).td=o.dst:=by
   intro i o hi
   rcases hst i o hi with ⟨_,e,_,h1,_⟩ | ⟨_,h1,_⟩ <;> rw [h1] <;> exact ⟨rfl,rfl⟩
  have hnx:=fun (i:Nat) (x:eo) hx=>(hst i x hx).next
  refine FB (E:=E es) (g0:=s.get) (o0:=s.obj) (R:=O3 gi) (fun g obj a w=>At G D N bF J0 cI w0 g obj a w) lo hi hhi Kt (NO es ig Bg Ko oe) O.pre O.back O.lt ?_ ?_ _ listed a w hls rfl (fun j hj=>?_) hlo aaz (hI0 es ss h0 hnx)
  ·intro i g obj GC GH hg ho a w K' vo Fx
   obtain ⟨o,io,x,hoi,oN,hx,ja,_⟩:=Gu i GC GH
   rw [ud es ss h0 hnx i (by omega),show min i hi-lo=i-lo by omega,CD es i GC GH] at hg ho
   rw [CD es i GC GH] at Fx
   have:=Cd (ro:=ro) (nn:=nn) (ops:=ops) (Q:=Q) ja (hst _ x hx) hg ho vo Fx
   unfold wpOpIn
   simp only [hoi]
   exact this
  ·intro listed a w hls hD hI
   rw [ud es ss h0 hnx hi hhi,show min hi hi-lo=sg.length by omega] at hI
   exact hQ _ a w listed hI hK hls hD
  ·rw [hD] at hj; simp at hj; omega
 ·rw [List.length_nil,Nat.sub_zero] at Sw
  simp only [List.length_nil,Nat.zero_add] at oe hst Bh
  have iZ:p<sg.length:=(List.getElem?_eq_some_iff.1 Sw).1
  have hlp:lo+p<hi:=by omega
  have Bg:∀ (i:Nat) (o:eo),sg[i]? = some o→(es i).tr=o.tr∧(es i).td=o.dst:=fun i o hi=>(hst i o hi).tr
  have hnx:=fun (i:Nat) (x:eo) hx=>(hst i x hx).next
  obtain ⟨op0,iop,x0,abB,CA,hx0,ab0,_,_,aab⟩:=Gu (lo+p) (by omega) hlp
  rw [show lo+p-lo=p by omega,Sw] at hx0
  cases hx0
  refine Ja (E:=E es) (g0:=s.get) (o0:=s.obj) (R:=O3 gi) (fun g obj a w=>At G D N bF J0 cI w0 g obj a w) lo (lo+p) (by omega) (NO es ig Bg Ko oe) O.pre O.back O.lt ?_ ?_ ?_ _ listed a w hls rfl aaz hlo (by rw [hD]; simp) (hI0 es ss h0 hnx)
  ·intro i g obj GC abQ YE hRp hg ho a w K' vo Fx
   have GH:i<hi:=by
    rcases Nat.lt_or_ge i hi with h | h
    ·exact h
    ·exact absurd (Kt (lo+p) i hlp h abQ) hRp
   obtain ⟨o,io,x,hoi,oN,hx,ja,_,_,hpx⟩:=Gu i GC GH
   rw [ud es ss h0 hnx i (by omega),show min i hi-lo=i-lo by omega,CD es i GC GH] at hg ho
   rw [CD es i GC GH] at Fx
   have hstep:r_ P G x (ss (i-lo)) (es (i-lo)) (ss (i-lo+1)):=by
    have h1:=hst _ x hx
    unfold oP at h1
    by_cases hlt:i-lo<p
    ·rw [if_pos hlt] at h1; exact h1
    ·rw [if_neg hlt,if_neg (by omega)] at h1
     rcases h1 with ⟨h2,_⟩ | ⟨_,h2⟩
     ·exact absurd ⟨io,oN,hpx p h2⟩ hRp
     ·exact h2
   have:=Cd (ro:=ro) (nn:=nn) (ops:=ops) (Q:=Q) ja hstep hg ho vo Fx
   unfold wpOpIn
   simp only [hoi]
   exact this
  ·intro j hj hne
   by_cases hin:lo≤j∧j<hi
   case neg=>rw [Iz es j hin] at hne; exact absurd rfl hne
   rw [CD es j hin.1 hin.2] at hne
   obtain ⟨_,_,y,_,_,hy,_⟩:=Gu j hin.1 hin.2
   have Nv:=oe _ y hy
   unfold DQ at XK
   rw [Bool.and_eq_true,List.all_eq_true,List.all_eq_true] at XK
   obtain ⟨k1,k2⟩:=XK
   have k3:=k2 (j-lo) (by rw [List.mem_range,Bh]; omega)
   rw [Nv] at k3
   simp only [Bool.or_eq_true,List.contains_iff_mem,List.isEmpty_iff] at k3
   have k4:j-lo∈op.pre:=k3.resolve_right hne
   have k5:=k1 _ k4
   simp only [decide_eq_true_eq] at k5
   have:=aab _ k4
   rw [show lo+(j-lo)=j by omega] at this
   exact ⟨⟨iop,CA,this⟩,by omega⟩
  ·intro g obj hg ho a w K' vo
   rw [ud es ss h0 hnx (lo+p) (by omega),show min (lo+p) hi-lo=p by omega] at hg ho
   rw [CD es (lo+p) (by omega) hlp,show lo+p-lo=p by omega] at hg
   have h1:=hst p op Sw
   unfold oP at h1
   rw [if_neg (by omega),if_pos rfl] at h1
   obtain ⟨v,e,Nn,hXv,eu,_⟩:=h1
   obtain ⟨h3,h4⟩:=Mt (ops:=ops) (Q:=Q) ab0 Nn (fun t ht=>hg t (by rw [eu]; exact ht)) ho vo K' (fun hd w' ⟨J,ι,h1,h2,_⟩=>hX v ⟨[],_⟩ a w' hd ⟨J,ι,h1,h2,fun _=>trivial⟩ hXv)
   unfold wpOpIn
   simp only [abB]
   rw [if_pos h3]
   exact h4
theorem Ot {X:Value→St→Prop} {K:St→Prop} (hQ:∀ s a w,At G D N bF J0 cI w0 s.get s.obj a w→K s→Q .normal a w) (hX:∀ v s a w,(D.vW=false→a.defers=D.ds)→Tr G bF J0 cI w0 s.get s.obj a w→X v s→Q (.panic [{ v:=v,recovered:=false }]) a w) {gi:List eo} (hc:ov P N ops true=some gi) {s:St} (hv:e6 P G X gi s [] (fun s log=>indep log=true∧K s)) {a:Act} {w:World}
  (hA:At G D N bF J0 cI w0 s.get s.obj a w):P.follows .mixedOrders=true∧wpAnyIn (fz ro) nn P .any ops Q ops.size (Array.replicate ops.size false) a { w with drawn:=w.drawn+1 }:=by
 have O:=Ord.of hc
 refine ⟨O.mix,?_⟩
 have Ks:(Array.replicate ops.size false).toList.count false=ops.size:=by simp
 have:=zo (ro:=ro) (nn:=nn) (hi:=ops.size) (lo:=0) (a:=a) (w:={ w with drawn:=w.drawn+1 }) (s:=s) O (Nat.zero_le _) (Nat.le_refl _) (fun i j _ h1 h2=>absurd h2 (by omega)) (by rw [O.len]; rfl) (fun i io x h1 h2=>by rw [Nat.zero_add,h2] at h1; cases h1; exact ⟨rfl,rfl,rfl,fun k hk=>by rwa [Nat.zero_add]⟩) (fun s a w listed h1 h2 h3 h4=>wpAny_done h3 h4 (hQ s a w h1 h2)) hX hv hA.drew (listed:=Array.replicate ops.size false) (by simp) (fun j=>by by_cases h:j<ops.size <;> simp [h])
 rw [Ks] at this
 exact this
def OF (gi:List eo) (p:Nat):Bool:=(match gi[p]? with
 | some io=>(match io.op with | .call (.t _) _=>true | _=>false)&&(List.range p).all (io.pre.contains ·)
 | none=>false)&&(List.range gi.length).all fun j=>decide (j≤p)||(match gi[j]? with | some z=>(List.range (p+1)).all (z.pre.contains ·) | none=>true)
def Yd (gi:List eo):Option Nat:=(List.range gi.length).find? (OF gi)
def BS (m:Nat) (io:eo):eo:={ io with pre:=(io.pre.filter (decide <| m≤·)).map (· - m) }
theorem Oq {Y:YO} (hY:qy P G ro Y D N bF J0 cI w0) {X:Value→St→Prop} {K:St→Prop} (hQ:∀ s a w,At G D N bF J0 cI w0 s.get s.obj a w→K s→Q .normal a w) (hX:∀ v s a w,(D.vW=false→a.defers=D.ds)→Tr G bF J0 cI w0 s.get s.obj a w→X v s→Q (.panic [{ v:=v,recovered:=false }]) a w) {gi:List eo} (hc:ov P N ops true=some gi) {p:Nat} {io:eo} (hp:gi[p]? = some io) (hb:OF gi p=true) {s:St}
  (hv:e6 P G X (gi.take p) s [] (fun s log=>indep log=true∧gO P G Y X [io] s (fun s=>e6 P G X ((gi.drop (p+1)).map (BS (p+1))) s [] (fun s log=>indep log=true∧K s)))) {a:Act} {w:World}
  (hA:At G D N bF J0 cI w0 s.get s.obj a w) {rid:Nat} : (Code.region rid ops true).wpIn (fz ro) nn P Q a w:=by
 have O:=Ord.of hc
 have iZ:p<gi.length:=(List.getElem?_eq_some_iff.1 hp).1
 have hps:p<ops.size:=by rw [← O.len]; exact iZ
 unfold OF at hb
 rw [hp,Bool.and_eq_true,Bool.and_eq_true,List.all_eq_true,List.all_eq_true] at hb
 obtain ⟨⟨_,EC⟩,NR⟩:=hb
 have hA1:∀ i,i<p→O3 gi i p:=fun i hi=>⟨io,hp,by simpa using EC i (by simpa using hi)⟩
 have o7:∀ i j,i≤p→p<j→j<ops.size→O3 gi i j:=fun i j hi hj Kn=>by
  obtain ⟨_,z,_,hz,_⟩:=O.at_ j Kn
  have h1:=NR j (by rw [List.mem_range,O.len]; exact Kn)
  rw [hz,show decide (j≤p)=false by simpa using hj,Bool.false_or,List.all_eq_true] at h1
  exact ⟨z,hz,by simpa using h1 i (by simp; omega)⟩
 have Ks:(Array.replicate ops.size false).toList.count false=ops.size:=by simp
 have h:=zo (ro:=ro) (nn:=nn) (hi:=p) (lo:=0) (a:=a) (w:={ w with drawn:=w.drawn+1 }) (s:=s) O (Nat.zero_le _) (by omega) (fun i j h1 h2 h3=>by
   rcases Nat.lt_or_ge p j with h | h
   ·exact o7 i j (by omega) h h3
   ·obtain rfl:j=p:=by omega
    exact hA1 i h1) (by simp; omega) (fun i io x h1 h2=>by
   rw [Nat.zero_add] at h1
   rw [List.getElem?_take] at h2
   split at h2
   ·rw [h1] at h2
    cases h2; exact ⟨rfl,rfl,rfl,fun k hk=>by rwa [Nat.zero_add]⟩
   ·cases h2) (fun s a w listed h1 h2 h3 h4=>?_) hX hv hA.drew (listed:=Array.replicate ops.size false) (by simp) (fun j=>by by_cases h:j<ops.size <;> simp [h])
 ·rw [Ks] at h
  exact wpIn_region_any O.mix h
 ·refine Jb (R:=O3 gi) hps (fun j hj Kn=>o7 p j (Nat.le_refl _) hj Kn) O.pre O.back h3 h4 (fun K' Fx=>?_)
  obtain ⟨o,io',ho,NF,ja⟩:=O.at_ p hps
  rw [hp] at NF; cases NF
  have hnext:∀ s' a' w',e6 P G X ((gi.drop (p+1)).map (BS (p+1))) s' [] (fun s log=>indep log=true∧K s)→At G D N bF J0 cI w0 s'.get s'.obj a' w'→K' a' w':=fun s' a' w' Z1 vo=>Fx _ _ fun tU h5 h6=>by
   refine zo (hi:=ops.size) (lo:=p+1) (s:=s') O (by omega) (Nat.le_refl _) (fun i j _ h1 h2=>absurd h2 (by omega)) (by simp [O.len]) (fun i io x h1 h2=>?_) (fun s a w listed h1 h2 h3 h4=>wpAny_done h3 h4 (hQ s a w h1 h2)) hX Z1 vo h5 h6
   rw [List.getElem?_map,List.getElem?_drop,h1] at h2
   cases h2
   refine ⟨rfl,rfl,rfl,fun k hk=>?_⟩
   simp only [BS,List.mem_map,List.mem_filter,decide_eq_true_eq] at hk
   obtain ⟨k0,⟨VP,NA⟩,rfl⟩:=hk
   rwa [show p+1+(k0-(p+1))=k0 by omega]
  simp only [gO] at h2
  have:=AR (ro:=ro) (nn:=nn) (ops:=ops) (Q:=Q) hY (fun v _ s a w h1 h2 h3=>hX v s a w h1 h2 h3) ja h2 h1 (fun s' _=>hnext s') hnext
  unfold wpOpIn
  simp only [ho]
  exact this
theorem zn {X:Value→St→Prop} {K:St→Prop} (hQ:∀ s a w,At G D N bF J0 cI w0 s.get s.obj a w→K s→Q .normal a w) (hX:∀ v s a w,(D.vW=false→a.defers=D.ds)→Tr G bF J0 cI w0 s.get s.obj a w→X v s→Q (.panic [{ v:=v,recovered:=false }]) a w) {gi:List eo} (hc:ov P N ops true=some gi) {s:St} (hv:e6 P G X gi s [] (fun s log=>indep log=true∧K s)) {a:Act} {w:World}
  (hA:At G D N bF J0 cI w0 s.get s.obj a w) {rid:Nat} : (Code.region rid ops true).wpIn (fz ro) nn P Q a w:=
 have h:=Ot hQ hX hc hv hA
 wpIn_region_any h.1 h.2
end
end Dv
namespace Dv
open Go
inductive C where
 | skip
 | kH (ops:List eo)
 | sC (ops:List eo)
 | seq (a b:C)
 | cond (c:bY) (a b:C)
 | block (i:Nat) (b:C)
 | loop (b:C)
 | exit (i:Nat)
 | ret
 | scope (b:C)
 | Wz (g:bY) (ps:List Nat) (a b:C)
inductive RV where
 | t (n:Nat)
 | c1 (n:Nat)
 | cn (n size:Nat)
structure wN where
 n:St→Prop
 x:Nat→St→Prop
 r:St→Prop
 y:YO
 b:Option Nat
def iq:Nat:=4294967295
def jW (v:Value) (s:St):St:=⟨(iq,.d (.val v))::s.env,s.ag⟩
def St.keep (s:St) (ts:List Nat) (m:Nat):St:={ env:=ts.map fun t=>(t,s.get t),ag:=s.ag.take m }
def TF (m:Nat):Option aG→Bool
 | some ob=>dQ m ob
 | none=>true
def St.Ce (s:St) (ts:List Nat) (m:Nat):Prop:=(ts.all fun t=>eU m (s.get t))=true∧((s.ag.take m).all (TF m))=true∧m≤s.ag.length
inductive Ad where
 | t (q:Nat) (et:TypeId) (aV:Nat)
 | b (o col:Nat) (et:TypeId) (aV:Nat)
def Ad.ap (s:St):Ad→St
 | .t q et aV=>if isNil (s.get q)=true then ⟨(q,.sl s.ag.length 0 aV 0 0)::s.env,s.ag++[some (.dat et aV [])]⟩ else s
 | .b o col et aV=>match s.obj o with
   | .live (.box bt cells)=>match cells[col]? with
     | some v=>if isNil v=true then ⟨s.env,s.ag.set o (some (.box bt (cells.set col (.sl s.ag.length 0 aV 0 0))))++[some (.dat et aV [])]⟩ else s
     | none=>s
   | _=>s
def bX:List Ad→St→St
 | [],s=>s
 | x::xs,s=>bX xs (x.ap s)
def oS (G:Nat→Option (List DV)) (D:Dk) (N:Nat) (bF:Nat→cW) (J0:Nat→Prop) (cI:Nat→Nat→Option Nat) (w0:World) (s:St) (a:Act) (w:World):Prop:=At G D N bF J0 cI w0 s.get s.obj a w
def Da (G:Nat→Option (List DV)) (m:Nat) (s s':St):Prop:=∀ (D:Dk) (N:Nat) (bF:Nat→cW) (J0:Nat→Prop) (cI:Nat→Nat→Option Nat) (w0:World) (a:Act) (w:World),(∀ o n b,cI o n=some b→o<m)→oS G D N bF J0 cI w0 s a w→oS G D N bF J0 cI w0 s' a w
theorem Da.le {G:Nat→Option (List DV)} {m m':Nat} {s s':St} (h:m≤m') (k:Da G m' s s'):Da G m s s':=fun D N bF J0 cI w0 a w hm hA=>k D N bF J0 cI w0 a w (fun o n b hb=>Nat.lt_of_lt_of_le (hm o n b hb) h) hA
def zH:Option Nat→Nat→Nat
 | none,m=>m
 | some B,m=>min B m
theorem Td (b:Option Nat) (m:Nat):zH b m≤m:=by
 cases b with
 | none=>exact Nat.le_refl _
 | some B=>exact Nat.min_le_right B m
def Lu (b:Option Nat) (cI:Nat→Nat→Option Nat):Prop:=∀ B,b=some B→∀ o n x,cI o n=some x→o<B
theorem Lu.no (cI:Nat→Nat→Option Nat):Lu none cI:=fun _ h=>by cases h
theorem Lu.lt {b:Option Nat} {cI:Nat→Nat→Option Nat} (h:Lu b cI) {m:Nat} (hm:∀ o n x,cI o n=some x→o<m):∀ o n x,cI o n=some x→o<zH b m:=by
 cases b with
 | none=>exact hm
 | some B=>exact fun o n x hx=>Nat.lt_min.2 ⟨h B rfl o n x hx,hm o n x hx⟩
def jH:LV:=.d (.val Go.undef)
def kg:LV:=.dM []
def rZ:List Nat→List LV→List (Nat×LV)→List (Nat×LV)
 | p::ps,a::as,env=>rZ ps as ((p,a)::env)
 | _,_,env=>env
def j9:C→Bool
 | .seq a b=>j9 a&&j9 b
 | .cond _ a b=>j9 a&&j9 b
 | .block _ b=>j9 b
 | .loop b=>j9 b
 | .scope b=>j9 b
 | .Wz ..=>false
 | _=>true
def Ft (P:Program) (G:Nat→Option (List DV)) (k:Nat) (args:List LV) (ag:List (Option aG)) (Y:YO) (R:LV→List (Option aG)→Prop):Prop:=
 mC P k=true∧∀ (D:Dk) (bF:Nat→cW) (J0:Nat→Prop) (cI:Nat→Nat→Option Nat) (w0:World) (J:Nat→Prop) (ι:Nat→Nat→Option Nat) (w:World) (vs:Array Value),D.ds=[]→D.vW=false→
  aN G J w ι (ay ag)→cL J w ι args vs.toList→Ext bF (ay ag) J0 J cI ι w0 w→D.ys jH w→(∀ N,qy P G none Y D N bF J0 cI w0)→
  Calls P k vs w (fun e w'=>∃ v,e=.returned v∧∃ yv aC J' ι',R yv aC∧D.ys yv w'∧aN G J' w' ι' (ay aC)∧Ext bF (ay aC) J0 J' cI ι' w0 w')
section
variable (P:Program) (G:Nat→Option (List DV))
def vc:C→St→wN→Prop
 | .skip,s,K=>K.n s
 | .kH ops,s,K=>gO P G K.y (fun v s'=>K.x iq (jW v s')) ops s K.n
 | .sC ops,s,K=>e6 P G (fun v s'=>K.x iq (jW v s')) ops s [] (fun s log=>indep log=true∧K.n s)
 | .seq a b,s,K=>vc a s { K with n:=fun s'=>vc b s' K }
 | .cond c a b,s,K=>match c.ev G s.get with
   | .d (.val (.bool t))=>if t=true then vc a s K else vc b s K
   | .dW=>vc a s K∧vc b s K
   | _=>False
 | .block i b,s,K=>vc b s { K with x:=fun j s'=>if j=i then K.n s' else K.x j s' }
 | .loop b,s,K=>∃ (ts:List Nat) (I:Nat→St→Prop) (N:Nat) (ad:List Ad),I N { (bX ad s) with env:=ts.map fun t=>(t,(bX ad s).get t) }∧
   ∀ k s',I k s'→vc b s' { K with n:=fun s''=>∃ j,j<k∧∃ s3,I j s3∧Da G (zH K.b (bX ad s).ag.length) s'' s3 }
 | .exit i,s,K=>K.x i s
 | .ret,s,K=>K.r s
 | .scope b,s,K=>vc b s K
 | .Wz g ps a b,s,K=>match callee (g.ev G s.get) with
   | some (k,fs,cs)=>∃ (jm:Option Nat) (R:LV→List (Option aG)→Prop),Ft P G k (fs++[.yl s.ag.length]++cs) (s.ag++[none])
     (fun as ag ys K'=>ys=jH∧as.head? = some (.yl s.ag.length)∧as.tail.length=ps.length∧vc a ⟨rZ ps as.tail s.env,ag⟩ ⟨fun s1=>vc b s1 ⟨fun s'=>K' jH true s'.ag,fun i s'=>i≠iq∧jm=some i∧K' kg false s'.ag,fun s'=>jm=none∧K' kg false s'.ag,qS,none⟩,fun _ _=>False,fun _=>False,qS,none⟩) R∧
     ∀ yv aC,R yv aC→(yv=jH∧K.n ⟨s.env,aC⟩)∨(yv=kg∧match jm with | some i=>i≠iq∧K.x i ⟨s.env,aC⟩ | none=>K.r ⟨s.env,aC⟩)
   | none=>False
end
def L5 (gi:List eo):C:=match Yd gi with
 | some p=>match gi[p]? with
   | some io=>.seq (.sC (gi.take p)) (.seq (.kH [io]) (.sC ((gi.drop (p+1)).map (BS (p+1)))))
   | none=>.sC gi
 | none=>.sC gi
def fZ (P:Program) (N:Nat):Code→Option C
 | .skip=>some .skip
 | .region _ ops draw=>match ov P N ops draw with
   | some gi=>some (if draw then L5 gi else .kH gi)
   | none=>none
 | .seq a b=>match fZ P N a,fZ P N b with | some a,some b=>some (.seq a b) | _,_=>none
 | .cond c a b=>match aL c,fZ P N a,fZ P N b with | some c,some a,some b=>some (.cond c a b) | _,_,_=>none
 | .block i b=>match fZ P N b with | some b=>if i=iq then none else some (.block i b) | none=>none
 | .loop b=>match fZ P N b with | some b=>some (.loop b) | none=>none
 | .exit i=>if i=iq then none else some (.exit i)
 | .scope b=>match fZ P N b with | some b=>some (.scope b) | none=>none
 | .ret=>some .ret
 | .label _=>some .skip
 | .rangeFunc g ps a b=>match aL g,fZ P N a,fZ P N b with
   | some g,some a,some b=>if (j9 a&&j9 b&&ps.toList.all fun p=>decide (p<N))=true then some (.Wz g ps.toList a b) else none
   | _,_,_=>none
 | _=>none
theorem lW (f:Nat→LV):∀ (ts:List Nat) (t:Nat),aO (ts.map fun t=>(t,f t)) t=if t∈ts then f t else .top
 | [],t=>by simp [aO]
 | x::ts,t=>by
   simp only [List.map_cons,aO,List.mem_cons,lW f ts t]
   by_cases h:x=t
   ·subst h; simp
   ·have:¬ t=x:=fun e=>h e.symm
    simp [h,this]
theorem Me:(∀ x:LV,rn (fun i=>i) x=x)∧(∀ xs:List LV,m_ (fun i=>i) xs=xs):=by
 have one:∀ n,(∀ x:LV,sizeOf x<n→rn (fun i=>i) x=x)∧(∀ xs:List LV,sizeOf xs<n→m_ (fun i=>i) xs=xs):=by
  intro n
  induction n with
  | zero=>exact ⟨fun _ h=>absurd h (by omega),fun _ h=>absurd h (by omega)⟩
  | succ n ih=>
    refine ⟨fun x hs=>?_,fun xs hs=>?_⟩
    ·cases x <;> simp only [rn] <;> simp at hs
     ·rw [ih.2 _ (by omega),ih.2 _ (by omega)]
     ·rw [ih.2 _ (by omega)]
     ·rw [ih.2 _ (by omega)]
     ·rw [ih.1 _ (by omega)]
    ·cases xs with
     | nil=>rfl
     | cons x xs=>
       simp at hs
       simp only [m_]
       rw [ih.1 _ (by omega),ih.2 _ (by omega)]
 exact ⟨fun x=>(one (sizeOf x+1)).1 x (by omega),fun xs=>(one (sizeOf xs+1)).2 xs (by omega)⟩
section
variable {P:Program} {G:Nat→Option (List DV)} {D:Dk} {N:Nat} {bF:Nat→cW} {J0:Nat→Prop} {cI:Nat→Nat→Option Nat} {w0:World}
def KQ (G:Nat→Option (List DV)) (D:Dk) (N:Nat) (bF:Nat→cW) (J0:Nat→Prop) (cI:Nat→Nat→Option Nat) (w0:World) (K:wN):Exit→Act→World→Prop
 | .normal,a,w=>∃ s,oS G D N bF J0 cI w0 s a w∧K.n s
 | .exit i,a,w=>i≠iq∧∃ s,oS G D N bF J0 cI w0 s a w∧K.x i s
 | .ret,a,w=>∃ s,oS G D N bF J0 cI w0 s a w∧K.r s
 | .panic ch,a,w=>∃ v s,ch=[{ v:=v,recovered:=false }]∧(D.vW=false→a.defers=D.ds)∧Tr G bF J0 cI w0 s.get s.obj a w∧K.x iq (jW v s)
 | _,_,_=>False
theorem oS.bound {s:St} {a:Act} {w:World} (h:oS G D N bF J0 cI w0 s a w) {o n b:Nat} (hb:cI o n=some b):o<s.ag.length:=by
 obtain ⟨J,ι,S,E⟩:=h.ex
 have h1:=E.ev.iY o n b hb
 rcases Nat.lt_or_ge o s.ag.length with h2 | h2
 ·exact h2
 ·have:=S.store.rep o
  have hf:s.obj o=.free:=dw h2
  rw [hf] at this
  rw [this n] at h1; cases h1
theorem oS.Zc {s:St} {a:Act} {w:World} (h:oS G D N bF J0 cI w0 s a w) (ts:List Nat):oS G D N bF J0 cI w0 { s with env:=ts.map fun t=>(t,s.get t) } a w:=by
 obtain ⟨J,ι,S,E⟩:=h.ex
 refine ⟨J,ι,⟨S.store,fun t=>?_,S.size,S.defers,?_,S.lim⟩,E⟩
 rotate_left
 ·show D.ys (aO (ts.map fun t=>(t,s.get t)) YS) _
  rw [lW]
  split
  ·exact S.ys
  ·exact D.top _
 show dF J w ι (aO (ts.map fun t=>(t,s.get t)) t) _
 rw [lW]
 split
 ·exact S.env t
 ·trivial
theorem oS.keep {s:St} {a:Act} {w:World} (h:oS G D N bF J0 cI w0 s a w) {ts:List Nat} {m:Nat} (hk:s.Ce ts m) (hm:∀ o n b,cI o n=some b→o<m):oS G D N bF J0 cI w0 (s.keep ts m) a w:=by
 obtain ⟨J,ι,S,E⟩:=h.ex
 obtain ⟨h1,h2,h3⟩:=hk
 let ι':Nat→Nat→Option Nat:=fun o n=>if o<m then ι o n else none
 have gu:∀ o n b,o<m→ι ((fun i=>i) o) n=some b→ι' o n=some b:=fun o n b ho hb=>by simp only [ι',if_pos ho]; exact hb
 have zY:∀ o,(s.keep ts m).obj o=if o<m then s.obj o else .free:=by
  intro o
  show ay (s.ag.take m) o=_
  by_cases ho:o<m
  ·rw [if_pos ho]
   simp only [St.obj,ay,List.getElem?_take_of_lt ho]
  ·rw [if_neg ho,dw (by simp; omega)]
 have hown:∀ o b,((s.keep ts m).obj o).own ι' o b→(s.obj o).own ι o b:=by
  intro o b hb
  rw [zY] at hb
  by_cases ho:o<m
  ·rw [if_pos ho] at hb
   exact (cW.lN (fun n=>by simp only [ι',if_pos ho])).1 hb
  ·rw [if_neg ho] at hb; exact hb.elim
 refine ⟨J,ι',⟨⟨fun o=>?_,fun o o' b k k'=>S.store.inj o o' b (hown o b k) (hown o' b k'),fun o b k=>S.store.uu o b (hown o b k),S.store.nB,S.store.Ab⟩,fun t=>?_,S.size,S.defers,?_,S.lim⟩,?_,?_⟩
 ·rw [zY]
  by_cases ho:o<m
  ·rw [if_pos ho]
   have hr:=S.store.rep o
   have hid:∀ ob,s.obj o=.live ob→dQ m ob=true:=fun ob e_=>by
    rw [List.all_eq_true] at h2
    have:some ob∈s.ag.take m:=by
     simp only [St.obj,ay] at e_
     split at e_
     ·cases e_
     ·cases e_
     ·rename_i Y2 hh
      cases e_
      exact List.mem_of_getElem? (i:=o) (by rw [List.getElem?_take_of_lt ho]; exact hh)
    exact h2 _ this
   have hk:∀ n,ι' o n=ι o n:=fun n=>by simp only [ι',if_pos ho]
   cases hs:s.obj o with
   | free=>rw [hs] at hr; intro n; rw [hk]; exact hr n
   | dead=>trivial
   | live ob=>
     rw [hs] at hr
     have hi:=hid ob hs
     cases ob with
     | box et cells=>
       obtain ⟨⟨b,C,k1,k2,k3⟩,_⟩:=hr
       refine ⟨⟨b,C,by rw [hk]; exact k1,k2,bS.rn (k0:=m) (π:=fun i=>i) gu cells _ (by simpa [dQ] using hi) (by rw [Me.2]; exact k3)⟩,trivial⟩
     | mp es=>
       obtain ⟨⟨b,C,c,k1,k2,k3⟩,_⟩:=hr
       refine ⟨⟨b,C,c,by rw [hk]; exact k1,k2,jA.rn (k0:=m) (π:=fun i=>i) gu es _ (by simpa [dQ] using hi) ?_⟩,trivial⟩
       rw [show (es.map fun p=>(p.1,rn (fun i=>i) p.2))=es from by simp [Me.1]]; exact k3
     | dat et e rows=>
       obtain ⟨⟨k1,k2⟩,k3⟩:=hr
       exact ⟨⟨by rw [hk]; exact k1,fun b hb=>k2 b (by rw [← hk]; exact hb)⟩,fun n hn=>by rw [hk]; exact k3 n hn⟩
     | kU et e rows=>
       obtain ⟨⟨k1,k2⟩,k3⟩:=hr
       exact ⟨⟨by rw [hk]; exact k1,fun b hb=>k2 b (by rw [← hk]; exact hb)⟩,trivial⟩
  ·rw [if_neg ho]; intro n; simp only [ι',if_neg ho]
 ·show dF J w ι' (aO (ts.map fun t=>(t,s.get t)) t) _
  rw [lW]
  split
  ·rename_i ht
   rw [List.all_eq_true] at h1
   exact dF.rn (k0:=m) (π:=fun i=>i) gu _ _ (h1 t ht) (by rw [Me.1]; exact S.env t)
  ·trivial
 ·show D.ys (aO (ts.map fun t=>(t,s.get t)) YS) _
  rw [lW]
  split
  ·exact S.ys
  ·exact D.top _
 ·have hE:=E.ev
  exact ⟨hE.os,hE.tape,hE.output,hE.size,hE.same,hE.shape,hE.iW,hE.wD,fun o n b hb=>by simp only [ι',if_pos (hm o n b hb)]; exact hE.iY o n b hb⟩
 ·rintro b ⟨o,hb⟩
  exact E.own b ⟨o,hown o b hb⟩
theorem Eo {x:LV} (h:isNil x=true):x=.d (.val (.slice none 0 0)):=by
 unfold isNil at h
 split at h
 ·rfl
 ·cases h
theorem Da.keep {s:St} {ts:List Nat} {m:Nat} (hk:s.Ce ts m):Da G m s (s.keep ts m):=fun _ _ _ _ _ _ _ _ hm h=>h.keep hk hm
theorem aN.Hq {J:Nat→Prop} {w:World} {ι:Nat→Nat→Option Nat} {obj:Nat→cW} (S:aN G J w ι obj) {base:Nat} (hb:obj base=.free) (et:TypeId) (aV:Nat) :
  aN G J w ι (fun o=>if o=base then .live (.dat et aV []) else obj o)∧Ext obj (fun o=>if o=base then .live (.dat et aV []) else obj o) J J ι ι w w:=by
 have hfree:∀ n,ι base n=none:=by have:=S.rep base; rw [hb] at this; exact this
 exact aN.uR S base (.live (.dat et aV [])) (Ev.refl (Own ι obj) J ι w) (fun _ _ _=>rfl) (fun _ _ _=>rfl)
  ⟨⟨.inl rfl,fun b hb=>by rw [hfree] at hb; cases hb⟩,fun n _=>hfree n⟩ (fun b hb=>by
    have:ι base 0=some b:=hb
    rw [hfree] at this; cases this)
theorem k_ (l:List (Option aG)) (ob:aG):ay (l++[some ob])=fun o=>if o=l.length then .live ob else ay l o:=by
 funext o
 unfold ay
 rcases Nat.lt_trichotomy o l.length with h | h | h
 ·rw [List.getElem?_append_left h,if_neg (by omega)]
 ·subst h; simp
 ·rw [List.getElem?_eq_none (by simp; omega),if_neg (by omega),List.getElem?_eq_none (by omega)]
theorem bS.set {J:Nat→Prop} {w:World} {ι:Nat→Nat→Option Nat} : ∀ {xs:List LV} {vs:List Value} {i:Nat} {x y:LV},bS J w ι xs vs→xs[i]? = some x→(∀ v,dF J w ι x v→dF J w ι y v)→bS J w ι (xs.set i y) vs
 | [],[],i,x,y,_,h,_=>by simp at h
 | z::xs,v::vs,0,x,y,h,hx,hy=>by simp at hx; subst hx; exact ⟨h.1,hy v h.2.1,h.2.2⟩
 | z::xs,v::vs,i+1,x,y,h,hx,hy=>⟨h.1,h.2.1,bS.set h.2.2 (by simpa using hx) hy⟩
 | [],_::_,_,_,_,h,_,_=>h.elim
 | _::_,[],_,_,_,h,_,_=>h.elim
theorem oS.ap {s:St} {a:Act} {w:World} (h:oS G D N bF J0 cI w0 s a w) (x:Ad):oS G D N bF J0 cI w0 (x.ap s) a w:=by
 cases x with
 | t t et aV=>
   simp only [Ad.ap]
   split
   ·rename_i rC
    obtain ⟨J,ι,S,E⟩:=h.ex
    obtain ⟨S1,E1⟩:=aN.Hq S.store (base:=s.ag.length) (dw (Nat.le_refl _)) et aV
    refine ⟨J,ι,⟨?_,fun t'=>?_,S.size,S.defers,?_,S.lim⟩,?_⟩
    ·show aN G J w ι (ay (s.ag++[some (.dat et aV [])]))
     rw [k_]; exact S1
    ·show dF J w ι (if t=t' then _ else aO s.env t') _
     split
     ·rename_i ht; subst ht
      have:=S.env t
      rw [Eo rC] at this
      exact .inl ⟨rfl,none,this⟩
     ·exact S.env t'
    ·show D.ys (if t=YS then _ else aO s.env YS) _
     split
     ·rename_i ht; subst ht
      exact D.tot _ _ rC S.ys _
     ·exact S.ys
    ·show Ext bF (ay (s.ag++[some (.dat et aV [])])) J0 J cI ι w0 w
     rw [k_]; exact E.trans E1
   ·exact h
 | b o col et aV=>
   simp only [Ad.ap]
   split
   ·rename_i bt cells ho
    split
    ·rename_i v hv
     split
     ·rename_i rC
      obtain ⟨J,ι,S,E⟩:=h.ex
      obtain ⟨S1,E1⟩:=aN.Hq S.store (base:=s.ag.length) (dw (Nat.le_refl _)) et aV
      have abC:=xh ho
      have Nq:(if o=s.ag.length then cW.live (.dat et aV []) else s.obj o)=.live (.box bt cells):=by rw [if_neg (by omega)]; exact ho
      have h0:=S1.rep o
      simp only [Nq] at h0
      obtain ⟨⟨b,C,h1,h2,h3⟩,_⟩:=h0
      have h4:bS J w ι (cells.set col (.sl s.ag.length 0 aV 0 0)) C.toList:=h3.set hv (fun u hu=>by
       rw [Eo rC] at hu
       exact .inl ⟨rfl,none,hu⟩)
      obtain ⟨S2,E2⟩:=aN.uR S1 o (.live (.box bt (cells.set col (.sl s.ag.length 0 aV 0 0)))) (Ev.refl _ J ι w) (fun _ _ _=>rfl) (fun _ _ _=>rfl)
       ⟨⟨b,C,h1,h2,h4⟩,trivial⟩ (fun k hk=>.inl (by simp only [Nq]; exact hk))
      have zY:ay (s.ag.set o (some (.box bt (cells.set col (.sl s.ag.length 0 aV 0 0))))++[some (.dat et aV [])])=fun q=>if q=o then .live (.box bt (cells.set col (.sl s.ag.length 0 aV 0 0))) else if q=s.ag.length then .live (.dat et aV []) else s.obj q:=by
       rw [k_,List.length_set]
       funext q
       by_cases hq:q=o
       ·subst hq
        rw [if_pos rfl,if_neg (by omega)]
        unfold ay
        rw [List.getElem?_set_self abC]
       ·rw [if_neg hq]
        by_cases Cz:q=s.ag.length
        ·rw [if_pos Cz,if_pos Cz]
        ·rw [if_neg Cz,if_neg Cz]
         simp only [ay,St.obj,List.getElem?_set_ne (fun e=>hq e.symm)]
      refine ⟨J,ι,⟨?_,S.env,S.size,S.defers,S.ys,S.lim⟩,?_⟩
      ·show aN G J w ι (ay (_++_))
       rw [zY]; exact S2
      ·show Ext bF (ay (_++_)) J0 J cI ι w0 w
       rw [zY]; exact (E.trans E1).trans E2
     ·exact h
    ·exact h
   ·exact h
theorem oS.bX {a:Act} {w:World} : ∀ (ad:List Ad) {s:St},oS G D N bF J0 cI w0 s a w→oS G D N bF J0 cI w0 (Dv.bX ad s) a w
 | [],_,h=>h
 | x::xs,_,h=>oS.bX xs (h.ap x)
end
def CN (w w':World):Prop:=∀ (b:Nat) (x:Obj),w.heap[b]? = some x→x.vY=true→w'.heap[b]? = some x
theorem CN.refl (w:World):CN w w:=fun _ _ h _=>h
theorem CN.trans {w w' w'':World} (h:CN w w') (k:CN w' w''):CN w w'':=fun b x hb hx=>k _ _ (h _ _ hb hx) hx
theorem CN.put {w:World} {l:Nat} {o0:Obj} (o:Obj) (h:w.heap[l]? = some o0) (hc:o0.vY=false):CN w (w.putObj l o):=by
 intro b x hb hx
 by_cases oO:b=l
 ·subst oO; rw [h] at hb; cases hb; rw [hc] at hx; cases hx
 ·rw [World.putObj_heap_other oO]; exact hb
theorem jX {w:World} {o:Obj} {b:Nat} (hb:b<w.heap.size):(w.alloc o).heap[b]? = w.heap[b]?:=by
 show (w.heap.push o)[b]? = _
 rw [Array.getElem?_push,if_neg (Nat.ne_of_lt hb)]
theorem CN.alloc (w:World) (o:Obj):CN w (w.alloc o):=by
 intro b x hb _
 rw [jX (Array.getElem?_eq_some_iff.1 hb).1]; exact hb
theorem CN.shape {w w':World} (h:CN w w') (b:Nat) (hs:(w.shape? b).isSome=true):w'.shape? b=w.shape? b:=by
 unfold World.shape? at hs ⊢
 split at hs
 ·rename_i C t f hb
  rw [h _ _ hb rfl]
 ·cases hs
section
variable {G:Nat→Option (List DV)} {J:Nat→Prop} {w w':World} {ι ι':Nat→Nat→Option Nat} {obj obj':Nat→cW}
theorem CN.j (S:aN G J w ι obj) (h:CN w w') (b:Nat) (hb:J b):w'.heap[b]? = w.heap[b]?:=by
 obtain ⟨C,t,f,hc⟩:=S.nB b hb
 rw [hc]; exact h _ _ hc rfl
theorem dF.cn (S:aN G J w ι obj) (h:CN w w') (hi:∀ o n b,ι o n=some b→ι' o n=some b) {x:LV} {v:Value} (k:dF J w ι x v):dF J w' ι' x v:=
 dF.mono (fun _ h=>h) (h.j S) hi (fun b hb=>h.shape b hb) x v k
theorem bS.cn (S:aN G J w ι obj) (h:CN w w') (hi:∀ o n b,ι o n=some b→ι' o n=some b) {x:List LV} {v:List Value} (k:bS J w ι x v):bS J w' ι' x v:=
 bS.mono (fun _ h=>h) (h.j S) hi (fun b hb=>h.shape b hb) x v k
theorem cL.cn (S:aN G J w ι obj) (h:CN w w') (hi:∀ o n b,ι o n=some b→ι' o n=some b) {x:List LV} {v:List Value} (k:cL J w ι x v):cL J w' ι' x v:=
 cL.mono (fun _ h=>h) (h.j S) hi (fun b hb=>h.shape b hb) x v k
theorem aN.cn (S:aN G J w ι obj) (h:CN w w') (hi:∀ o n b,ι o n=some b→ι' o n=some b) (ho:∀ o,obj' o=.dead∨(obj' o=obj o∧∀ n,ι' o n=ι o n)):aN G J w' ι' obj':=by
 have hown:∀ o b,(obj' o).own ι' o b→(obj o).own ι o b:=by
  intro o b hb
  rcases ho o with h1 | ⟨h1,h2⟩
  ·rw [h1] at hb; exact hb.elim
  ·rw [h1] at hb; exact (cW.lN h2).1 hb
 refine ⟨fun o=>?_,fun o o' b k k'=>S.inj o o' b (hown _ _ k) (hown _ _ k'),fun o b k=>S.uu o b (hown _ _ k),fun b hb=>?_,fun g row hg=>?_⟩
 ·rcases ho o with h1 | ⟨h1,hk⟩
  ·rw [h1]; trivial
  ·rw [h1]
   have hr:=S.rep o
   cases hs:obj o with
   | free=>rw [hs] at hr; intro n; rw [hk]; exact hr n
   | dead=>trivial
   | live ob=>
     rw [hs] at hr
     obtain ⟨hr,hkey⟩:=hr
     cases ob with
     | box et cells=>
       obtain ⟨b,C,h1,h2,h3⟩:=hr
       exact ⟨⟨b,C,by rw [hk]; exact h1,h _ _ h2 rfl,h3.cn S h hi⟩,trivial⟩
     | mp es=>
       obtain ⟨b,C,c,h1,h2,h3⟩:=hr
       exact ⟨⟨b,C,c,by rw [hk]; exact h1,h _ _ h2 rfl,jA.mono (fun _ h=>h) (h.j S) hi (fun b hb=>h.shape b hb) _ _ h3⟩,trivial⟩
     | dat et aV rows=>
       obtain ⟨h1,h2⟩:=hr
       refine ⟨⟨by rw [hk]; exact h1,fun b hb'=>?_⟩,fun n hn=>by rw [hk]; exact hkey n hn⟩
       rw [hk] at hb'
       obtain ⟨⟨C,h3⟩,h4⟩:=h2 b hb'
       exact ⟨⟨C,h _ _ h3 rfl⟩,bO.mono (fun _ h=>h) (h.j S) aV rows b 0 (by rw [h3]; exact h _ _ h3 rfl) h4⟩
     | kU et aV rows=>
       obtain ⟨h1,h2⟩:=hr
       refine ⟨⟨by rw [hk]; exact h1,fun b hb'=>?_⟩,trivial⟩
       rw [hk] at hb'
       obtain ⟨h3,h4⟩:=h2 b hb'
       exact ⟨h3,bO.mono (fun _ h=>h) (h.j S) aV rows b 0 (h.j S b h3) h4⟩
 ·obtain ⟨C,t,f,hc⟩:=S.nB b hb
  exact ⟨C,t,f,h _ _ hc rfl⟩
 ·obtain ⟨h1,h2,t,h3⟩:=S.Ab g row hg
  exact ⟨h1,dU.mono (fun _ h=>h) (h.j S) row g 0 (h.j S g h1) h2,t,by rw [h.shape g (by rw [h3]; rfl)]; exact h3⟩
theorem aN.put {l:Nat} {o0:Obj} (o:Obj) (S:aN G J w ι obj) (h:w.heap[l]? = some o0) (hc:o0.vY=false):aN G J (w.putObj l o) ι obj:=
 S.cn (CN.put o h hc) (fun _ _ _ h=>h) (fun _=>.inr ⟨rfl,fun _=>rfl⟩)
theorem Ext.put {bF:Nat→cW} {J0:Nat→Prop} {cI:Nat→Nat→Option Nat} {w0:World} (E:Ext bF obj J0 J cI ι w0 w) {l:Nat} (o:Obj) {o0:Obj} (h:w.heap[l]? = some o0) (hc:o0.vY=false) (hl:w0.heap.size≤l) (ho:o.vY=false):Ext bF obj J0 J cI ι w0 (w.putObj l o):=by
 have hsz:(w.putObj l o).heap.size=w.heap.size:=World.putObj_size
 refine ⟨⟨E.ev.os,E.ev.tape,E.ev.output,by rw [hsz]; exact E.ev.size,fun b hb hn=>?_,fun b hb=>?_,E.ev.iW,E.ev.wD,E.ev.iY⟩,E.own⟩
 ·rw [World.putObj_heap_other (by omega)]; exact E.ev.same b hb hn
 ·rw [← E.ev.shape b hb]
  unfold World.shape?
  rw [World.putObj_heap_other (by omega)]
theorem zi:∀ (l:List (Nat×Value)) (t:Array Value),(l.foldl (fun t (p:Nat×Value)=>t.setIfInBounds p.1 p.2) t).size=t.size
 | [],_=>rfl
 | x::l,t=>by rw [List.foldl_cons,zi l]; simp
theorem BA:∀ (ps:List Nat) (as:List LV) (vs:List Value) (env:List (Nat×LV)) (t:Array Value) (N:Nat),t.size=N→(∀ p∈ps,p<N)→as.length=ps.length→cL J w ι as vs→(∀ q,dF J w ι (aO env q) (t.getD q Go.undef))→
  ∀ q,dF J w ι (aO (rZ ps as env) q) (((ps.zip vs).foldl (fun t (p:Nat×Value)=>t.setIfInBounds p.1 p.2) t).getD q Go.undef)
 | [],as,vs,env,t,N,ht,hp,hl,hr,he,q=>by
   cases as with
   | nil=>simpa [rZ] using he q
   | cons _ _=>simp at hl
 | p::ps,[],vs,env,t,N,ht,hp,hl,hr,he,q=>by simp at hl
 | p::ps,a::as,[],env,t,N,ht,hp,hl,hr,he,q=>hr.elim
 | p::ps,a::as,v::vs,env,t,N,ht,hp,hl,hr,he,q=>by
   simp only [rZ,List.zip_cons_cons,List.foldl_cons]
   refine BA ps as vs _ _ N (by simp [ht]) (fun q hq=>hp q (by simp [hq])) (by simpa using hl) hr.2 (fun q=>?_) q
   have hpN:p<t.size:=by rw [ht]; exact hp p (by simp)
   simp only [aO]
   by_cases hq:p=q
   ·subst hq
    rw [if_pos rfl]
    have:(t.setIfInBounds p v).getD p Go.undef=v:=by simp [Array.getD_eq_getD_getElem?,hpN]
    rw [this]; exact hr.1
   ·rw [if_neg hq]
    have:(t.setIfInBounds p v).getD q Go.undef=t.getD q Go.undef:=by
     simp [Array.getD_eq_getD_getElem?,Array.getElem?_setIfInBounds_ne hq]
    rw [this]; exact he q
end
section
variable {P:Program} {G:Nat→Option (List DV)}
theorem gZ {b:Frame} {a:Act} {k:List Item} {cs:List Frame} {w:World} {c:Code} : step P (lone (b.atR a (.code (.scope c)::k)) cs w)=.next (lone (b.atR a (.code c::.inScope c::k)) cs w):=
 step_lone_go (by simp [stepG,stepG.exec,Frame.atR])
theorem xQ {b:Frame} {a:Act} {k:List Item} {cs:List Frame} {w:World} {c:Code} : step P (lone (b.atR a (.inScope c::k)) cs w)=.next (lone (b.atR a k) cs w):=
 step_lone_go (by simp [stepG,stepG.exec,Frame.atR])
theorem rB {F:Fence} {n:Nat} {Q:Exit→Act→World→Prop} {a:Act} {w:World} {c:Code} (h:c.wpIn F n P (Exit.noGoto Q) a w):(Code.scope c).wpIn F n P Q a w:=by
 intro b k cs hro hb hr
 have h0:(lone (b.atR a (.code (.scope c)::k)) cs w).fenced P F:=fenced_calm hb hr rfl
 obtain ⟨e,a₁,w₁,hq,Kw⟩:=h b (.inScope c::k) cs hro hb hr
 cases e with
 | normal=>exact ⟨.normal,a₁,w₁,hq,.head h0 gZ (StepsIn.trans Kw (.one (fenced_calm hb hr rfl) xQ))⟩
 | exit id=>
   have hx:exitTo id (.inScope c::k)=exitTo id k:=by simp [exitTo]
   exact ⟨.exit id,a₁,w₁,hq,fun k' hk=>.head h0 gZ (Kw.1 k' (by rw [hx]; exact hk)),
    fun hr' hk=>let ⟨k₁,h1,h2⟩:=Kw.2 hr' (by rw [hx]; exact hk); ⟨k₁,h1,.head h0 gZ h2⟩⟩
 | goto l=>exact hq.elim
 | ret=>exact ⟨_,a₁,w₁,hq,.of_steps (.one h0 gZ) Kw⟩
 | panic ch=>exact ⟨_,a₁,w₁,hq,.of_steps (.one h0 gZ) Kw⟩
 | outgrown=>exact ⟨_,a₁,w₁,hq,.of_steps (.one h0 gZ) Kw⟩
def TI:Option Nat→Code
 | some i=>.exit i
 | none=>.ret
def Pt (l B:Nat) (rc:LoopState→Option Code→Loop) (jm:Option Nat) (v:LV) (w:World):Prop:=
 (v=jH→w.heap[l]? = some (.loop (rc .ready none)))∧(v=kg→w.heap[l]? = some (.loop (rc .done (some (TI jm)))))∧(v≠.top→w.heap[B]? = some (.deferred (some [])))∧isNil v=false
def Pu (l B:Nat) (rc:LoopState→Option Code→Loop) (jm:Option Nat):Dk where
 ds:=[]
 vW:=false
 lo:=0
 ys:=Pt l B rc jm
 keep:=fun v w w' h ⟨h1,h2,h4,h5⟩=>⟨(fun e=>h _ _ (h1 e) rfl),(fun e=>h _ _ (h2 e) rfl),(fun e=>h _ _ (h4 e) rfl),h5⟩
 top:=fun w=>⟨(fun h=>by cases h),(fun h=>by cases h),(fun h=>(h rfl).elim),rfl⟩
 tot:=fun v w h ⟨_,_,_,h5⟩=>by rw [h] at h5; cases h5
def pK (P:Program) (G:Nat→Option (List DV)) (jm:Option Nat) (ps:List Nat) (a b:C) (s:St):YO:=fun as ag ys K'=>ys=jH∧as.head? = some (.yl s.ag.length)∧as.tail.length=ps.length∧vc P G a ⟨rZ ps as.tail s.env,ag⟩ ⟨fun s1=>vc P G b s1 ⟨fun s'=>K' jH true s'.ag,fun i s'=>i≠iq∧jm=some i∧K' kg false s'.ag,fun s'=>jm=none∧K' kg false s'.ag,qS,none⟩,fun _ _=>False,fun _=>False,qS,none⟩
set_option maxHeartbeats 400000 in
theorem Jw {g:Operand} {ps:Array Tmp} {ca cb:Code} {N:Nat} {cg:bY} {xa xb:C} (h1:aL g=some cg) (XJ:∀ x∈ps.toList,x<N) {nn:Nat} {D:Dk} {bF:Nat→cW} {J0:Nat→Prop} {cI:Nat→Nat→Option Nat} {w0:World} (hmk:D.vW=true) (hlo:D.lo≤w0.heap.size)
  (iha:∀ {ro:Option Nat} {nn:Nat} {D:Dk} {bF:Nat→cW} {J0:Nat→Prop} {cI:Nat→Nat→Option Nat} {w0:World} (s:St) (K:wN),vc P G xa s K→qy P G ro K.y D N bF J0 cI w0→Lu K.b cI→∀ a w,oS G D N bF J0 cI w0 s a w→ca.wpIn (fz ro) nn P (KQ G D N bF J0 cI w0 K) a w)
  (ihb:∀ {ro:Option Nat} {nn:Nat} {D:Dk} {bF:Nat→cW} {J0:Nat→Prop} {cI:Nat→Nat→Option Nat} {w0:World} (s:St) (K:wN),vc P G xb s K→qy P G ro K.y D N bF J0 cI w0→Lu K.b cI→∀ a w,oS G D N bF J0 cI w0 s a w→cb.wpIn (fz ro) nn P (KQ G D N bF J0 cI w0 K) a w)
  {s:St} {K:wN} {k:Nat} {fs cs:List LV} (jq:callee (cg.ev G s.get)=some (k,fs,cs)) (h:∃ (jm:Option Nat) (R:LV→List (Option aG)→Prop),Ft P G k (fs++[.yl s.ag.length]++cs) (s.ag++[none]) (pK P G jm ps.toList xa xb s) R∧
    ∀ yv aC,R yv aC→(yv=jH∧K.n ⟨s.env,aC⟩)∨(yv=kg∧match jm with | some i=>i≠iq∧K.x i ⟨s.env,aC⟩ | none=>K.r ⟨s.env,aC⟩)) (a:Act) (w:World) (hA:oS G D N bF J0 cI w0 s a w):(Code.rangeFunc g ps ca cb).wpIn (fz none) nn P (KQ G D N bF J0 cI w0 K) a w:=by
 obtain ⟨jm,R,⟨hent,hit⟩,hend⟩:=h
 obtain ⟨J,ι,S,E⟩:=hA.ex
 have Gz:=bp S.store S.env h1
 obtain ⟨fs',cs',hval,hfs,hcs⟩:∃ fs' cs',a.eval g=.func (.func k) fs' cs'∧cL J w ι fs fs'.toList∧cL J w ι cs cs'.toList:=by
  have e0:cg.ev G (aO s.env)=cg.ev G s.get:=rfl
  rw [← e0] at jq
  change dF J w ι (cg.ev G (aO s.env)) _ at Gz
  generalize cg.ev G (aO s.env)=x at jq Gz
  unfold callee at jq
  split at jq
  ·cases jq
   obtain ⟨fs',cs',h1,h2,h3⟩:=Gz
   exact ⟨fs',cs',h1,h2.Db,h3.Db⟩
  ·cases jq
   obtain ⟨fs',cs',h1,h2,h3⟩:=Gz
   exact ⟨fs',cs',h1,h2,h3⟩
  ·cases jq
 have acq:=E.ev.size
 refine wpIn_rangeFunc fun fn hfn=>?_
 let rc:LoopState→Option Code→Loop:=fun st pe=>{ state:=st,pending:=pe,fn,tmps:=a.tmps,params:=ps,assign:=ca,body:=cb,defers:=w.heap.size }
 let W1:=(w.alloc (.deferred (some []))).alloc (.loop (rc .ready none))
 have sz1:W1.heap.size=w.heap.size+2:=by simp [W1]
 have hL1:W1.heap[w.heap.size+1]? = some (.loop (rc .ready none)):=by
  have:=World.alloc_heap_new (w.alloc (.deferred (some []))) (.loop (rc .ready none)); rwa [World.size_alloc] at this
 have hD1:W1.heap[w.heap.size]? = some (.deferred (some [])):=(jX (by simp)).trans (World.alloc_heap_new w _)
 have hCN:CN w W1:=(CN.alloc w _).trans (CN.alloc _ _)
 have aal:∀ b,b<w.heap.size→W1.heap[b]? = w.heap[b]?:=fun b hb=>(jX (by simp; omega)).trans (jX hb)
 let wO:Nat→Nat→Option Nat:=fun o n=>if o=s.ag.length∧n=0 then some (w.heap.size+1) else ι o n
 have hfree:∀ n,ι s.ag.length n=none:=by
  have h0:=S.store.rep s.ag.length
  have hf:s.obj s.ag.length=.free:=dw (Nat.le_refl _)
  rw [hf] at h0; exact h0
 have hi1:∀ o n b,ι o n=some b→wO o n=some b:=fun o n b hb=>by
  simp only [wO]
  rw [if_neg]
  ·exact hb
  ·rintro ⟨rfl,rfl⟩; rw [hfree] at hb; cases hb
 have VL:∀ o,ay (s.ag++[none]) o=.dead∨(ay (s.ag++[none]) o=s.obj o∧∀ n,wO o n=ι o n):=fun o=>by
  rcases Nat.lt_trichotomy o s.ag.length with ho | ho | ho
  ·refine .inr ⟨?_,fun n=>?_⟩
   ·simp only [ay,St.obj,List.getElem?_append_left ho]
   ·simp only [wO]; rw [if_neg (fun h=>by omega)]
  ·subst ho; left; simp [ay]
  ·refine .inr ⟨?_,fun n=>?_⟩
   ·rw [dw (by simp; omega)]; exact (dw (by omega)).symm
   ·simp only [wO]; rw [if_neg (fun h=>by omega)]
 have S1:aN G J W1 wO (ay (s.ag++[none])):=S.store.cn hCN hi1 VL
 have No:∀ b,Own wO s.obj b↔Own ι s.obj b:=fun b=>by
  constructor
  ·rintro ⟨o,ho⟩
   by_cases hol:o=s.ag.length
   ·subst hol
    have hf:s.obj s.ag.length=.free:=dw (Nat.le_refl _)
    rw [hf] at ho; exact ho.elim
   ·exact ⟨o,(cW.lN (fun n=>by simp only [wO]; rw [if_neg (fun h=>hol h.1)])).1 ho⟩
  ·rintro ⟨o,ho⟩
   by_cases hol:o=s.ag.length
   ·subst hol
    have hf:s.obj s.ag.length=.free:=dw (Nat.le_refl _)
    rw [hf] at ho; exact ho.elim
   ·exact ⟨o,(cW.lN (fun n=>by simp only [wO]; rw [if_neg (fun h=>hol h.1)])).2 ho⟩
 have E1:Ext s.obj (ay (s.ag++[none])) J J wO wO w W1:=by
  refine ⟨⟨rfl,rfl,rfl,by omega,fun b hb _=>aal b hb,fun b hb=>?_,fun _ h=>h,fun _ h=>.inl h,fun _ _ _ h=>h⟩,fun b hb=>?_⟩
  ·unfold World.shape?; rw [aal b hb]
  ·obtain ⟨o,ho⟩:=hb
   rcases VL o with h1 | ⟨h1,h2⟩
   ·rw [h1] at ho; exact ho.elim
   ·rw [h1] at ho; exact .inl ⟨o,ho⟩
 -- from the abp YN on
 have back:∀ {o':Nat→cW} {J':Nat→Prop} {ι':Nat→Nat→Option Nat} {w':World},Ext s.obj o' J J' wO ι' w w'→Ext s.obj o' J J' ι ι' w w':=fun e=>
  ⟨⟨e.ev.os,e.ev.tape,e.ev.output,e.ev.size,fun b hb hn=>e.ev.same b hb (fun h=>hn ((No b).1 h)),e.ev.shape,e.ev.iW,fun b hb=>(e.ev.wD b hb).imp id (fun h=>h.imp id (fun h=>(No b).1 h)),fun o n b hb=>e.ev.iY o n b (hi1 o n b hb)⟩,fun b hb=>(e.own b hb).imp (fun h=>(No b).1 h) id⟩
 refine ⟨w.heap.size+1,[{ target:=.collected w.heap.size,args:=#[] }],W1,{ target:=.fn (.func k) cs',args:=fs'++#[.func (.yield (w.heap.size+1)) #[] #[]] },W1,k,fs'++#[.func (.yield (w.heap.size+1)) #[] #[]]++cs',W1,run_enterLoop_outer _ _ _ _ _,?_,fun _ _=>trivial,?_,(fun hh=>by cases hh),?_⟩
 ·simp only [resolve,hval,Deferred.ofValue,Sem.run_pure]; simp [Act.eval]
 ·simp only [invoke]; exact ru hent _ _
 have hargs:cL J W1 wO (fs++[.yl s.ag.length]++cs) (fs'++#[Value.func (.yield (w.heap.size+1)) #[] #[]]++cs').toList:=by
  simp only [Array.toList_append]
  have hy1:cL J W1 wO [.yl s.ag.length] [Value.func (.yield (w.heap.size+1)) #[] #[]]:=⟨⟨w.heap.size+1,by simp [wO],rfl⟩,trivial⟩
  exact ((hfs.cn S.store hCN hi1).append hy1).append (hcs.cn S.store hCN hi1)
 have Z_:Pt (w.heap.size+1) w.heap.size rc jm jH W1:=⟨(fun _=>hL1),(fun h=>by cases h),(fun _=>hD1),rfl⟩
 have XQ:=hit (Pu (w.heap.size+1) w.heap.size rc jm) s.obj J wO w J wO W1 (fs'++#[.func (.yield (w.heap.size+1)) #[] #[]]++cs') rfl rfl S1 hargs E1 Z_
 clear hit
 have Cy:∀ N_1,qy P G none (pK P G jm ps.toList xa xb s) (Pu (w.heap.size+1) w.heap.size rc jm) N_1 s.obj J wO w:=by
  clear XQ
  intro Nit oy as ag ys K' hYv get a2 w2 o7 hys y vs gu
  obtain ⟨abt,hhd,hlen,hv⟩:=hYv
  simp only [List.head?_cons,Option.some.injEq,LV.yl.injEq] at hhd
  subst hhd
  simp only [List.tail_cons] at hlen hv
  obtain ⟨J2,zO,S2,E2,lB,Su⟩:=gu
  obtain ⟨b,hb,rfl⟩:=lB
  have oO:b=w.heap.size+1:=by
   have:=E2.ev.iY s.ag.length 0 (w.heap.size+1) (by simp [wO])
   rw [this] at hb; cases hb; rfl
  subst oO
  refine ⟨_,rfl,fun n2=>?_⟩
  have wF:Pt (w.heap.size+1) w.heap.size rc jm jH w2:=by
   have:=S2.ys
   rw [hys,abt] at this; exact this
  have hL2:=wF.1 rfl
  have hD2:=wF.2.2.1 (by simp [jH])
  have E2':=back E2
  have hvl:vs.length=ps.size:=by rw [← Su.length]; simpa using hlen
  refine ⟨fn,_,ca,cb,run_yield (P:=P) (args:=vs.toArray) hL2 (by simpa using hvl),?_⟩
  refine roundIn_of_wpIn (F:=fz none) trivial ?_
  have VH:(ps.zip vs.toArray).foldl (fun (tmps:Array Value) (p:Tmp×Value)=>tmps.setIfInBounds p.1 p.2) a.tmps=(ps.toList.zip vs).foldl (fun t (p:Nat×Value)=>t.setIfInBounds p.1 p.2) a.tmps:=by
   rw [← Array.foldl_toList]; simp [Array.toList_zip]
  have hA3:oS G (Dk.plain [] false) N (ay ag) J2 zO w2 ⟨rZ ps.toList as s.env,ag⟩ ⟨(ps.zip vs.toArray).foldl (fun (tmps:Array Value) (p:Tmp×Value)=>tmps.setIfInBounds p.1 p.2) a.tmps,[]⟩ w2:=by
   refine ⟨J2,zO,⟨S2.store,fun t=>?_,?_,Marks.plain _ _,trivial,S.lim⟩,Ext.refl ..⟩
   ·rw [VH]
    exact BA ps.toList as vs s.env a.tmps N S.size XJ (by simpa using hlen) Su (fun q=>(S.env q).ev S.store E2'.ev) t
   ·rw [VH]; simp only [zi]; exact S.size
  refine wpIn_mono (iha (ro:=some (w.heap.size+1)) _ _ hv qy.no (Lu.no _) _ _ hA3) ?_
  rintro e a3 w3 hq
  cases e with
  | normal=>
    obtain ⟨s1,hA4,hvb⟩:=hq
    obtain ⟨J3,Wm,S3,E3⟩:=hA4.ex
    have nc3:=E3.nc S2.store
    have SI:=nc3 _ _ hL2 rfl
    have hD3:=nc3 _ _ hD2 rfl
    refine ⟨_,run_beginRound (P:=P) SI rfl,?_⟩
    have S4:=S3.store.put (.loop { rc .ready none with state:=.busy }) SI rfl
    have hL4:(w3.putObj (w.heap.size+1) (.loop { rc .ready none with state:=.busy })).heap[w.heap.size+1]? = some (.loop (rc .busy none)):=World.putObj_heap_same (Array.getElem?_eq_some_iff.1 SI).1
    have hD4:(w3.putObj (w.heap.size+1) (.loop { rc .ready none with state:=.busy })).heap[w.heap.size]? = some (.deferred (some [])):=(World.putObj_heap_other (by omega)).trans hD3
    have YT:=CN.put (.loop { rc .ready none with state:=.busy }) SI rfl
    have hA5:oS G (Dk.plain [] false) N s1.obj J3 Wm (w3.putObj (w.heap.size+1) (.loop { rc .ready none with state:=.busy })) s1 a3 (w3.putObj (w.heap.size+1) (.loop { rc .ready none with state:=.busy })):=by
     refine ⟨J3,Wm,⟨S4,fun t=>(S3.env t).cn S3.store YT (fun _ _ _ h=>h),S3.size,?_,trivial,S3.lim⟩,Ext.refl ..⟩
     have:=S3.defers.none rfl
     rw [this]; exact Marks.plain _ _
    have E4:Ext s.obj s1.obj J J3 wO Wm w (w3.putObj (w.heap.size+1) (.loop { rc .ready none with state:=.busy })):=(E2.trans E3).put _ SI rfl (by omega) rfl
    refine wpIn_mono (ihb (ro:=some (w.heap.size+1)) _ _ hvb qy.no (Lu.no _) a3 _ hA5) ?_
    rintro e a5 w5 hq
    have close:∀ (s5:St) (pe:Option Code) (yv:LV) (bb:Bool),oS G (Dk.plain [] false) N s1.obj J3 Wm (w3.putObj (w.heap.size+1) (.loop { rc .ready none with state:=.busy })) s5 a5 w5→K' yv bb s5.ag→bb=pe.isNone→(∀ (J:Nat→Prop) w ι,dF J w ι yv Go.undef)→
      (∀ w6:World,w6.heap[w.heap.size+1]? = some (.loop (rc (if pe.isNone then .ready else .done) pe))→w6.heap[w.heap.size]? = some (.deferred (some []))→Pt (w.heap.size+1) w.heap.size rc jm yv w6)→
      ∃ v w6,(Instr.endRound (w.heap.size+1) pe).run P w5=.ok v w6∧(fun (e:Ending) w'=>∃ ys' b aC,e=.returned (.bool b)∧K' ys' b aC∧∀ dst,(∀ d,dst=some d→d<Nit)→At G (Pu (w.heap.size+1) w.heap.size rc jm) Nit s.obj J wO w (gM dst (.bool b) (fun t=>if YS=t then ys' else get t)) (ay aC) (a2.put dst (.bool b)) w') (.returned v) w6:=by
     intro s5 pe yv bb X6 hk hbb Z9 hrecv
     obtain ⟨J5,YU,S5,E5⟩:=X6.ex
     have nc5:=E5.nc S4
     have hL5:=nc5 _ _ hL4 rfl
     have hD5:=nc5 _ _ hD4 rfl
     have CN5:=CN.put (.loop { rc .busy none with state:=if pe.isNone then .ready else .done,pending:=pe }) hL5 rfl
     refine ⟨_,_,run_endRound (P:=P) pe hL5,yv,bb,s5.ag,by rw [hbb],hk,fun dst hd=>?_⟩
     refine ⟨J5,YU,⟨S5.store.put _ hL5 rfl,fun t=>?_,?_,?_,?_,S2.lim⟩,(E4.trans E5).put _ hL5 rfl (by omega) rfl⟩
     ·have hold:∀ t,dF J5 (w5.putObj (w.heap.size+1) (.loop { rc .busy none with state:=if pe.isNone then .ready else .done,pending:=pe })) YU (if YS=t then yv else get t) (a2.tmps.getD t Go.undef):=by
       intro t
       by_cases ht:YS=t
       ·rw [if_pos ht]
        have:a2.tmps.getD t Go.undef=Go.undef:=by
         have h1:=S2.size
         have h2:=S2.lim
         rw [Array.getD_eq_getD_getElem?,Array.getElem?_eq_none (by omega)]; rfl
        rw [this]; exact Z9 _ _ _
       ·rw [if_neg ht]
        exact ((((S2.env t).ev S2.store E3.ev).cn S3.store YT (fun _ _ _ h=>h)).ev S4 E5.ev).cn S5.store CN5 (fun _ _ _ h=>h)
      cases dst with
      | none=>simpa [gM,Act.put] using hold t
      | some d=>
        have SE:=hd d rfl
        simp only [gM,Act.put,Option.some.injEq]
        by_cases ht:d=t
        ·subst ht
         rw [if_pos rfl]
         have:(a2.tmps.setIfInBounds d (.bool bb)).getD d Go.undef=.bool bb:=by simp [Array.getD_eq_getD_getElem?,S2.size,SE]
         rw [this]; rfl
        ·rw [if_neg ht]
         have:(a2.tmps.setIfInBounds d (.bool bb)).getD t Go.undef=a2.tmps.getD t Go.undef:=by
          simp [Array.getD_eq_getD_getElem?,Array.getElem?_setIfInBounds_ne ht]
         rw [this]; exact hold t
     ·cases dst <;> simp [Act.put,S2.size]
     ·have h1:=S2.defers.none rfl
      have h2:(a2.put dst (.bool bb)).defers=a2.defers:=by cases dst <;> rfl
      rw [h2,h1]; exact Marks.plain (Pu (w.heap.size+1) w.heap.size rc jm) _
     ·have h2:gM dst (.bool bb) (fun t=>if YS=t then yv else get t) YS=yv:=by
       unfold gM
       rw [if_neg]
       ·simp
       ·intro h
        have h3:=hd YS h
        have:=S2.lim
        omega
      rw [h2]
      exact hrecv _ (World.putObj_heap_same (Array.getElem?_eq_some_iff.1 hL5).1) ((World.putObj_heap_other (by omega)).trans hD5)
    cases e with
    | normal=>
      obtain ⟨s5,X6,hk⟩:=hq
      exact close s5 none jH true X6 hk rfl (fun _ _ _=>rfl) (fun w6 h1 h2=>⟨(fun _=>h1),(fun h=>by cases h),(fun _=>h2),rfl⟩)
    | exit i=>
      obtain ⟨OX,s5,X6,_,hjm,hk⟩:=hq
      subst hjm
      exact close s5 (some (.exit i)) kg false X6 hk rfl (fun _ _ _=>⟨#[],rfl,trivial⟩) (fun w6 h1 h2=>⟨(fun h=>by cases h),(fun _=>h1),(fun _=>h2),rfl⟩)
    | ret=>
      obtain ⟨s5,X6,hjm,hk⟩:=hq
      subst hjm
      exact close s5 (some .ret) kg false X6 hk rfl (fun _ _ _=>⟨#[],rfl,trivial⟩) (fun w6 h1 h2=>⟨(fun h=>by cases h),(fun _=>h1),(fun _=>h2),rfl⟩)
    | goto l=>exact hq.elim
    | panic ch=>
      obtain ⟨v,s',_,_,_,hx,_⟩:=hq
      exact (hx rfl).elim
    | outgrown=>exact hq.elim
  | exit i=>exact hq.2.elim (fun _ h=>h.2)
  | ret=>exact hq.elim (fun _ h=>h.2)
  | goto l=>exact hq.elim
  | panic ch=>
    obtain ⟨v,s',_,_,_,hx⟩:=hq
    exact hx.elim
  | outgrown=>exact hq.elim
 refine qa.2 (Calls.mono (XQ Cy) ?_)
 clear XQ Cy
 rintro e w3 ⟨v,rfl,yv,aC,J3,Wm,hR,wF,S3,E3⟩
 have E3':=back E3
 have fin:∀ (st:LoopState) (pe:Option Code),w3.heap[w.heap.size+1]? = some (.loop (rc st pe))→w3.heap[w.heap.size]? = some (.deferred (some []))→
   oS G D N bF J0 cI w0 ⟨s.env,aC⟩ { a with defers:=[{ target:=.collected w.heap.size,args:=#[] }]++a.defers } (w3.putObj (w.heap.size+1) (.loop { rc st pe with state:=.exhausted })):=by
  intro st pe SI hD3
  have YT:=CN.put (.loop { rc st pe with state:=.exhausted }) SI rfl
  have E4:=E3'.put (.loop { rc st pe with state:=.exhausted }) SI rfl (by omega) rfl
  have nc:j3 w (w3.putObj (w.heap.size+1) (.loop { rc st pe with state:=.exhausted })):=E4.nc S.store
  refine ⟨J3,Wm,⟨S3.put _ SI rfl,fun t=>((S.env t).ev S.store E3'.ev).cn S3 YT (fun _ _ _ h=>h),S.size,?_,D.keep _ _ _ nc S.ys,S.lim⟩,E.trans E4⟩
  obtain ⟨Bs,h1,h2,h3,h4⟩:=S.defers
  refine ⟨w.heap.size::Bs,(fun h=>by rw [hmk] at h; cases h),List.nodup_cons.2 ⟨fun h=>?_,h2⟩,by simp [h3],fun b hb=>?_⟩
  ·have:=(Array.getElem?_eq_some_iff.1 (h4 _ h).2).1
   omega
  ·rcases List.mem_cons.1 hb with rfl | hb
   ·exact ⟨by omega,(World.putObj_heap_other (by omega)).trans hD3⟩
   ·exact ⟨(h4 b hb).1,nc _ _ (h4 b hb).2 rfl⟩
 rcases hend yv aC hR with ⟨rfl,hk⟩ | ⟨rfl,hk⟩
 ·exact ⟨none,_,run_endLoop (P:=P) (wF.1 rfl) (by simp [rc]),_,fin _ _ (wF.1 rfl) (wF.2.2.1 (by simp [jH])),hk⟩
 ·refine ⟨some (TI jm),_,run_endLoop (P:=P) (wF.2.1 rfl) (by simp [rc]),?_⟩
  have hf:=fin _ _ (wF.2.1 rfl) (wF.2.2.1 (by simp [kg]))
  cases jm with
  | none=>exact wpIn_ret ⟨_,hf,hk⟩
  | some i=>exact wpIn_exit ⟨hk.1,_,hf,hk.2⟩
theorem eV:∀ (code:Code) (c:C) {N:Nat},fZ P N code=some c→∀ {ro:Option Nat} {nn:Nat} {D:Dk} {bF:Nat→cW} {J0:Nat→Prop} {cI:Nat→Nat→Option Nat} {w0:World} (hrf:j9 c=true∨(ro=none∧D.vW=true∧D.lo≤w0.heap.size)) (s:St) (K:wN),vc P G c s K→qy P G ro K.y D N bF J0 cI w0→Lu K.b cI→∀ a w,oS G D N bF J0 cI w0 s a w→code.wpIn (fz ro) nn P (KQ G D N bF J0 cI w0 K) a w
 | .skip,c,N,hc,ro,nn,D,bF,J0,cI,w0,hrf,s,K,h,hY,hB,a,w,hA=>by
   simp only [fZ] at hc; cases hc
   exact wpIn_skip ⟨s,hA,h⟩
 | .region rid ops draw,c,N,hc,ro,nn,D,bF,J0,cI,w0,hrf,s,K,h,hY,hB,a,w,hA=>by
   simp only [fZ] at hc
   split at hc
   ·rename_i gi NB
    cases hc
    cases draw with
    | false=>
      simp only [Bool.false_eq_true,if_false,vc] at h
      simp only [ov,Bool.false_eq_true,if_false] at NB
      obtain ⟨h1,h2⟩:=qv NB
      exact wpIn_region_list (Ay hY (K:=K.n) (fun s a w hA hK=>⟨s,hA,hK⟩) (fun v s a w hd hO hX=>⟨v,s,rfl,hd,hO,hX⟩) _ _ _ _ _ h1 h2 h hA)
    | true=>
      simp only [if_true] at h
      unfold L5 at h
      split at h
      ·rename_i p hp
       split at h
       ·rename_i io oN
        simp only [vc] at h
        exact Oq hY (K:=K.n) (fun s a w hA hK=>⟨s,hA,hK⟩) (fun v s a w hd hO hX=>⟨v,s,rfl,hd,hO,hX⟩) NB oN (List.find?_some hp) h hA
       ·simp only [vc] at h
        exact zn (K:=K.n) (fun s a w hA hK=>⟨s,hA,hK⟩) (fun v s a w hd hO hX=>⟨v,s,rfl,hd,hO,hX⟩) NB h hA
      ·simp only [vc] at h
       exact zn (K:=K.n) (fun s a w hA hK=>⟨s,hA,hK⟩) (fun v s a w hd hO hX=>⟨v,s,rfl,hd,hO,hX⟩) NB h hA
   ·cases hc
 | .seq x y,c,N,hc,ro,nn,D,bF,J0,cI,w0,hrf,s,K,h,hY,hB,a,w,hA=>by
   simp only [fZ] at hc
   split at hc
   ·rename_i cx cy h1 h2
    cases hc
    have cD:j9 cx=true∨(ro=none∧D.vW=true∧D.lo≤w0.heap.size):=hrf.imp (fun h=>by simp only [j9,Bool.and_eq_true] at h; exact h.1) id
    have lB:j9 cy=true∨(ro=none∧D.vW=true∧D.lo≤w0.heap.size):=hrf.imp (fun h=>by simp only [j9,Bool.and_eq_true] at h; exact h.2) id
    refine wpIn_seq (wpIn_mono (eV x cx h1 cD s _ h hY hB a w hA) (fun e a' w' hq=>?_))
    cases e with
    | normal=>obtain ⟨s',vo,hk⟩:=hq; exact eV y cy h2 lB s' K hk hY hB a' w' vo
    | exit i=>exact hq
    | ret=>exact hq
    | goto l=>exact hq.elim
    | panic ch=>exact hq
    | outgrown=>exact hq.elim
   ·cases hc
 | .cond x y z,c,N,hc,ro,nn,D,bF,J0,cI,w0,hrf,s,K,h,hY,hB,a,w,hA=>by
   simp only [fZ] at hc
   split at hc
   ·rename_i cx cy cz h1 h2 h3
    cases hc
    have lB:j9 cy=true∨(ro=none∧D.vW=true∧D.lo≤w0.heap.size):=hrf.imp (fun h=>by simp only [j9,Bool.and_eq_true] at h; exact h.1) id
    have hrz:j9 cz=true∨(ro=none∧D.vW=true∧D.lo≤w0.heap.size):=hrf.imp (fun h=>by simp only [j9,Bool.and_eq_true] at h; exact h.2) id
    simp only [vc] at h
    split at h
    ·rename_i t ht
     have hv:a.eval x=.bool t:=by
      obtain ⟨J,ι,S,E⟩:=hA.ex
      have hr:=bp S.store S.env h1
      rw [ht] at hr
      exact hr
     exact wpIn_cond_split hv (fun hh=>eV y cy h2 lB s K (by rw [if_pos hh] at h; exact h) hY hB a w hA) (fun hh=>eV z cz h3 hrz s K (by rw [if_neg (by simp [hh])] at h; exact h) hY hB a w hA)
    ·rename_i ht
     obtain ⟨t,hv⟩:∃ t,a.eval x=.bool t:=by
      obtain ⟨J,ι,S,E⟩:=hA.ex
      have hr:=bp S.store S.env h1
      rw [ht] at hr
      exact hr
     exact wpIn_cond_split hv (fun hh=>eV y cy h2 lB s K h.1 hY hB a w hA) (fun hh=>eV z cz h3 hrz s K h.2 hY hB a w hA)
    ·exact h.elim
   ·cases hc
 | .block i x,c,N,hc,ro,nn,D,bF,J0,cI,w0,hrf,s,K,h,hY,hB,a,w,hA=>by
   simp only [fZ] at hc
   split at hc
   ·rename_i cx h1
    by_cases OX:i=iq
    ·rw [if_pos OX] at hc; cases hc
    rw [if_neg OX] at hc
    cases hc
    refine wpIn_block (wpIn_mono (eV x cx h1 hrf s _ h hY hB a w hA) (fun e a' w' hq=>?_))
    cases e with
    | normal=>exact hq
    | exit j=>
      obtain ⟨hjP,s',vo,hk⟩:=hq
      simp only [Exit.inBlock]
      dsimp only at hk
      by_cases hj:j=i
      ·rw [if_pos hj] at hk ⊢; exact ⟨s',vo,hk⟩
      ·rw [if_neg hj] at hk ⊢; exact ⟨hjP,s',vo,hk⟩
    | ret=>exact hq
    | goto l=>exact hq.elim
    | panic ch=>
      obtain ⟨v,s',h1,h2,h3,hk⟩:=hq
      dsimp only at hk
      rw [if_neg (fun e=>OX e.symm)] at hk
      exact ⟨v,s',h1,h2,h3,hk⟩
    | outgrown=>exact hq.elim
   ·cases hc
 | .loop x,c,N,hc,ro,nn,D,bF,J0,cI,w0,hrf,s,K,h,hY,hB,a,w,hA=>by
   simp only [fZ] at hc
   split at hc
   ·rename_i cx h1
    cases hc
    simp only [vc] at h
    obtain ⟨ts,I,M,ad,hI,hstep⟩:=h
    replace hA:=hA.bX ad
    have hm:∀ o n b,cI o n=some b→o<(bX ad s).ag.length:=fun o n b hb=>hA.bound hb
    have key:∀ n k s' a w,k<n→I k s'→oS G D N bF J0 cI w0 s' a w→Code.roundsIn (fz ro) nn P x (KQ G D N bF J0 cI w0 K) n a w:=by
     intro n
     induction n with
     | zero=>intro k _ _ _ hk; omega
     | succ n ih=>
       intro k s' a w hk hIk vo
       rw [roundsIn_succ]
       refine wpIn_mono (eV x cx h1 hrf s' _ (hstep k s' hIk) hY hB a w vo) (fun e a' w' hq=>?_)
       cases e with
       | normal=>
         obtain ⟨s'',ab8,j,hj,s3,hIj,himp⟩:=hq
         exact ih j _ a' w' (by omega) hIj (himp _ _ _ _ _ _ _ _ (hB.lt hm) ab8)
       | exit i=>exact hq
       | ret=>exact hq
       | goto l=>exact hq.elim
       | panic ch=>exact hq
       | outgrown=>exact hq.elim
    exact wpIn_loop_rounds (M+1) (key (M+1) M _ a w (by omega) hI (hA.Zc ts))
   ·cases hc
 | .exit i,c,N,hc,ro,nn,D,bF,J0,cI,w0,hrf,s,K,h,hY,hB,a,w,hA=>by
   simp only [fZ] at hc
   by_cases OX:i=iq
   ·rw [if_pos OX] at hc; cases hc
   rw [if_neg OX] at hc
   cases hc
   exact wpIn_exit ⟨OX,s,hA,h⟩
 | .scope x,c,N,hc,ro,nn,D,bF,J0,cI,w0,hrf,s,K,h,hY,hB,a,w,hA=>by
   simp only [fZ] at hc
   split at hc
   ·rename_i cx h1
    cases hc
    refine rB (wpIn_mono (eV x cx h1 hrf s K h hY hB a w hA) (fun e a' w' hq=>?_))
    cases e with
    | normal=>exact hq
    | exit i=>exact hq
    | ret=>exact hq
    | goto l=>exact hq.elim
    | panic ch=>exact hq
    | outgrown=>exact hq.elim
   ·cases hc
 | .ret,c,N,hc,ro,nn,D,bF,J0,cI,w0,hrf,s,K,h,hY,hB,a,w,hA=>by
   simp only [fZ] at hc; cases hc
   exact wpIn_ret ⟨s,hA,h⟩
 | .label _,c,N,hc,ro,nn,D,bF,J0,cI,w0,hrf,s,K,h,hY,hB,a,w,hA=>by
   simp only [fZ] at hc; cases hc
   exact wpIn_label ⟨s,hA,h⟩
 | .goto _,c,N,hc,_,_,_,_,_,_,_,_,_,_,_,_,_,_,_,_=>by simp [fZ] at hc
 | .refuse _,c,N,hc,_,_,_,_,_,_,_,_,_,_,_,_,_,_,_,_=>by simp [fZ] at hc
 | .rangeFunc g ps ca cb,c,N,hc,ro,nn,D,bF,J0,cI,w0,hrf,s,K,h,hY,hB,a,w,hA=>by
   simp only [fZ] at hc
   split at hc
   ·rename_i cg xa xb h1 h2 h3
    split at hc
    ·rename_i hok
     cases hc
     simp only [Bool.and_eq_true,List.all_eq_true,decide_eq_true_eq] at hok
     obtain ⟨⟨hna,hnb⟩,XJ⟩:=hok
     obtain ⟨hro,hmk,hlo⟩:ro=none∧D.vW=true∧D.lo≤w0.heap.size:=hrf.resolve_left (by simp [j9])
     subst hro
     simp only [vc] at h
     split at h
     ·rename_i k fs cs jq
      exact Jw h1 XJ hmk hlo (fun s K h hY hB a w hA=>eV ca xa h2 (.inl hna) s K h hY hB a w hA) (fun s K h hY hB a w hA=>eV cb xb h3 (.inl hnb) s K h hY hB a w hA) jq h a w hA
     ·exact h.elim
    ·cases hc
   ·cases hc
end
def RV.of (s:St):RV→Option LV
 | .t n=>some (s.get n)
 | .c1 n=>match s.get n with
   | .ptr o col=>match s.obj o with
     | .live (.box _ cells)=>cells[col]?
     | _=>none
   | _=>none
 | .cn n size=>match s.get n with
   | .ptr o col=>match s.obj o with
     | .live (.box _ cells)=>if ((cells.drop col).take size).length=size then some (.agg ((cells.drop col).take size)) else none
     | _=>none
   | _=>none
def uH.of (s:St):List RV→Option (List LV)
 | []=>some []
 | x::xs=>match x.of s,uH.of s xs with
   | some v,some vs=>some (v::vs)
   | _,_=>none
def aF:List LV→LV
 | [x]=>x
 | xs=>.dM xs
def CR (P:Program):ResultVar→Option RV
 | .tmp t=>some (.t t)
 | .cell a T=>match nO P T,dZ P T with
   | some true,some n=>some (.cn a n)
   | some false,some _=>some (.c1 a)
   | _,_=>none
def ox (P:Program):List ResultVar→Option (List RV)
 | []=>some []
 | x::xs=>match CR P x,ox P xs with
   | some y,some ys=>some (y::ys)
   | _,_=>none
def aq (P:Program) (fn:Func):Option (Nat×C×List RV):=match fn.body with
 | some code=>match fZ P fn.ntmps code,ox P fn.results.toList with
   | some c,some rv=>if fn.ntmps≤YS then some (fn.ntmps,c,rv) else none
   | _,_=>none
 | none=>none
def fc:Nat→List LV→List (Nat×LV)
 | _,[]=>[]
 | k,x::xs=>(k,x)::fc (k+1) xs
def abg (rv:List RV) (k:Nat) (r:LV) (aA:List aG) (s:St):Prop:=
 ∃ vs ρ Z,uH.of s rv=some vs∧ρ.take k=List.range k∧ρ.Nodup∧(∀ z∈Z,z∉ρ)∧(∀ z∈Z,∃ et e rows,s.obj z=.live (.dat et e rows)∨s.obj z=.live (.kU et e rows))∧aA.length=ρ.length∧
   (∀ (i o:Nat),ρ[i]? = some o→∃ ob,aA[i]? = some ob∧s.obj o=.live (fC (bE ρ 0) ob))∧aA.all (dQ ρ.length)=true∧ah s.obj ρ Z (aF vs) r
def rL (rv:List RV) (k:Nat) (r:LV) (aA:List aG) (s:St):Prop:=∃ ad,abg rv k r aA (bX ad s)
def DK (tmps:Array Value):ResultVar→Sem Value
 | .tmp q=>pure (tmps.getD q Go.undef)
 | .cell p T=>do loadVar T (← asAddr (tmps.getD p Go.undef))
theorem sA (fn:Func) (tmps:Array Value):results fn tmps=(do let vs ← fn.results.mapM (DK tmps); pure (if h:vs.size=1 then vs[0] else .tuple vs)):=rfl
section
variable {P:Program} {G:Nat→Option (List DV)} {N:Nat} {J:Nat→Prop} {w:World} {ι:Nat→Nat→Option Nat}
theorem RV.sound {s:St} {a:Act} (S:aN G J w ι s.obj) (he:∀ t,dF J w ι (s.get t) (a.tmps.getD t Go.undef)) {x:ResultVar} {y:RV} (hc:CR P x=some y) {r:LV} (hr:y.of s=some r) :
  ∃ v,(DK a.tmps x).run P w=.ok v w∧dF J w ι r v:=by
 cases x with
 | tmp q=>
   simp only [CR] at hc; cases hc
   simp only [RV.of] at hr; cases hr
   exact ⟨_,rfl,he q⟩
 | cell p T=>
   simp only [CR] at hc
   split at hc
   ·rename_i n ha hs
    cases hc
    simp only [RV.of] at hr
    split at hr
    ·rename_i o col hg
     split at hr
     ·rename_i et cells ho
      split at hr
      ·rename_i hl
       cases hr
       have hp:=he p
       rw [hg] at hp
       obtain ⟨b,hb,hv⟩:=hp
       have h0:=S.rep o
       rw [ho] at h0
       obtain ⟨⟨b',Cc,h1,h2,h3⟩,_⟩:=h0
       rw [hb] at h1; cases h1
       have h4:=(h3.drop col).take n
       have hrun:=BY (P:=P) ha hs (lJ h2 col n) (by rw [← h4.length,hl])
       refine ⟨_,?_,⟨_,rfl,by simpa using h4⟩⟩
       simp only [DK]
       rw [hv]
       simpa [Instr.loadAt,Instr.sureAddr,asAddr] using hrun
      ·cases hr
     ·cases hr
    ·cases hr
   ·rename_i n ha hs
    cases hc
    simp only [RV.of] at hr
    split at hr
    ·rename_i o col hg
     split at hr
     ·rename_i et cells ho
      have hp:=he p
      rw [hg] at hp
      obtain ⟨b,hb,hv⟩:=hp
      have h0:=S.rep o
      rw [ho] at h0
      obtain ⟨⟨b',Cc,h1,h2,h3⟩,_⟩:=h0
      rw [hb] at h1; cases h1
      obtain ⟨u,hu,_,Gv⟩:=h3.get hr
      have hrun:=wV (P:=P) (w:=w) ha (b:=b) (o:=col) (v:=u) (by rw [cell_of_row w b col Cc et _ h2]; simpa using hu)
      refine ⟨u,?_,Gv⟩
      simp only [DK]
      rw [hv]
      simpa [Instr.loadAt,Instr.sureAddr,asAddr] using hrun
     ·cases hr
    ·cases hr
   ·cases hc
theorem uH.sound {s:St} {a:Act} (S:aN G J w ι s.obj) (he:∀ t,dF J w ι (s.get t) (a.tmps.getD t Go.undef)):∀ {xs:List ResultVar} {ys:List RV},ox P xs=some ys→∀ {rs:List LV},uH.of s ys=some rs→
  ∃ vs,(xs.mapM (DK a.tmps)).run P w=.ok vs w∧cL J w ι rs vs
 | [],ys,hc,rs,hr=>by
   simp only [ox] at hc; cases hc
   simp only [uH.of] at hr; cases hr
   exact ⟨[],rfl,trivial⟩
 | x::xs,ys,hc,rs,hr=>by
   simp only [ox] at hc
   split at hc
   ·rename_i y ys' h1 h2
    cases hc
    simp only [uH.of] at hr
    split at hr
    ·rename_i v vs h3 h4
     cases hr
     obtain ⟨u,hu,Gv⟩:=RV.sound S he h1 h3
     obtain ⟨us,qX,zX⟩:=uH.sound S he h2 h4
     refine ⟨u::us,?_,Gv,zX⟩
     rw [List.mapM_cons,Sem.run_bind,hu]
     simp only [Result.andThen_ok,Sem.run_bind,qX,Sem.run_pure]
    ·cases hr
   ·cases hc
theorem mc:∀ (xs:List LV) (vs:List Value) (k t:Nat),cL J w ι xs vs→dF J w ι (aO (fc k xs) t) (if k≤t then (vs[t-k]?).getD Go.undef else Go.undef)
 | [],[],k,t,_=>trivial
 | x::xs,v::vs,k,t,h=>by
   simp only [fc,aO]
   by_cases hk:k=t
   ·subst hk; simpa using h.1
   ·rw [if_neg hk]
    have:=mc xs vs (k+1) t h.2
    by_cases hlt:k≤t
    ·rw [if_pos (by omega)] at this
     rw [if_pos hlt]
     have e:t-k=(t-(k+1))+1:=by omega
     rw [e]; simpa using this
    ·rw [if_neg (by omega)] at this
     rw [if_neg hlt]; exact this
 | [],_::_,_,_,h=>h.elim
 | _::_,[],_,_,h=>h.elim
theorem tW {n:Nat} {fn:Func} {tmps:Array Value} {R:Ending→World→Prop} {obj bF:Nat→cW} {J0:Nat→Prop} {cI:Nat→Nat→Option Nat} {w0:World} {get:Nat→LV}
  (fin:∀ w,aN G J w ι obj→(∀ t,dF J w ι (get t) (tmps.getD t Go.undef))→Ext bF obj J0 J cI ι w0 w→∃ v,(results fn tmps).run P w=.ok v w∧R (.returned v) w) :
  ∀ (Bs:List Nat) (w:World),Bs.Nodup→(∀ b∈Bs,w0.heap.size≤b∧w.heap[b]? = some (.deferred (some [])))→aN G J w ι obj→(∀ t,dF J w ι (get t) (tmps.getD t Go.undef))→Ext bF obj J0 J cI ι w0 w→
    LeavesInM (fz none) n P fn tmps R (Bs.map fun b=>{ target:=.collected b,args:=#[] }) .returning w
 | [],w,_,_,S,he,E=>fin w S he E
 | b::Bs,w,hn,hb,S,he,E=>by
   obtain ⟨h1,h2⟩:=hb b (by simp)
   have hn':=List.nodup_cons.1 hn
   have YT:=CN.put (.deferred none) h2 rfl
   refine ⟨by simp,.inl ⟨b,_,rfl,run_takeDeferred (P:=P) h2,?_⟩⟩
   refine tW fin Bs _ hn'.2 (fun b' hb'=>?_) (S.put _ h2 rfl) (fun t=>(he t).cn S YT (fun _ _ _ h=>h)) (E.put _ h2 rfl h1 rfl)
   have hne:b'≠b:=fun e=>hn'.1 (e ▸ hb')
   exact ⟨(hb b' (by simp [hb'])).1,(World.putObj_heap_other hne).trans (hb b' (by simp [hb'])).2⟩
/-- A FUNCTION KEEPS ITS CONTRACT, if its text's vc holds. -/
theorem Hz {f:Nat} {fn:Func} {c:C} {rv:List RV} {args:List LV} {aH aA:List aG} {r:LV} (hf:P.funcs[f]? = some fn) (hn:fn.name≠ "runtime.NumGoroutine") (ja:aq P fn=some (N,c,rv)) (hl:args.length≤N) (bb:Option Nat)
  (h:vc P G c ⟨fc 0 args,aH.map some⟩ ⟨rL rv aH.length r aA,fun _ _=>False,rL rv aH.length r aA,qS,bb⟩) (hbb:∀ B,bb=some B→aH.length≤B):br P G f args aH r aA:=by
 unfold aq at ja
 split at ja
 ·rename_i code hbody
  split at ja
  ·rename_i c' rv' hc Nj
   split at ja
   case isFalse=>cases ja
   rename_i hlim
   cases ja
   refine ⟨by simp [mC,hf,hn,hbody],fun J0 cI w0 vs S0 hargs=>?_⟩
   have hvl:vs.size=args.length:=by have:=hargs.length; simpa using this.symm
   refine (qa (ro:=none) (n:=0)).1 (callsIn_of_wp_marks hf hbody trivial (wpIn_mono (eV (N:=fn.ntmps) (D:=Dk.plain [] true w0.heap.size) (bF:=ay (aH.map some)) (J0:=J0) (cI:=cI) (w0:=w0) code c hc (.inr ⟨rfl,rfl,Nat.le_refl _⟩) _ _ h qy.no (fun B hB o n x hx=>Nat.lt_of_not_le (fun ho=>by
    have:=S0.rep o
    rw [dw (by have:=hbb B hB; simp; omega)] at this
    rw [this n] at hx; cases hx)) _ w0 ⟨J0,cI,⟨S0,fun t=>?_,?_,Marks.plain _ _,trivial,hlim⟩,Ext.refl ..⟩) (fun e a w hq=>?_)))
   ·have h1:=mc args vs.toList 0 t hargs
    simp only [Nat.zero_le,if_true,Nat.sub_zero] at h1
    have h2:(vs++Array.replicate (fn.ntmps-vs.size) Go.undef).getD t Go.undef=(vs.toList[t]?).getD Go.undef:=by
     simp only [Array.getD_eq_getD_getElem?,Array.getElem?_append,Array.getElem?_toList]
     by_cases ht:t<vs.size
     ·rw [if_pos ht]
     ·rw [if_neg ht,Array.getElem?_eq_none (Nat.le_of_not_lt ht),Array.getElem?_replicate]
      split <;> rfl
    rw [h2]; exact h1
   ·simp; omega
   ·have fin:∀ s,oS G (Dk.plain [] true w0.heap.size) fn.ntmps (ay (aH.map some)) J0 cI w0 s a w→rL rv aH.length r aA s→
     LeavesInM (fz none) 0 P fn a.tmps (fun e w'=>∃ v,e=.returned v∧bB G (ay (aH.map some)) (ay (aA.map some)) J0 cI w0 r v w') a.defers .returning w:=by
     intro s hA hB
     obtain ⟨ad,hB⟩:=hB
     replace hA:=hA.bX ad
     generalize bX ad s=s at hA hB
     obtain ⟨J,ι,S,E⟩:=hA.ex
     obtain ⟨rs,ρ,Z,XG,hk,hnd,hz,wH,hlen,e_,hid,hR⟩:=hB
     obtain ⟨Bs,_,hBn,hBd,hBm⟩:=S.defers
     have aaG:a.defers=Bs.map (fun b=>{ target:=.collected b,args:=#[] }):=by rw [hBd]; simp [Dk.plain]
     rw [aaG]
     refine tW (get:=s.get) ?_ Bs w hBn hBm S.store S.env E
     clear hA hBm
     have aba:=S.env
     have Sst:=S.store
     clear S E hBd aaG
     intro w Sst aba E
     obtain ⟨us,qX,zX⟩:=uH.sound Sst aba Nj XG
     have hm:(fn.results.mapM (DK a.tmps)).run P w=.ok us.toArray w:=by
      rw [Array.mapM_eq_mapM_toList,Sem.run_map,qX]; rfl
     have hv:∃ v,(results fn a.tmps).run P w=.ok v w∧dF J w ι (aF rs) v:=by
      refine ⟨if h:us.toArray.size=1 then us.toArray[0] else .tuple us.toArray,?_,?_⟩
      ·rw [sA,Sem.run_bind,hm]
       rfl
      ·have Nf:=zX.length
       cases rs with
       | nil=>
         cases us with
         | nil=>exact ⟨#[],rfl,trivial⟩
         | cons _ _=>simp at Nf
       | cons x xs=>
         cases us with
         | nil=>simp at Nf
         | cons u us=>
           cases xs with
           | nil=>
             cases us with
             | nil=>exact zX.1
             | cons _ _=>simp at Nf
           | cons y ys=>
             cases us with
             | nil=>simp at Nf
             | cons u2 us=>exact ⟨_,by simp,zX⟩
     obtain ⟨v,zN,uL⟩:=hv
     refine ⟨v,zN,v,rfl,?_⟩
     obtain ⟨S',hown⟩:=Sst.sub (base:=0) hnd hz hlen e_ hid wH
     refine ⟨_,_,S',l_ Sst _ _ v hR uL,⟨E.ev.os,E.ev.tape,E.ev.output,E.ev.size,E.ev.same,E.ev.shape,fun b hb=>.inl (E.ev.iW b hb),fun b hb=>?_,fun o n b hb=>?_⟩,?_⟩
     ·rcases hb with hb | ⟨z,VF,Dc⟩
      ·exact E.ev.wD b hb
      ·rcases E.own b ⟨z,Dc⟩ with h1 | h1
       ·exact .inr (.inr h1)
       ·exact .inr (.inl h1)
     ·have ho:o<aH.length:=by
       rcases Nat.lt_or_ge o aH.length with h1 | h1
       ·exact h1
       ·have:=S0.rep o
        rw [dw (by simpa using h1)] at this
        rw [this n] at hb; cases hb
      have abr:ρ[o]? = some o:=by
       have h1:(ρ.take aH.length)[o]? = some o:=by rw [hk]; simp [ho]
       rwa [List.getElem?_take_of_lt ho] at h1
      exact lF abr (E.ev.iY o n b hb)
     ·rintro b ⟨i,hb⟩
      obtain ⟨o,_,h2⟩:=hown i b hb
      exact E.own b ⟨o,h2⟩
    cases e with
    | normal=>obtain ⟨s,hA,hB⟩:=hq; exact fin s hA hB
    | ret=>obtain ⟨s,hA,hB⟩:=hq; exact fin s hA hB
    | exit i=>obtain ⟨_,s,hA,hB⟩:=hq; exact hB.elim
    | goto l=>exact hq.elim
    | panic ch=>obtain ⟨v,s,h1,h2,h3,hk⟩:=hq; exact hk.elim
    | outgrown=>exact hq.elim
  ·cases ja
 ·cases ja
theorem xJ {f:Nat} {fn:Func} {c:C} {rv:List RV} {args:List LV} {aH aA:List aG} {r:LV} (hf:P.funcs[f]? = some fn) (hn:fn.name≠ "runtime.NumGoroutine") (ja:aq P fn=some (N,c,rv)) (hl:args.length≤N)
  (h:vc P G c ⟨fc 0 args,aH.map some⟩ ⟨rL rv aH.length r aA,fun _ _=>False,rL rv aH.length r aA,qS,none⟩):br P G f args aH r aA:=
 Hz hf hn ja hl none h (fun _ h=>by cases h)
/-- AN ITERATOR KEEPS ITS CONTRACT, if its text's vc holds with the rounds in the place of yield. -/
theorem HX {f:Nat} {fn:Func} {c:C} {rv:List RV} {args:List LV} {ag:List (Option aG)} {Y:YO} {R:LV→List (Option aG)→Prop} (hf:P.funcs[f]? = some fn) (hn:fn.name≠ "runtime.NumGoroutine") (ja:aq P fn=some (N,c,rv)) (hl:args.length≤N) (GA:j9 c=true)
  (h:vc P G c ⟨(YS,jH)::fc 0 args,ag⟩ ⟨fun s=>R (s.get YS) s.ag∧rv=[],fun _ _=>False,fun s=>R (s.get YS) s.ag∧rv=[],Y,none⟩):Ft P G f args ag Y R:=by
 unfold aq at ja
 split at ja
 ·rename_i code hbody
  split at ja
  ·rename_i c' rv' hc Nj
   split at ja
   case isFalse=>cases ja
   rename_i hlim
   cases ja
   refine ⟨by simp [mC,hf,hn,hbody],fun D bF J0 cI w0 J ι w vs hds hmk S0 hargs E0 hys hY=>?_⟩
   have hvl:vs.size=args.length:=by have:=hargs.length; simpa using this.symm
   refine (qa (ro:=none) (n:=0)).1 (callsIn_of_wp hf hbody trivial (wpIn_mono (eV (N:=fn.ntmps) (D:=D) (bF:=bF) (J0:=J0) (cI:=cI) (w0:=w0) code c hc (.inl GA) _ _ h (hY _) (Lu.no _) _ w ⟨J,ι,⟨S0,fun t=>?_,?_,?_,?_,hlim⟩,E0⟩) (fun e a w hq=>?_)))
   ·have hsz:(vs++Array.replicate (fn.ntmps-vs.size) Go.undef).size=fn.ntmps:=by simp; omega
    show dF J w ι (if YS=t then jH else aO (fc 0 args) t) _
    by_cases ht:YS=t
    ·rw [if_pos ht]
     have:(vs++Array.replicate (fn.ntmps-vs.size) Go.undef).getD t Go.undef=Go.undef:=by
      rw [Array.getD_eq_getD_getElem?,Array.getElem?_eq_none (by omega)]; rfl
     rw [this]; rfl
    rw [if_neg ht]
    have h1:=mc args vs.toList 0 t hargs
    simp only [Nat.zero_le,if_true,Nat.sub_zero] at h1
    have h2:(vs++Array.replicate (fn.ntmps-vs.size) Go.undef).getD t Go.undef=(vs.toList[t]?).getD Go.undef:=by
     simp only [Array.getD_eq_getD_getElem?,Array.getElem?_append,Array.getElem?_toList]
     by_cases ht:t<vs.size
     ·rw [if_pos ht]
     ·rw [if_neg ht,Array.getElem?_eq_none (Nat.le_of_not_lt ht),Array.getElem?_replicate]
      split <;> rfl
    rw [h2]; exact h1
   ·simp; omega
   ·show Marks D [] _
    rw [← hds]; exact Marks.plain _ _
   ·exact hys
   ·have fin:∀ s,oS G D fn.ntmps bF J0 cI w0 s a w→R (s.get YS) s.ag∧rv=[]→
     a.defers=[]∧∃ v,(results fn a.tmps).run P w=.ok v w∧(fun (e:Ending) w'=>∃ v,e=.returned v∧∃ yv aC J' ι',R yv aC∧D.ys yv w'∧aN G J' w' ι' (ay aC)∧Ext bF (ay aC) J0 J' cI ι' w0 w') (.returned v) w:=by
     intro s hA hB
     obtain ⟨J,ι,S,E⟩:=hA.ex
     have hd:a.defers=[]:=by rw [S.defers.none hmk,hds]
     refine ⟨hd,?_⟩
     obtain ⟨hR,rfl⟩:=hB
     obtain ⟨us,qX,zX⟩:=uH.sound S.store S.env Nj (rs:=[]) rfl
     have hm:(fn.results.mapM (DK a.tmps)).run P w=.ok us.toArray w:=by
      rw [Array.mapM_eq_mapM_toList,Sem.run_map,qX]; rfl
     refine ⟨if h:us.toArray.size=1 then us.toArray[0] else .tuple us.toArray,?_,_,rfl,_,_,J,ι,hR,S.ys,S.store,E⟩
     rw [sA,Sem.run_bind,hm]
     rfl
    cases e with
    | normal=>obtain ⟨s,hA,hB⟩:=hq; exact fin s hA hB
    | ret=>obtain ⟨s,hA,hB⟩:=hq; exact fin s hA hB
    | exit i=>obtain ⟨_,s,hA,hB⟩:=hq; exact hB.elim
    | goto l=>exact hq.elim
    | panic ch=>obtain ⟨v,s,h1,h2,h3,hk⟩:=hq; exact hk.elim
    | outgrown=>exact hq.elim
  ·cases ja
 ·cases ja
end
end Dv
