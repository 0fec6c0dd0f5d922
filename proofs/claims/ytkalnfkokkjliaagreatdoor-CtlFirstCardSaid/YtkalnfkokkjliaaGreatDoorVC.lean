/- The logical machine and its plain laws: parts V22, V12, V13, V14, V15, V16, proved sound. -/
import Derived.Test.YtkalnfkokkjliaaGreatDoorVB
import Derived.Laws.BytesString
import Derived.OwnWalk
import Derived.MapKept
import Derived.Laws.LoneSync
import Derived.LoopN
import Derived.OwnWalkIn
import Derived.RangeFuncCalls
import Derived.RangeFuncIn
import Derived.RangeFuncNested
import Derived.RangeFuncBound
import Derived.Scope
import Derived.Below
import Derived.LoopNIn
import Derived.RangeFuncLeaves
set_option linter.unusedVariables false
set_option linter.unusedSimpArgs false
namespace Dv
open Go
def zy:Operand→Operand→Bool
 | .tmp i,.tmp j=>i==j
 | .const (.int k a),.const (.int k' b)=>k==k'&&a==b
 | _,_=>false
theorem A4 {x y:Operand} (h:zy x y=true) (a:Act):a.eval x=a.eval y:=by
 unfold zy at h
 split at h
 ·rename_i i j
  have:i=j:=by simpa using h
  rw [this]
 ·simp only [Bool.and_eq_true,beq_iff_eq] at h
  rw [h.1,h.2]
 ·cases h
def we (P:Program) (t:TypeId):Bool:=match P.underlying t with
 | some (.int .i64)=>true
 | _=>false
theorem BL {P:Program} {t:TypeId} (h:we P t=true):P.underlying t=some (.int .i64):=by
 unfold we at h
 split at h
 ·assumption
 ·cases h
def gu (P:Program):Op→Option M
 | .slice T x lo hi none=>match aI x,eR lo,eR hi,P.underlying T with
   | some x,some lo,some hi,some (.array n e)=>if dA P e=some 1 then some (.Ux n x lo hi) else none
   | _,_,_,_=>none
 | .call ⟨.builtin .copy,args,ts⟩=>match args.toList,ts.toList with
   | [x,y],[tx,ty]=>match aI x,aI y,P.underlying tx with
     | some x,some y,some (.slice e)=>if dA P e=some 1∧IF P ty=true then some (.T_ x y) else none
     | _,_,_=>none
   | _,_=>none
 | .makeSlice T l c=>match aI l,P.underlying T with
   | some n,some (.slice e)=>match nk P e,wK P e with
     | some z,some (size,bytes)=>if zy l c=true∧z.length=size then some (.sU e size bytes z n) else none
     | _,_=>none
   | _,_=>none
 | .convert S T x=>match aI x,P.underlying S,P.underlying T with
   | some x,some (.slice e),some .string=>match P.underlying e with
     | some (.int .u8)=>some (.UM x)
     | _=>none
   | _,_,_=>none
 | .unOp .xor _ x=>match aI x with
   | some x=>some (.UJ x)
   | none=>none
 | .call ⟨.builtin .clear,args,ts⟩=>match args.toList,ts.toList with
   | [x],[tx]=>match aI x,P.underlying tx with
     | some x,some (.slice e)=>match nk P e,dA P e with
       | some z,some n=>if z.length=n then some (.UK n z x) else none
       | _,_=>none
     | _,_=>none
   | _,_=>none
 | .makeMap _ none=>some .SP
 | .mapUpdate T m k x=>match aI m,aI k,aI x,P.underlying T with
   | some m,some k,some x,some (.map kt _)=>if we P kt=true then some (.JE m k x) else none
   | _,_,_,_=>none
 | .insert T m k x=>match aI m,aI k,aI x,P.underlying T with
   | some m,some k,some x,some (.map kt _)=>if we P kt=true then some (.JE m k x) else none
   | _,_,_,_=>none
 | .lookup T m k ok=>match aI m,aI k,P.underlying T with
   | some m,some k,some (.map kt et)=>match P.info? et with
     | some i=>match i.zero with
       | some z=>if we P kt=true then some (.Uy z ok m k) else none
       | none=>none
     | none=>none
   | _,_,_=>none
 | _=>none
/-- sync/atomic's loads and adds. -/
def wQ (P:Program):Op→Option M
 | .call ⟨.value (.func f),args,_⟩=>match P.funcs[f]? with
   | some fn=>if fn.body.isNone=true∧fn.origin = "" then
     (if fn.name = "sync/atomic.LoadInt64" then (match args.toList with
      | [x]=>match aI x with
        | some x=>some (.UN x)
        | none=>none
      | _=>none)
     else if fn.name = "sync/atomic.AddInt64" then (match args.toList with
      | [x,y]=>match aI x,aI y with
        | some x,some y=>some (.UO x y)
        | _,_=>none
      | _=>none)
     else none) else none
   | none=>none
 | _=>none
def kH (P:Program) (op:Op):Option I:=match wQ P op with
 | some m=>some (.more m)
 | none=>match cu P op with
   | some i=>some i
   | none=>match gu P op with
     | some m=>some (.more m)
     | none=>some (.more .stk)
theorem uh {P:Program} {op:Op} {i:I} (h:kH P op=some i):cu P op=some i∨∃ m,i=.more m∧(gu P op=some m∨wQ P op=some m∨m=.stk):=by
 unfold kH at h
 split at h
 ·rename_i m hm; cases h; exact .inr ⟨m,rfl,.inr (.inl hm)⟩
 ·split at h
  ·rename_i j hj; cases h; exact .inl hj
  ·split at h
   ·rename_i m hm; cases h; exact .inr ⟨m,rfl,.inl hm⟩
   ·cases h; exact .inr ⟨_,rfl,.inr (.inr rfl)⟩
theorem qv {P:Program} {op:Op} {f:bR} {as:List bR} (h:kH P op=some (.call f as)):cu P op=some (.call f as):=by
 rcases uh h with h | ⟨m,h,_⟩
 ·exact h
 ·cases h
theorem KY {fn:Func} (h:fn.name = "sync/atomic.AddInt64"):Extern.find fn=some (Extern.Atomic.update (Op.intArith .add) .i64 true):=by
 unfold Extern.find
 rw [h]
 kernel_rfl
theorem Hq {fn:Func} (h:fn.name = "sync/atomic.LoadInt64"):Extern.find fn=some (Extern.Atomic.loadT (.int .i64)):=by
 unfold Extern.find
 rw [h]
 kernel_rfl
theorem JC {fn:Func} (h:fn.name = "sync/atomic.AddInt64") (h2:fn.origin = ""):Extern.findNext fn=none:=by
 unfold Extern.findNext
 rw [h2,h]
 kernel_rfl
theorem GB {fn:Func} (h:fn.name = "sync/atomic.LoadInt64") (h2:fn.origin = ""):Extern.findNext fn=none:=by
 unfold Extern.findNext
 rw [h2,h]
 kernel_rfl
section
variable {P:Program} {G:Nat→Option (List DV)} {J:Nat→Prop} {w w':World} {ι:Nat→Nat→Option Nat} {obj:Nat→cv} {a:Act} {get:Nat→LV} {base:Nat}
theorem LR {T e:TypeId} {n:Nat} (hu:P.underlying T=some (.array n e)) (hs:dA P e=some 1) {b col l h:Nat} {lo hi:Option Value} (h1:BV lo 0 l) (h2:BV hi n h) (k1:l≤h) (k2:h≤n) (w:World) :
  (Instr.sliceAt T (.pointer (some ⟨b,col,none⟩)) lo hi none).run P w=.ok (.slice (some ⟨b,if n=l then col else col+l,none⟩) (h-l) (n-l)) w:=by
 obtain ⟨i,hi',hn⟩:=bV hs
 obtain ⟨m',p1,p2,hrun⟩:=iX (P:=P) (b:=false) (mx:=none) (cap:=n) h1 h2 (.inl ⟨rfl,rfl⟩) k1 k2 (Nat.le_refl _) (Nat.le_refl _) (.inl rfl) w
 have hm:m'=n:=by omega
 subst hm
 have hsz:(Go.sizeOf e).run P w=.ok 1 w:=by simp [Go.sizeOf,typeInfo,hi',hn]
 simp only [Instr.sliceAt,Sem.run_bind,run_underlying hu w,Result.andThen_ok,Instr.sureAddr,Sem.run_pure,hrun,hsz]
 split <;> simp [Addr.add_mid]
theorem Pb {m:M} {e:eN} (h:eU G get obj base m=some e):∀ p∈e.wr,∃ ob,obj p.1=.live ob:=by
 intro p hp
 cases m <;> simp only [eU] at h <;> (repeat' split at h) <;> (try (cases h; done)) <;> cases h <;> first
  | (cases hp; done)
  | (simp only [List.mem_singleton] at hp; subst hp; exact ⟨_,by assumption⟩)
theorem Gd (S:aJ G J w ι obj) (he:∀ t,cQ J w ι (get t) (a.tmps.getD t Go.undef)) {X:Operand} {x:bR} (hx:aI X=some x) {lo hi:Option Operand} {lo' hi':Option bR} (hl:eR lo=some lo') (hh:eR hi=some hi')
  {T el:TypeId} {n:Nat} (hu:P.underlying T=some (.array n el)) (hs:dA P el=some 1) {e:eN} (hE:eU G get obj base (.Ux n x lo' hi')=some e) :
  ∃ v,(Instr.sliceAt T (a.eval X) (lo.map a.eval) (hi.map a.eval) none).run P w=.ok v w∧cQ J w ι e.r v∧e.nw=[]∧e.wr=[]:=by
 have bY:=aT S he hx
 simp only [eU] at hE
 split at hE
 ·rename_i o col dR
  rw [dR] at bY
  obtain ⟨b,hb,hv⟩:=bY
  split at hE
  ·rename_i et cells ho
   split at hE
   ·rename_i l h b1 b2
    split at hE
    ·rename_i hc
     obtain ⟨k1,k2,k3⟩:=hc
     cases hE
     have hrun:=LR (P:=P) hu hs (b:=b) (col:=col) (jh S he hl b1) (jh S he hh b2) k1 k2 w
     refine ⟨_,by rw [hv]; exact hrun,?_,rfl,rfl⟩
     have h0:=S.rep o
     rw [ho] at h0
     obtain ⟨⟨b',C,m1,m2,m3⟩,_⟩:=h0
     rw [hb] at m1; cases m1
     by_cases hz:n=l
     ·left
      rw [show n-l=0 by omega,show h-l=0 by omega]
      exact ⟨rfl,_,rfl⟩
     ·right
      refine ⟨b,n-l,et,C.size,hb,by rw [if_neg hz,Nat.mul_one],by omega,by simp [World.shape?,m2],?_⟩
      have:=m3.length
      simp at this; omega
    ·cases hE
   ·cases hE
  ·cases hE
 ·cases hE
theorem tK {α:Type} {rows news:List (List α)} {esz lo:Nat} (h1:∀ r∈rows,r.length=esz) (h2:∀ r∈news,r.length=esz):(splice rows lo news).flatten=splice rows.flatten (lo*esz) news.flatten:=by
 have key:∀ (l:List (List α)) (n:Nat),(∀ r∈l,r.length=esz)→(l.take n).flatten=l.flatten.take (n*esz)∧(l.drop n).flatten=l.flatten.drop (n*esz):=by
  intro l
  induction l with
  | nil=>intro n _; simp
  | cons r l ih=>
    intro n hl
    have hr:=hl r (by simp)
    cases n with
    | zero=>simp
    | succ n=>
      obtain ⟨i1,i2⟩:=ih n (fun x hx=>hl x (by simp [hx]))
      rw [List.take_succ_cons,List.drop_succ_cons,List.flatten_cons,List.flatten_cons,i1,i2,Nat.add_mul,Nat.one_mul,List.take_append,List.drop_append]
      rw [show n*esz+esz-r.length=n*esz by omega,List.take_of_length_le (l:=r) (by omega),List.drop_eq_nil_of_le (as:=r) (by omega)]
      simp
 have hlen:news.flatten.length=news.length*esz:=by
  clear key
  induction news with
  | nil=>simp
  | cons r l ih=>
    have hr:=h2 r (by simp)
    rw [List.flatten_cons,List.length_append,ih (fun x hx=>h2 x (by simp [hx])),hr,List.length_cons,Nat.add_mul]; omega
 unfold splice
 rw [List.flatten_append,List.flatten_append,(key rows lo h1).1,(key rows (lo+news.length) h1).2,hlen,Nat.add_mul]
theorem a_.setRows (S:aJ G J w ι obj) {o:Nat} {et:TypeId} {esz:Nat} {rows news:List (List DV)} {lo:Nat} {vs:List Value} (ho:obj o=.live (.dat et esz rows))
  (h:bq J w news.flatten vs) (xz:∀ v∈vs,v.oneCell'=true) (hn:∀ r∈news,r.length=esz) (hl:lo+news.length≤rows.length) (hne:rows≠[]) :
  ∃ b,ι o rows.length=some b∧w.there b (lo*esz) vs.length∧
    a_ G obj (fun k=>if k=o then .live (.dat et esz (splice rows lo news)) else obj k) J ι w .undef Go.undef (w.setCells b (lo*esz) vs):=by
 have h0:=S.rep o
 rw [ho] at h0
 obtain ⟨⟨hsome,BW⟩,hkey⟩:=h0
 obtain ⟨b,h1⟩:=Option.isSome_iff_exists.1 (hsome.resolve_left hne)
 obtain ⟨⟨C,h2⟩,h3⟩:=BW b h1
 have hown:Own ι obj b:=⟨o,by rw [ho]; exact h1⟩
 have E:Ev (Own ι obj) J J ι ι w (w.setCells b (lo*esz) vs):=Ev.setCells J w b _ vs hown (fun _ _ _ h=>h)
 obtain ⟨WB,hfl⟩:=h3.flat
 have hrl:∀ r∈rows,r.length=esz:=fun r hr=>by
  obtain ⟨i,hi⟩:=List.getElem?_of_mem hr
  exact (h3.get hi).1
 obtain ⟨us,u1,u2,u3⟩:=WB.vals
 have Kj:us.length=rows.length*esz:=by rw [← hfl]; exact u1.length.symm
 have hnl:news.flatten.length=news.length*esz:=by
  have:=tK (rows:=([]:List (List DV))) (news:=news) (lo:=0) (by simp) hn
  clear this
  clear h hl
  induction news with
  | nil=>simp
  | cons r l ih=>
    have hr:=hn r (by simp)
    rw [List.flatten_cons,List.length_append,ih (fun x hx=>hn x (by simp [hx])),hr,List.length_cons,Nat.add_mul]; omega
 have hvl:vs.length=news.length*esz:=by rw [← hnl]; exact h.length.symm
 have hroom:lo*esz+vs.length≤us.length:=by
  rw [hvl,Kj,← Nat.add_mul]; exact Nat.mul_le_mul_right _ hl
 have p_:w.there b (lo*esz) vs.length:=fun j hj=>by
  have hj2:lo*esz+j<us.length:=by omega
  have:=u3 (lo*esz+j) us[lo*esz+j] (List.getElem?_eq_getElem hj2)
  rw [Nat.zero_add] at this
  refine ⟨by rw [this]; rfl,?_⟩
  simp [World.frozen?,h2]
 have hout:∀ x:Addr,x.block=b→(x.off<lo*esz∨lo*esz+vs.length≤x.off)→(w.setCells b (lo*esz) vs).cell? x=w.cell? x:=fun x hx hj=>
  World.cell?_setCells_out b vs _ w x (fun _ _=>hj)
 have hin:=World.rangeAt_setCells_same w b (lo*esz) vs p_
 have hrows:bC J (w.setCells b (lo*esz) vs) esz (splice rows lo news) b 0:=by
  refine bC.zf (fun r hr=>?_) ?_
  ·simp only [splice,List.mem_append] at hr
   rcases hr with (hr | hr) | hr
   ·exact hrl r (List.mem_of_mem_take hr)
   ·exact hn r hr
   ·exact hrl r (List.mem_of_mem_drop hr)
  ·rw [tK hrl hn]
   have e1:bI J w ι (splice (rows.flatten.map .d) (lo*esz) (news.flatten.map .d)) (splice us (lo*esz) vs):=bI.splice _ (bq.ux u1 u2) (bq.ux h xz)
   have e2:splice (rows.flatten.map LV.d) (lo*esz) (news.flatten.map LV.d)=(splice rows.flatten (lo*esz) news.flatten).map .d:=by simp only [splice,List.map_append,List.map_take,List.map_drop,List.length_map]
   rw [e2] at e1
   have e3:=(e1.ev S E).xC
   have back:∀ {w0:World} (xs:List DV) (ys:List Value),bW J w0 ι (xs.map .d) ys→bq J w0 xs ys:=fun {w0} xs=>by
    induction xs with
    | nil=>intro ys h; cases ys with
      | nil=>trivial
      | cons _ _=>exact h.elim
    | cons x xs ih=>intro ys h; cases ys with
      | nil=>exact h.elim
      | cons y ys=>exact ⟨h.1,ih ys h.2⟩
   refine cU.of (vs:=splice us (lo*esz) vs) (back _ _ e3) (fun v hv=>e1.one v hv) (fun j v hv=>?_)
   rw [Nat.zero_add]
   by_cases hj1:j<lo*esz
   ·rw [hout _ rfl (.inl hj1)]
    have:=u3 j v (by
     rw [← hv]
     simp only [splice,List.append_assoc]
     rw [List.getElem?_append_left (by simp; omega),List.getElem?_take_of_lt hj1])
    rwa [Nat.zero_add] at this
   ·by_cases hj2:j<lo*esz+vs.length
    ·have:=hin (j-lo*esz) v (by
      rw [← hv]
      simp only [splice]
      rw [List.getElem?_append_left (by simp; omega),List.getElem?_append_right (by simp; omega)]
      congr 1; simp; omega)
     rwa [show lo*esz+(j-lo*esz)=j by omega] at this
    ·rw [hout _ rfl (.inr (by show _≤j; omega))]
     have:=u3 j v (by
      rw [← hv]
      simp only [splice]
      rw [List.getElem?_append_right (by simp; omega),List.getElem?_drop]
      congr 1; simp; omega)
     rwa [Nat.zero_add] at this
 obtain ⟨C',k1,k2⟩:∃ C',(w.setCells b (lo*esz) vs).heap[b]? = some (.cells C' et (0,0))∧True:=by
  have hs:lo*esz+vs.length≤C.size∨vs.length=0:=by
   rcases Nat.eq_zero_or_pos vs.length with hz | hz
   ·exact .inr hz
   ·left
    have:=(p_ (vs.length-1) (by omega)).1
    simp only [World.cell?,h2] at this
    simp at this
    omega
  rcases hs with hs | hs
  ·obtain ⟨C',k1,_⟩:=gr vs _ w C h2 hs; exact ⟨C',k1,trivial⟩
  ·have:vs=[]:=by simpa using hs
   subst this; exact ⟨C,h2,trivial⟩
 have CG:(splice rows lo news).length=rows.length:=iL _ _ _ (by omega)
 refine ⟨b,h1,p_,?_⟩
 have hT:=aJ.qK S o (.live (.dat et esz (splice rows lo news))) E (fun _ _ _=>rfl) (fun k hk hn=>heap_setCells_other (fun e=>hn (by rw [ho,e]; exact h1)) vs _ w)
  ⟨⟨.inr (by rw [CG]; simp [h1]),fun k hk=>by
    rw [CG,h1] at hk; cases hk
    exact ⟨⟨C',k1⟩,hrows⟩⟩,fun n hn=>by rw [CG] at hn; exact hkey n hn⟩
  (fun k hk=>.inl (by
   rw [ho]
   simp only [cv.own,aD.own,CG] at hk ⊢
   exact hk))
 exact ⟨J,ι,hT.1,rfl,hT.2⟩
theorem HI (S:aJ G J w ι obj) (he:∀ t,cQ J w ι (get t) (a.tmps.getD t Go.undef)) {X Y:Operand} {x y:bR} (hx:aI X=some x) (hy:aI Y=some y) {tx ty rt el:TypeId} (hu:P.underlying tx=some (.slice el)) (hs:dA P el=some 1)
  (hty:IF P ty=true) {e:eN} (hE:eU G get obj base (.T_ x y)=some e) :
  ∃ v w',(Builtin.copy_ #[tx,ty] rt #[a.eval X,a.eval Y]).run P w=.ok v w'∧a_ G obj (bJ obj base e) J ι w e.r v w':=by
 have bY:=aT S he hx
 have jD:=aT S he hy
 have hk:(∃ e',P.underlying ty=some (.slice e'))∨P.underlying ty=some .string:=by
  unfold IF at hty
  split at hty
  ·rename_i e' h; exact .inl ⟨_,h⟩
  ·rename_i h; exact .inr h
  ·cases hty
 simp only [eU] at hE
 split at hE
 ·rename_i new rd hsrc
  obtain ⟨news,hS,hD,hrl⟩:=sF S hk hsrc jD
  split at hE
  ·rename_i o lo len dR
   rw [dR] at bY
   split at hE
   ·rename_i et cells ho
    split at hE
    ·rename_i hc
     obtain ⟨hc,hnl⟩:=hc
     cases hE
     have hnews:=hS.newsLen
     rw [Nat.mul_one] at hnews
     have hfl:(new.flatten.map LV.d).length=new.length:=by rw [List.length_map,hD.length,hnews]
     obtain ⟨b,hb,Il,hA⟩:=a_.C_ S (col:=lo) (cs:=new.flatten.map LV.d) (vs:=news) ho (hD.ux hS.one) (by rw [hfl]; omega)
     refine ⟨.int .i64 new.length,w.setCells b lo news,?_,?_⟩
     ·obtain ⟨i,hi',hn⟩:=bV hs
      have hsz:∀ w:World,(Go.sizeOf el).run P w=.ok 1 w:=fun w=>by simp [Go.sizeOf,typeInfo,hi',hn]
      have hst:=run_storeCells_cells (P:=P) b lo news 0 w (fun j hj=>by simpa using (Il j hj).1) (fun j hj=>by simpa using (Il j hj).2) hS.one
      simp only [Nat.add_zero] at hst
      rcases bY with ⟨hz,sa,hv⟩ | ⟨b',cap,et',C,hb',hv,hcap,_,_⟩
      ·have hn0:news=[]:=List.eq_nil_of_length_eq_zero (by omega)
       have hl0:new.length=0:=by omega
       subst hn0
       have hcl:=hS.cells
       rw [hl0] at hcl
       cases sa with
       | none=>simp [Builtin.copy_,run_underlying hu,hv,hS.len,hl0,hsz,hcl,goInt,World.setCells]
       | some sa=>simp [Builtin.copy_,run_underlying hu,hv,hS.len,hl0,hsz,hcl,goInt,storeCells,World.setCells]
      ·rw [hb] at hb'; cases hb'
       simp [Builtin.copy_,run_underlying hu,hv,hS.len,hsz,hS.cells,goInt,Nat.min_eq_left hnl,hst]
     ·have e1:bJ obj base { r:=.int new.length,rd:=o::rd,wr:=[(o,.box et (splice cells lo (new.flatten.map .d)))] } = fun k=>if k=o then .live (.box et (splice cells lo (new.flatten.map .d))) else obj k:=by
       funext k; simp only [bJ,oU,cF]
      rw [e1]
      obtain ⟨J',ι',h1,_,h3⟩:=hA
      exact ⟨J',ι',h1,rfl,h3⟩
    ·cases hE
   ·cases hE
  ·rename_i o n lo len _ dR
   rw [dR] at bY
   split at hE
   ·rename_i et rows ho
    split at hE
    ·rename_i hc
     obtain ⟨hn,hc,hnl,hne⟩:=hc
     subst hn
     cases hE
     have hnews:=hS.newsLen
     rw [Nat.mul_one] at hnews
     obtain ⟨b,hb,Il,hA⟩:=a_.setRows S (lo:=lo) (news:=new) (vs:=news) ho hD hS.one hrl (by omega) hne
     rw [Nat.mul_one] at Il hA
     refine ⟨.int .i64 new.length,w.setCells b lo news,?_,?_⟩
     ·obtain ⟨i,hi',hn⟩:=bV hs
      have hsz:∀ w:World,(Go.sizeOf el).run P w=.ok 1 w:=fun w=>by simp [Go.sizeOf,typeInfo,hi',hn]
      have hst:=run_storeCells_cells (P:=P) b lo news 0 w (fun j hj=>by simpa using (Il j hj).1) (fun j hj=>by simpa using (Il j hj).2) hS.one
      simp only [Nat.add_zero] at hst
      rcases bY with ⟨hz,sa,hv⟩ | ⟨b',cap,et',C,hb',hv,hcap,_,_⟩
      ·have hn0:news=[]:=List.eq_nil_of_length_eq_zero (by omega)
       have hl0:new.length=0:=by omega
       subst hn0
       have hcl:=hS.cells
       rw [hl0] at hcl
       cases sa with
       | none=>simp [Builtin.copy_,run_underlying hu,hv,hS.len,hl0,hsz,hcl,goInt,World.setCells]
       | some sa=>simp [Builtin.copy_,run_underlying hu,hv,hS.len,hl0,hsz,hcl,goInt,storeCells,World.setCells]
      ·rw [hb] at hb'; cases hb'
       rw [Nat.mul_one] at hv
       simp [Builtin.copy_,run_underlying hu,hv,hS.len,hsz,hS.cells,goInt,Nat.min_eq_left hnl,hst]
     ·have e1:bJ obj base { r:=.int new.length,rd:=o::rd,wr:=[(o,.dat et 1 (splice rows lo new))] } = fun k=>if k=o then .live (.dat et 1 (splice rows lo new)) else obj k:=by
       funext k; simp only [bJ,oU,cF]
      rw [e1]
      obtain ⟨J',ι',h1,_,h3⟩:=hA
      exact ⟨J',ι',h1,rfl,h3⟩
    ·cases hE
   ·cases hE
  ·cases hE
 ·cases hE
theorem LS {T e:TypeId} {size bytes:Nat} (hu:P.underlying T=some (.slice e)) (hel:wK P e=some (size,bytes)) {k:IntKind} {n:Nat} (hn:n*bytes≤70368744177664) (h63:(n:Int)≤9223372036854775807) (w:World) :
  ∃ z:Value,(zeroValue e).run P w=.ok z w∧z.cells.size=size∧(Instr.makeSlice T (.int k n) (.int k n)).run P w=.ok (.slice (some ⟨w.heap.size,0,none⟩) n n) (w.alloc (.cells ((Array.range (n*size)).map ((if n*size=0 then #[] else z.cells)[· % (if n*size=0 then #[] else z.cells).size]!)) e)):=by
 obtain ⟨i,z,hi,hz,hsz,hby,VL,_,hpos⟩:=mC hel
 have R8:∀ w:World,(zeroValue e).run P w=.ok z w:=fun w=>by simp [zeroValue,typeInfo,hi,hz]
 refine ⟨z,R8 w,by rw [VL,hsz],?_⟩
 have Kl:∀ w:World,(Go.sizeOf e).run P w=.ok size w:=fun w=>by simp [Go.sizeOf,typeInfo,hi,hsz]
 have wn:IntKind.i64.wrap (n:Int)=n:=by rw [IntKind.wrap_i64]; omega
 have n1:¬ (n:Int)<0:=by omega
 have hb':(bytes:Int)*(n:Int)≤70368744177664:=by
  have:((n*bytes:Nat):Int)≤70368744177664:=by omega
  rw [Int.mul_comm,← Int.natCast_mul]; exact this
 have n2:¬ (281474976710656<(bytes:Int)*n):=by omega
 have n3:¬ (n:Int)<(n:Int):=by omega
 by_cases h0:n*size=0
 ·simp [Instr.makeSlice,run_underlying hu,typeInfo,hi,hby,asInt,asIntOf,wn,n1,n2,n3,Kl,h0,newRow,askRoom]
 ·simp [Instr.makeSlice,run_underlying hu,typeInfo,hi,hby,asInt,asIntOf,wn,n1,n2,n3,Kl,h0,R8,newRow,askRoom]
theorem wI {α:Type} (l:List α):∀ (n j:Nat),j<n*l.length→((List.replicate n l).flatten)[j]? = l[j % l.length]?
 | 0,j,h=>by simp at h
 | n+1,j,h=>by
   rw [List.replicate_succ,List.flatten_cons]
   by_cases hj:j<l.length
   ·rw [List.getElem?_append_left hj,Nat.mod_eq_of_lt hj]
   ·have h2:j-l.length<n*l.length:=by rw [Nat.add_mul] at h; omega
    rw [List.getElem?_append_right (by omega),wI l n (j-l.length) h2]
    congr 1
    rw [Nat.mod_eq_sub_mod (by omega:l.length≤j)]
theorem B3 {α:Type} (l:List α) (n:Nat):(List.replicate n l).flatten.length=n*l.length:=by
 induction n with
 | zero=>simp
 | succ n ih=>rw [List.replicate_succ,List.flatten_cons,List.length_append,ih,Nat.add_mul]; omega
theorem pW (J:Nat→Prop) (w:World):∀ l:List Value,bq J w (l.map .val) l
 | []=>trivial
 | v::l=>⟨rfl,pW J w l⟩
theorem sL {J:Nat→Prop} {w:World} {z:List DV} {vs:List Value} (h:bq J w z vs):∀ n,bq J w (List.replicate n z).flatten (List.replicate n vs).flatten
 | 0=>trivial
 | n+1=>by rw [List.replicate_succ,List.replicate_succ,List.flatten_cons,List.flatten_cons]; exact bq.append h (sL h n)
theorem GJ (S:aJ G J w ι obj) (he:∀ t,cQ J w ι (get t) (a.tmps.getD t Go.undef)) {X Y:Operand} {x:bR} (hx:aI X=some x) (hXY:zy X Y=true) {T el:TypeId} {size bytes:Nat} {z:List DV} (hu:P.underlying T=some (.slice el)) (hel:wK P el=some (size,bytes))
  (hz:nk P el=some z) (hzl:z.length=size) (hb:obj base=.free) {e:eN} (hE:eU G get obj base (.sU el size bytes z x)=some e) :
  ∃ v w',(Instr.makeSlice T (a.eval X) (a.eval Y)).run P w=.ok v w'∧a_ G obj (bJ obj base e) J ι w e.r v w':=by
 have bY:=aT S he hx
 simp only [eU] at hE
 split at hE
 ·rename_i k n dR
  rw [dR] at bY
  have hX:a.eval X=.int k n:=bY
  split at hE
  ·rename_i hc
   obtain ⟨k1,k2,k3⟩:=hc
   cases hE
   obtain ⟨n,rfl⟩:=Int.eq_ofNat_of_zero_le k1
   rw [Int.toNat_natCast] at k2
   obtain ⟨zv,h1,h2,h3⟩:=LS (P:=P) hu hel (k:=k) k2 k3 w
   have VK:z=zv.cells.toList.map .val∧∀ u∈zv.cells.toList,u.oneCell'=true:=by
    unfold nk at hz
    split at hz
    ·rename_i i hi
     split at hz
     ·rename_i v hv
      split at hz
      ·rename_i hall
       cases hz
       have R8:(zeroValue el).run P w=.ok v w:=by simp [zeroValue,typeInfo,hi,hv]
       rw [R8] at h1
       cases h1
       exact ⟨rfl,fun u hu=>by
        rw [Array.all_eq_true_iff_forall_mem] at hall
        exact hall u (by simpa using hu)⟩
      ·cases hz
     ·cases hz
    ·cases hz
   refine ⟨_,_,by rw [hX,← A4 hXY a,hX]; exact h3,?_⟩
   have hcl:zv.cells.toList.length=size:=by rw [Array.length_toList,h2]
   generalize hC:((Array.range (n*size)).map ((if n*size=0 then #[] else zv.cells)[· % (if n*size=0 then #[] else zv.cells).size]!))=C
   have hCs:C.size=n*size:=by rw [← hC]; simp
   have:=a_.dat (G:=G) (J:=J) (w:=w) (ι:=ι) S hb el size (List.replicate n z) C w.drawn n (by simp) (by rw [hCs]; exact Nat.le_refl _) (fun ι' E=>by
    refine bC.ru (vs:=(List.replicate n zv.cells.toList).flatten) (sL (by rw [VK.1]; exact pW _ _ _) n) (fun u hu=>?_) (fun r hr=>by rw [List.eq_of_mem_replicate hr]; exact hzl) (dB { w with drawn:=w.drawn } _) (fun j u hu=>?_)
    ·obtain ⟨l,hl,hm⟩:=List.mem_flatten.1 hu
     rw [List.eq_of_mem_replicate hl] at hm
     exact VK.2 u hm
    ·have hj:j<n*size:=by
      have:=(List.getElem?_eq_some_iff.1 hu).1
      rw [B3,hcl] at this; exact this
     rw [wI _ _ _ (by rw [hcl]; exact hj),hcl] at hu
     have hpos:0<size:=Nat.pos_of_ne_zero (fun h0=>by rw [h0] at hj; simp at hj)
     have hm:j % size<zv.cells.size:=by rw [h2]; exact Nat.mod_lt _ hpos
     rw [← hC]
     simp [show ¬ (n*size=0) by omega,h2,hj]
     rw [Array.getElem?_toList] at hu
     rw [getElem!_pos zv.cells (j % size) hm]
     rw [Array.getElem?_eq_getElem hm] at hu
     exact (Option.some.inj hu))
   simp only [List.length_replicate] at this
   exact this
  ·cases hE
 ·cases hE
theorem F_ (S:aJ G J w ι obj) {esz:Nat} {y:LV} {v:Value} {new:List (List DV)} {rd:List Nat} (h:aU obj esz y=some (new,rd)) (hy:cQ J w ι y v) (hs:∀ s,y≠.d (.val (.string s))) :
  ∃ sa cap,v=.slice sa new.length cap∧(sa=none→new=[]):=by
 cases y with
 | d x=>
   cases x with
   | dY e rows=>
     simp only [aU] at h
     split at h
     ·cases h
      obtain ⟨a,n,cap,rfl,hn,hc,hr⟩:=hy
      subst hn
      refine ⟨a,cap,rfl,fun ha=>?_⟩
      rcases hr with hr | ⟨b,off,hb,_⟩
      ·exact hr
      ·rw [ha] at hb; cases hb
     ·cases h
   | val u=>
     have Yh:v=u:=hy
     subst Yh
     cases v with
     | slice sa n c=>
       cases sa with
       | some _=>simp [aU] at h
       | none=>
         cases n with
         | succ _=>simp [aU] at h
         | zero=>
           cases c with
           | succ _=>simp [aU] at h
           | zero=>simp [aU] at h; exact ⟨none,0,by rw [h.1]; rfl,fun _=>h.1⟩
     | string s=>exact absurd rfl (hs s)
     | _=>simp [aU] at h
   | fn f a b=>simp [aU] at h
   | fe t y=>simp [aU] at h
   | agg cs=>simp [aU] at h
 | sl o n e lo len=>
   have hlen:new.length=len:=by
    simp only [aU] at h
    split at h
    ·split at h
     ·rename_i hc; cases h; simp; omega
     ·cases h
    ·split at h
     ·rename_i hc; cases h; simp; omega
     ·cases h
    ·split at h
     ·rename_i hc
      split at h
      ·rename_i ds hds; cases h; rw [List.length_map,u7 hds]; simp; omega
      ·cases h
     ·cases h
    ·cases h
   rcases hy with ⟨hz,a,rfl⟩ | ⟨b,cap,et',C,hb,rfl,hcap,_,_⟩
   ·exact ⟨a,0,by rw [hlen,hz],fun _=>List.eq_nil_of_length_eq_zero (by omega)⟩
   ·exact ⟨_,cap,by rw [hlen],fun h=>by cases h⟩
 | top=>simp [aU] at h
 | c_=>simp [aU] at h
 | ptr o c=>simp [aU] at h
 | rp o n e r c=>simp [aU] at h
 | ip r c=>simp [aU] at h
 | fn f a b=>simp [aU] at h
 | agg cs=>simp [aU] at h
 | dP cs=>simp [aU] at h
 | fe t y=>simp [aU] at h
 | yl o=>simp [aU] at h
 | mr o=>simp [aU] at h
theorem rV:∀ {rows:List (List DV)} {bs:List UInt8} {vs:List Value},bytesOf rows=some bs→bq J w rows.flatten vs→∃ ns:List Int,vs=ns.map (Value.int .u8)∧bs=ns.map fun n=>UInt8.ofNat n.toNat
 | [],bs,vs,h,hv=>by
   simp only [bytesOf] at h; cases h
   cases vs with
   | nil=>exact ⟨[],rfl,rfl⟩
   | cons _ _=>exact hv.elim
 | r::rows,bs,vs,h,hv=>by
   unfold bytesOf at h
   split at h
   ·cases ‹_::_=[]›
   ·rename_i n r' heq
    cases heq
    split at h
    ·rename_i bs' Sh
     cases h
     simp only [List.flatten_cons,List.cons_append,List.nil_append] at hv
     cases vs with
     | nil=>exact hv.elim
     | cons v vs=>
       obtain ⟨h1,h2⟩:=hv
       obtain ⟨ns,e1,e2⟩:=rV Sh h2
       have h1:v=.int .u8 n:=h1
       exact ⟨n::ns,by rw [h1,e1]; rfl,by rw [e2]; rfl⟩
    ·cases h
   ·cases h
theorem foldl_push:∀ (ns:List Int) (s:ByteArray),ns.foldl (fun r n=>r.push (UInt8.ofNat n.toNat)) s=⟨(s.data.toList++ns.map fun n=>UInt8.ofNat n.toNat).toArray⟩
 | [],s=>by cases s; simp
 | n::ns,s=>by
   rw [List.foldl_cons,foldl_push ns]
   cases s
   simp [ByteArray.push]
theorem HS (S:aJ G J w ι obj) (he:∀ t,cQ J w ι (get t) (a.tmps.getD t Go.undef)) {X:Operand} {x:bR} (hx:aI X=some x) {T T2 el:TypeId} (hu:P.underlying T=some (.slice el)) (hel:P.underlying el=some (.int .u8)) (hs:P.underlying T2=some .string)
  {e:eN} (hE:eU G get obj base (.UM x)=some e) :
  ∃ v,(convert T T2 (a.eval X)).run P w=.ok v w∧cQ J w ι e.r v∧e.nw=[]∧e.wr=[]:=by
 have bY:=aT S he hx
 simp only [eU] at hE
 split at hE
 ·cases hE
 ·rename_i Yy
  split at hE
  ·rename_i rows rd hsrc
   split at hE
   ·rename_i bs Sh
    cases hE
    obtain ⟨news,hS,hD,_⟩:=sF S (.inl ⟨_,hu⟩) hsrc bY
    obtain ⟨sa,cap,hv,kW⟩:=F_ S hsrc bY (fun s h=>Yy s h)
    obtain ⟨ns,e1,e2⟩:=rV Sh hD
    refine ⟨.string ⟨bs.toArray⟩,?_,rfl,rfl,rfl⟩
    rw [hv,run_convert_bytes_string w T T2 el sa _ cap hu hel hs]
    cases sa with
    | none=>
      have h0:=kW rfl
      subst h0
      simp only [bytesOf] at Sh
      cases Sh
      simp [Conv.bytesToString]
      rfl
    | some sa=>
      have hc:=hS.cells
      rw [hv,e1] at hc
      have Wp:(loadCells sa rows.length).run P w=.ok (ns.map (Value.int .u8)).toArray w:=by
       simpa [Builtin.firstCells] using hc
      rw [run_bytesToString w sa _ cap ns Wp,foldl_push,e2]
      rfl
   ·cases hE
  ·cases hE
theorem FY (z:Array Value) (n:Nat):(Builtin.zeroCells z n).toList=(List.replicate n z.toList).flatten:=by
 apply List.ext_getElem?
 intro j
 by_cases hj:j<n*z.size
 ·rw [wI _ _ _ (by simpa using hj),Array.length_toList]
  have hpos:0<z.size:=Nat.pos_of_ne_zero (fun h0=>by rw [h0] at hj; simp at hj)
  have hm:j % z.size<z.size:=Nat.mod_lt _ hpos
  unfold Builtin.zeroCells
  simp only [Array.toList_map,Array.toList_range,List.getElem?_map,List.getElem?_range hj,Option.map_some]
  rw [getElem!_pos z (j % z.size) hm,Array.getElem?_toList,Array.getElem?_eq_getElem hm]
 ·rw [List.getElem?_eq_none (by rw [Array.length_toList,size_zeroCells]; omega),List.getElem?_eq_none (by rw [B3,Array.length_toList]; omega)]
theorem CL {el:TypeId} {z:List DV} (hz:nk P el=some z):∃ zv:Value,z=zv.cells.toList.map .val∧(∀ u∈zv.cells.toList,u.oneCell'=true)∧∀ w:World,(zeroValue el).run P w=.ok zv w:=by
 unfold nk at hz
 split at hz
 ·rename_i i hi
  split at hz
  ·rename_i v hv
   split at hz
   ·rename_i hall
    cases hz
    exact ⟨v,rfl,fun u hu=>by
     rw [Array.all_eq_true_iff_forall_mem] at hall
     exact hall u (by simpa using hu),fun w=>by simp [zeroValue,typeInfo,hi,hv]⟩
   ·cases hz
  ·cases hz
 ·cases hz
theorem HM (S:aJ G J w ι obj) (he:∀ t,cQ J w ι (get t) (a.tmps.getD t Go.undef)) {X:Operand} {x:bR} (hx:aI X=some x) {tx rt el:TypeId} {n:Nat} {z:List DV} (hu:P.underlying tx=some (.slice el)) (hz:nk P el=some z) (hzl:z.length=n)
  {e:eN} (hE:eU G get obj base (.UK n z x)=some e) :
  ∃ v w',(Builtin.clear_ #[tx] rt #[a.eval X]).run P w=.ok v w'∧a_ G obj (bJ obj base e) J ι w e.r v w':=by
 have bY:=aT S he hx
 simp only [eU] at hE
 split at hE
 ·rename_i o m e0 lo len dR
  rw [dR] at bY
  split at hE
  ·rename_i et e' rows ho
   split at hE
   ·rename_i hc
    obtain ⟨rfl,rfl,rfl,hl,hpos⟩:=hc
    cases hE
    obtain ⟨zv,VK,hone,Ye⟩:=CL hz
    have hcl:zv.cells.toList.length=e':=by rw [← hzl,VK,List.length_map]
    have hne:rows≠[]:=by intro h0; rw [h0] at hl; simp at hl; omega
    obtain ⟨b,hb,Il,hA⟩:=a_.setRows S (lo:=lo) (news:=List.replicate len z) (vs:=(List.replicate len zv.cells.toList).flatten) ho (sL (by rw [VK]; exact pW _ _ _) len)
     (fun u hu=>by
      obtain ⟨l,hl,hm⟩:=List.mem_flatten.1 hu
      rw [List.eq_of_mem_replicate hl] at hm
      exact hone u hm) (fun r hr=>by rw [List.eq_of_mem_replicate hr]; exact hzl) (by rw [List.length_replicate]; exact hl) hne
    refine ⟨.tuple #[],w.setCells b (lo*e') (List.replicate len zv.cells.toList).flatten,?_,?_⟩
    ·have hst:=run_storeCells_cells (P:=P) b (lo*e') (List.replicate len zv.cells.toList).flatten 0 w (fun j hj=>by simpa using (Il j hj).1) (fun j hj=>by simpa using (Il j hj).2) (fun u hu=>by
      obtain ⟨l,hl,hm⟩:=List.mem_flatten.1 hu
      rw [List.eq_of_mem_replicate hl] at hm
      exact hone u hm)
     simp only [Nat.add_zero] at hst
     rcases bY with ⟨hz0,_⟩ | ⟨b',cap,et',C,hb',hv,hcap,_,_⟩
     ·omega
     ·rw [hb] at hb'; cases hb'
      obtain ⟨k,rfl⟩:∃ k,len=k+1:=⟨len-1,by omega⟩
      simp [Builtin.clear_,run_underlying hu,hv,Ye,FY,hst]
    ·have e1:bJ obj base { r:=.undef,rd:=[o],wr:=[(o,.dat et e' (splice rows lo (List.replicate len z)))] } = fun k=>if k=o then .live (.dat et e' (splice rows lo (List.replicate len z))) else obj k:=by
      funext k; simp only [bJ,oU,cF]
     rw [e1]
     exact hA
   ·cases hE
  ·cases hE
 ·cases hE
theorem HT (S:aJ G J w ι obj) (he:∀ t,cQ J w ι (get t) (a.tmps.getD t Go.undef)) {X:Operand} {x:bR} (hx:aI X=some x) {e:eN} (hE:eU G get obj base (.UN x)=some e) :
  ∃ ad n,a.eval X=.pointer (some ad)∧w.cell? ad=some (.int .i64 n)∧e.r=.int n∧e.nw=[]∧e.wr=[]:=by
 have bY:=aT S he hx
 simp only [eU] at hE
 split at hE
 ·rename_i o c dR
  rw [dR] at bY
  obtain ⟨b,hb,hv⟩:=bY
  split at hE
  ·rename_i et cells ho
   split at hE
   ·rename_i n hc
    cases hE
    have h0:=S.rep o
    rw [ho] at h0
    obtain ⟨⟨b',C,m1,m2,m3⟩,_⟩:=h0
    rw [hb] at m1; cases m1
    obtain ⟨v,Ki,_,hr⟩:=m3.get hc
    have hr:v=.int .i64 n:=hr
    subst hr
    refine ⟨_,n,hv,?_,rfl,rfl,rfl⟩
    simp only [World.cell?,m2]
    simpa using Ki
   ·cases hE
  ·cases hE
 ·cases hE
theorem HU (S:aJ G J w ι obj) (he:∀ t,cQ J w ι (get t) (a.tmps.getD t Go.undef)) {X Y:Operand} {x y:bR} (hx:aI X=some x) (hy:aI Y=some y) {e:eN} (hE:eU G get obj base (.UO x y)=some e) :
  ∃ ad n d,a.eval X=.pointer (some ad)∧a.eval Y=.int .i64 d∧w.cell? ad=some (.int .i64 n)∧w.frozen? ad=false∧a_ G obj (bJ obj base e) J ι w e.r (.int .i64 (IntKind.i64.wrap (n+d))) (w.setCell ad (.int .i64 (IntKind.i64.wrap (n+d)))):=by
 have bY:=aT S he hx
 have jD:=aT S he hy
 simp only [eU] at hE
 split at hE
 ·rename_i o c d dR KH
  rw [dR] at bY
  rw [KH] at jD
  obtain ⟨b,hb,hv⟩:=bY
  have hY:a.eval Y=.int .i64 d:=jD
  split at hE
  ·rename_i et cells ho
   split at hE
   ·rename_i n hc
    cases hE
    have aae:c<cells.length:=(List.getElem?_eq_some_iff.1 hc).1
    have h0:=S.rep o
    rw [ho] at h0
    obtain ⟨⟨b',C,m1,m2,m3⟩,_⟩:=h0
    rw [hb] at m1; cases m1
    obtain ⟨v,Ki,_,hr⟩:=m3.get hc
    have hr:v=.int .i64 n:=hr
    subst hr
    obtain ⟨b2,hb2,Il,hA⟩:=a_.C_ S (col:=c) (cs:=[.int (IntKind.i64.wrap (n+d))]) (vs:=[.int .i64 (IntKind.i64.wrap (n+d))]) ho ⟨rfl,rfl,trivial⟩ (by simp; omega)
    rw [hb] at hb2; cases hb2
    refine ⟨⟨b,c,none⟩,n,d,hv,hY,?_,by simp [World.frozen?,m2],?_⟩
    ·simp only [World.cell?,m2]
     simpa using Ki
    ·have e1:bJ obj base { r:=.int (IntKind.i64.wrap (n+d)),rd:=[o],wr:=[(o,.box et (splice cells c [.int (IntKind.i64.wrap (n+d))]))] } = fun k=>if k=o then .live (.box et (splice cells c [.int (IntKind.i64.wrap (n+d))])) else obj k:=by
      funext k; simp only [bJ,oU,cF]
     rw [e1]
     have e2:w.setCell ⟨b,c,none⟩ (.int .i64 (IntKind.i64.wrap (n+d)))=w.setCells b c [.int .i64 (IntKind.i64.wrap (n+d))]:=by simp only [World.setCells]
     rw [e2]
     obtain ⟨J',ι',h1,_,h3⟩:=hA
     exact ⟨J',ι',h1,rfl,h3⟩
   ·cases hE
  ·cases hE
 ·cases hE
theorem Ee (S:aJ G J w ι obj) (he:∀ t,cQ J w ι (get t) (a.tmps.getD t Go.undef)) {m:M} {e:eN} (hE:eU G get obj base m=some e) {o:Oper} (hc:wQ P o.op=some m) :
  cC P o a w (a_ G obj (bJ obj base e) J ι w e.r):=by
 obtain ⟨dst,op,type,pos,after,guard⟩:=o
 dsimp only at hc
 unfold wQ at hc
 split at hc
 ·rename_i f args ts
  split at hc
  ·rename_i fn hf
   split at hc
   ·rename_i hfn
    obtain ⟨hb,We⟩:=hfn
    have ex:∀ vs:Array Value,args.map a.eval=vs→execOp a.eval { dst:=dst,op:=Op.call { callee:=Callee.value (.func f),args:=args,argTypes:=ts },type:=type,pos:=pos,after:=after,guard:=guard } = callFunc f vs:=by
     intro vs hvs
     have ef:a.eval (.func f)=.func (.func f) #[] #[]:=rfl
     unfold execOp
     simp [resolve,Deferred.ofValue,invoke,ef,hvs]
    split at hc
    ·rename_i hn
     split at hc
     ·rename_i x hargs
      have ha:args=#[x]:=by apply Array.ext'; simpa using hargs
      subst ha
      split at hc
      ·rename_i x' h1
       cases hc
       obtain ⟨ad,n,hX,hcell,hr,h6,h7⟩:=HT S he h1 hE
       refine cC.of_run (v:=.int .i64 n) (w':=w) ?_ ?_
       ·rw [ex #[a.eval x] (by simp),hX]
        exact run_call_load hf (by rw [hn]; rfl) hb (GB hn We) .i64 (Hq hn) hcell
       ·simp only [bJ,h6,h7,oU,cF]
        exact a_.stay S (by rw [hr]; rfl)
      ·cases hc
     ·cases hc
    ·split at hc
     ·rename_i hn
      split at hc
      ·rename_i x y hargs
       have ha:args=#[x,y]:=by apply Array.ext'; simpa using hargs
       subst ha
       split at hc
       ·rename_i x' y' h1 h2
        cases hc
        obtain ⟨ad,n,d,hX,hY,hcell,hz,hA⟩:=HU S he h1 h2 hE
        refine cC.of_run ?_ hA
        rw [ex #[a.eval x,a.eval y] (by simp),hX,hY]
        exact run_call_add hf (by rw [hn]; rfl) hb (JC hn We) .i64 (KY hn) hcell hz rfl
       ·cases hc
      ·cases hc
     ·cases hc
   ·cases hc
  ·cases hc
 ·cases hc
theorem sK:∀ (es:List (Int×LV)) (E:List MapEntry) (n:Int) (i:Nat),gM J w ι es E→
  (getM es n=none∧Instr.findNow (.int .i64) (.int .i64 n) E i=some none∧∀ y v c,cQ J w ι y v→gM J w ι (xG es n y) (E++[⟨.int .i64 n,v,c⟩]))∨
  ∃ y j e,getM es n=some y∧Instr.findNow (.int .i64) (.int .i64 n) E i=some (some (i+j,e.val))∧E[j]? = some e∧e.key=.int .i64 n∧cQ J w ι y e.val∧∀ y v,cQ J w ι y v→gM J w ι (xG es n y) (E.set j ⟨.int .i64 n,v,e.born⟩)
 | [],[],n,i,_=>.inl ⟨rfl,rfl,fun y v c h=>⟨rfl,h,trivial⟩⟩
 | (k,x)::r,e::E,n,i,h=>by
   obtain ⟨h1,h2,h3⟩:=h
   by_cases hk:n=k
   ·subst hk
    refine .inr ⟨x,0,e,by simp [getM],by simp [Instr.findNow,Instr.sameNow,h1],rfl,h1,h2,fun y v hy=>?_⟩
    simp only [xG,if_true,List.set_cons_zero]
    exact ⟨rfl,hy,h3⟩
   ·have hf:Instr.findNow (.int .i64) (.int .i64 n) (e::E) i=Instr.findNow (.int .i64) (.int .i64 n) E (i+1):=by
     simp [Instr.findNow,Instr.sameNow,h1,show (n==k)=false from beq_eq_false_iff_ne.2 hk]
    rcases sK r E n (i+1) h3 with ⟨q1,q2,q3⟩ | ⟨y,j,e',q1,q2,q3,q4,q5,q6⟩
    ·refine .inl ⟨by simp [getM,hk,q1],by rw [hf,q2],fun y v c hy=>?_⟩
     simp only [xG,if_neg hk]
     exact ⟨h1,h2,q3 y v c hy⟩
    ·refine .inr ⟨y,j+1,e',by simp [getM,hk,q1],by rw [hf,q2]; simp; omega,by simpa using q3,q4,q5,fun y v hy=>?_⟩
     simp only [xG,if_neg hk,List.set_cons_succ]
     exact ⟨h1,h2,q6 y v hy⟩
 | [],_::_,_,_,h=>h.elim
 | _::_,[],_,_,h=>h.elim
theorem a_.SP (S:aJ G J w ι obj) (hb:obj base=.free):a_ G obj (fun o=>if o=base then .live (.mp []) else obj o) J ι w (.mr base) (.map (some w.heap.size)) (w.alloc (.map #[] 0)):=by
 have hfree:∀ n,ι base n=none:=by have:=S.rep base; rw [hb] at this; exact this
 let ι':Nat→Nat→Option Nat:=fun o n=>if o=base then (if n=0 then some w.heap.size else none) else ι o n
 have hi:∀ o n b,ι o n=some b→ι' o n=some b:=fun o n b hob=>by
  by_cases ho:o=base
  ·subst ho; rw [hfree] at hob; cases hob
  ·simp only [ι',if_neg ho]; exact hob
 have E:Ev (Own ι obj) J J ι ι' w (w.alloc (.map #[] 0)):=Ev.alloc _ _ w w.drawn _ hi
 have hT:=aJ.qK S base (.live (.mp [])) E (fun o ho n=>by simp only [ι',if_neg ho]) (fun b hlt _=>eP w _ b hlt)
  ⟨⟨w.heap.size,#[],0,by simp [ι'],dB w _,trivial⟩,trivial⟩ (fun b hob=>by
    have:ι' base 0=some b:=hob
    simp [ι'] at this; exact .inr (by omega))
 exact ⟨J,ι',hT.1,⟨w.heap.size,by simp [ι'],rfl⟩,hT.2⟩
theorem a_.IL (S:aJ G J w ι obj) {o b:Nat} {es es':List (Int×LV)} {E E':Array MapEntry} {c c':Nat} (ho:obj o=.live (.mp es)) (h1:ι o 0=some b) (h2:w.heap[b]? = some (.map E c)) (h3:gM J w ι es' E'.toList) :
  a_ G obj (fun k=>if k=o then .live (.mp es') else obj k) J ι w .undef Go.undef { w with heap:=w.heap.setIfInBounds b (.map E' c') }:=by
 have hown:Own ι obj b:=⟨o,by rw [ho]; exact h1⟩
 obtain ⟨k1,k2⟩:=MapKept.heap_set (o':=.map E' c') h2
 have E1:Ev (Own ι obj) J J ι ι w { w with heap:=w.heap.setIfInBounds b (.map E' c') }:=⟨rfl,rfl,rfl,by simp,fun k _ hn=>k2 k (fun e=>hn (by rw [e]; exact hown)),fun k _=>by
  by_cases e:k=b
  ·subst e; simp only [World.shape?,k1,h2]
  ·exact bD (k2 k e),fun _ h=>h,fun _ h=>.inl h,fun _ _ _ h=>h⟩
 have hT:=aJ.qK S o (.live (.mp es')) E1 (fun _ _ _=>rfl) (fun k _ hn=>k2 k (fun e=>hn (by rw [ho,e]; exact h1)))
  ⟨⟨b,E',c',h1,k1,h3.ev S E1⟩,trivial⟩ (fun k hk=>.inl (by rw [ho]; exact hk))
 exact ⟨J,ι,hT.1,rfl,hT.2⟩
theorem yE (S:aJ G J w ι obj) (he:∀ t,cQ J w ι (get t) (a.tmps.getD t Go.undef)) {X K Y:Operand} {x k y:bR} (hx:aI X=some x) (hk:aI K=some k) (hy:aI Y=some y) {T kt et:TypeId} (hu:P.underlying T=some (.map kt et)) (hi:we P kt=true) {e:eN} (hE:eU G get obj base (.JE x k y)=some e) :
  ∃ w',(Instr.mapUpdate T (a.eval X) (a.eval K) (a.eval Y)).run P w=.ok () w'∧a_ G obj (bJ obj base e) J ι w e.r Go.undef w':=by
 have bY:=aT S he hx
 have VV:=aT S he hk
 have jD:=aT S he hy
 have hd:=BL hi
 simp only [eU] at hE
 split at hE
 ·rename_i o n dR KH
  rw [dR] at bY
  rw [KH] at VV
  obtain ⟨b,hb,hX⟩:=bY
  have hK:a.eval K=.int .i64 n:=VV
  split at hE
  ·rename_i es ho
   cases hE
   have h0:=S.rep o
   rw [ho] at h0
   obtain ⟨⟨b',C,c,m1,m2,m3⟩,_⟩:=h0
   rw [hb] at m1; cases m1
   have e1:bJ obj base { r:=.undef,rd:=[o],wr:=[(o,.mp (xG es n (y.ev G get)))] } = fun k=>if k=o then .live (.mp (xG es n (y.ev G get))) else obj k:=by
    funext k; simp only [bJ,oU,cF]
   rw [e1,hX,hK]
   have WI:=MapKept.run_checkKey (w:=w) (k:=.int .i64 n) hd (by simp [MapKept.IsKey]) false 9999
   rcases sK es C.toList n 0 m3 with ⟨_,q2,q3⟩ | ⟨_,j,e',_,q2,q3,q4,_,q6⟩
   ·refine ⟨_,?_,a_.IL S ho hb m2 (E':=C.push ⟨.int .i64 n,a.eval Y,c⟩) (c':=c+1) (by simpa using q3 _ (a.eval Y) c jD)⟩
    simp [Instr.mapUpdate,run_underlying hu,Result.andThen,MapKept.run_getObj_map m2,WI,MapKept.run_findKey hd q2,MapKept.run_setObj_map _ m2]
   ·have hj:C[j]? = some e':=by simpa using q3
    obtain ⟨key,val,born⟩:=e'
    dsimp only at q4
    subst q4
    have hmod:(C.modify j fun e=>{ e with key:=.int .i64 n,val:=a.eval Y }).toList=C.toList.set j ⟨.int .i64 n,a.eval Y,born⟩:=by
     apply List.ext_getElem?
     intro i
     simp only [Array.getElem?_toList,Array.getElem?_modify,List.getElem?_set]
     by_cases hij:j=i
     ·subst hij
      have hlt:j<C.size:=(Array.getElem?_eq_some_iff.1 hj).1
      have:=(Array.getElem?_eq_some_iff.1 hj).2
      simp [hlt,this]
     ·simp [hij]
    refine ⟨_,?_,a_.IL S ho hb m2 (E':=C.modify j fun e=>{ e with key:=.int .i64 n,val:=a.eval Y }) (c':=c) (by rw [hmod]; exact q6 _ _ jD)⟩
    simp [Instr.mapUpdate,run_underlying hu,Result.andThen,MapKept.run_getObj_map m2,WI,MapKept.run_findKey hd q2,hj,MapKept.run_keyThatStays (k:=.int .i64 n) (d:=.int .i64) (by simp [MapKept.IsKey]),MapKept.run_setObj_map _ m2]
  ·cases hE
 ·cases hE
theorem GI (S:aJ G J w ι obj) (he:∀ t,cQ J w ι (get t) (a.tmps.getD t Go.undef)) {X K:Operand} {x k:bR} (hx:aI X=some x) (hk:aI K=some k) {T kt et:TypeId} {ok:Bool} {i:TypeInfo} {z:Value} (hu:P.underlying T=some (.map kt et)) (hi:we P kt=true) (hin:P.info? et=some i) (hz:i.zero=some z) {e:eN} (hE:eU G get obj base (.Uy z ok x k)=some e) :
  ∃ v,(Instr.lookup T (a.eval X) (a.eval K) ok).run P w=.ok v w∧cQ J w ι e.r v∧e.nw=[]∧e.wr=[]:=by
 have bY:=aT S he hx
 have VV:=aT S he hk
 have hd:=BL hi
 have Ye:(zeroValue et).run P w=.ok z w:=by simp [zeroValue,typeInfo,hin,hz]
 simp only [eU] at hE
 split at hE
 ·rename_i o n dR KH
  rw [dR] at bY
  rw [KH] at VV
  obtain ⟨b,hb,hX⟩:=bY
  have hK:a.eval K=.int .i64 n:=VV
  split at hE
  ·rename_i es ho
   have h0:=S.rep o
   rw [ho] at h0
   obtain ⟨⟨b',C,c,m1,m2,m3⟩,_⟩:=h0
   rw [hb] at m1; cases m1
   have WI:=fun e=>MapKept.run_checkKey (w:=w) (k:=.int .i64 n) hd (by simp [MapKept.IsKey]) e 9999
   rw [hX,hK]
   rcases sK es C.toList n 0 m3 with ⟨q1,q2,q3⟩ | ⟨y,j,e',q1,q2,q3,q4,q5,_⟩
   ·rw [q1] at hE; cases hE
    refine ⟨if ok=true then .tuple #[z,.bool false] else z,?_,?_,rfl,rfl⟩
    ·simp [Instr.lookup,run_underlying hu,Result.andThen,MapKept.run_getObj_map m2,WI,MapKept.run_findKey hd q2,Ye]
    ·cases ok
     ·exact rfl
     ·exact ⟨_,rfl,rfl,rfl,trivial⟩
   ·rw [q1] at hE; cases hE
    refine ⟨if ok=true then .tuple #[e'.val,.bool true] else e'.val,?_,?_,rfl,rfl⟩
    ·simp [Instr.lookup,run_underlying hu,Result.andThen,MapKept.run_getObj_map m2,WI,MapKept.run_findKey hd q2]
    ·cases ok
     ·exact q5
     ·exact ⟨_,rfl,q5,rfl,trivial⟩
  ·cases hE
 ·cases hE
theorem Ec (S:aJ G J w ι obj) (he:∀ t,cQ J w ι (get t) (a.tmps.getD t Go.undef)) {m:M} {e:eN} (hE:eU G get obj base m=some e) (hfree:∀ j,j<e.nw.length→obj (base+j)=.free) {o:Oper} (hc:gu P o.op=some m) :
  cC P o a w (a_ G obj (bJ obj base e) J ι w e.r):=by
 obtain ⟨dst,op,type,pos,after,guard⟩:=o
 dsimp only at hc
 have stay:∀ {e:eN} {v:Value},e.nw=[]→e.wr=[]→cQ J w ι e.r v→a_ G obj (bJ obj base e) J ι w e.r v w:=by
  intro e v h1 h2 h3
  simp only [bJ,h1,h2,oU,cF]
  exact a_.stay S h3
 cases op with
 | slice T x lo hi mx=>
   cases mx with
   | some _=>simp [gu] at hc
   | none=>
     simp only [gu] at hc
     split at hc
     ·rename_i x' lo' hi' n el h1 h2 h3 hu
      split at hc
      ·rename_i hs
       cases hc
       obtain ⟨v,hv,hr,h6,h7⟩:=Gd S he h1 h2 h3 hu hs hE
       exact cC.value (s:=Instr.sliceAt T (a.eval x) (lo.map a.eval) (hi.map a.eval) none) rfl hv (stay h6 h7 hr)
      ·cases hc
     ·cases hc
 | makeSlice T l c=>
   simp only [gu] at hc
   split at hc
   ·rename_i n el h1 hu
    split at hc
    ·rename_i z size bytes h2 h3
     split at hc
     ·rename_i lJ
      cases hc
      have hb:obj base=.free:=by
       have hlen:0<e.nw.length:=by
        have LF:=hE
        simp only [eU] at LF
        split at LF
        ·split at LF
         ·cases LF; simp
         ·cases LF
        ·cases LF
       simpa using hfree 0 hlen
      obtain ⟨v,w',hv,hA⟩:=GJ S he h1 lJ.1 hu h3 h2 lJ.2 hb hE
      exact cC.value (s:=Instr.makeSlice T (a.eval l) (a.eval c)) rfl hv hA
     ·cases hc
    ·cases hc
   ·cases hc
 | convert S' T x=>
   simp only [gu] at hc
   split at hc
   ·rename_i y el h1 h2 h3
    split at hc
    ·rename_i h4
     cases hc
     obtain ⟨v,hv,hr,h6,h7⟩:=HS S he h1 h2 h4 h3 hE
     exact cC.value (s:=Go.convert S' T (a.eval x)) rfl hv (stay h6 h7 hr)
    ·cases hc
   ·cases hc
 | call c=>
   obtain ⟨callee,args,ts⟩:=c
   cases callee with
   | value f=>simp [gu] at hc
   | invoke r m=>simp [gu] at hc
   | builtin b=>
     cases b with
     | copy=>
       simp only [gu] at hc
       split at hc
       ·rename_i x y tx ty hargs hT
        have ha:args=#[x,y]:=by apply Array.ext'; simpa using hargs
        have ht:ts=#[tx,ty]:=by apply Array.ext'; simpa using hT
        subst ha ht
        split at hc
        ·rename_i x' y' el h1 h2 h3
         split at hc
         ·rename_i lJ
          cases hc
          obtain ⟨v,w',hv,hA⟩:=HI (rt:=type) S he h1 h2 h3 lJ.1 lJ.2 hE
          exact cC.value (s:=Builtin.copy_ #[tx,ty] type #[a.eval x,a.eval y]) (by simp [execOp,resolve,invoke,builtin]) hv hA
         ·cases hc
        ·cases hc
       ·cases hc
     | clear=>
       simp only [gu] at hc
       split at hc
       ·rename_i x tx hargs hT
        have ha:args=#[x]:=by apply Array.ext'; simpa using hargs
        have ht:ts=#[tx]:=by apply Array.ext'; simpa using hT
        subst ha ht
        split at hc
        ·rename_i x' el h1 h2
         split at hc
         ·rename_i z n h3 h4
          split at hc
          ·rename_i lJ
           cases hc
           obtain ⟨v,w',hv,hA⟩:=HM (rt:=type) S he h1 h2 h3 lJ hE
           exact cC.value (s:=Builtin.clear_ #[tx] type #[a.eval x]) (by simp [execOp,resolve,invoke,builtin]) hv hA
          ·cases hc
         ·cases hc
        ·cases hc
       ·cases hc
     | _=>simp [gu] at hc
 | unOp u T x=>
   cases u with
   | xor=>
     simp only [gu] at hc
     split at hc
     ·rename_i y h1
      cases hc
      have bY:=aT S he h1
      simp only [eU] at hE
      split at hE
      ·rename_i k n dR
       rw [dR] at bY
       have hX:a.eval x=.int k n:=bY
       cases hE
       exact cC.value (s:=Op.unary .xor (a.eval x)) rfl (by rw [hX]; rfl) (stay rfl rfl rfl)
      ·cases hE
     ·cases hc
   | _=>simp [gu] at hc
 | makeMap T r=>
   cases r with
   | some _=>simp [gu] at hc
   | none=>
     simp only [gu,Option.some.injEq] at hc
     subst hc
     simp only [eU,Option.some.injEq] at hE
     subst hE
     have hb:obj base=.free:=by simpa using hfree 0 (by simp)
     refine cC.value (s:=Instr.makeMap T none) rfl rfl ?_
     have e1:bJ obj base { r:=.mr base,nw:=[.mp []] } = fun o=>if o=base then .live (.mp []) else obj o:=by funext k; simp [bJ,oU,cF]
     rw [e1]
     exact a_.SP S hb
 | mapUpdate T m k x=>
   simp only [gu] at hc
   split at hc
   ·rename_i h1 h2 h3 h4
    split at hc
    ·rename_i h5
     cases hc
     obtain ⟨w',hv,hA⟩:=yE S he h1 h2 h3 h4 h5 hE
     refine cC.zI (w':=w') ?_ hA
     simp [execOp,hv,Result.andThen]
    ·cases hc
   ·cases hc
 | insert T m k x=>
   simp only [gu] at hc
   split at hc
   ·rename_i h1 h2 h3 h4
    split at hc
    ·rename_i h5
     cases hc
     obtain ⟨w',hv,hA⟩:=yE S he h1 h2 h3 h4 h5 hE
     refine cC.zI (w':=w') ?_ hA
     simp [execOp,hv,Result.andThen]
    ·cases hc
   ·cases hc
 | lookup T m k ok=>
   simp only [gu] at hc
   split at hc
   ·rename_i h1 h2 h3
    split at hc
    ·rename_i i h4
     split at hc
     ·rename_i z h5
      split at hc
      ·rename_i h6
       cases hc
       obtain ⟨v,hv,hr,h7,h8⟩:=GI S he h1 h2 h3 h6 h4 h5 hE
       exact cC.value (s:=Instr.lookup T (a.eval m) (a.eval k) ok) rfl hv (stay h7 h8 hr)
      ·cases hc
     ·cases hc
    ·cases hc
   ·cases hc
 | _=>simp [gu] at hc
theorem Ed (S:aJ G J w ι obj) (he:∀ t,cQ J w ι (get t) (a.tmps.getD t Go.undef)) {i:I} {e:eN} (hE:cB G get obj base i=some e) (hfree:∀ j,j<e.nw.length→obj (base+j)=.free) {o:Oper} (hc:kH P o.op=some i) :
  cC P o a w (a_ G obj (bJ obj base e) J ι w e.r):=by
 rcases uh hc with h | ⟨m,rfl,h⟩
 ·exact HA S he hE hfree h
 ·have LF:eU G get obj base m=some e:=by simpa only [cB] using hE
  rcases h with h | h | rfl
  ·exact Ec S he LF hfree h
  ·exact Ee S he LF h
  ·cases LF
end
end Dv
namespace Dv
open Go
def fz (ro:Option Nat):Fence:={ fn:=fun _=>True,depth:=none,alive:=false,round:=ro }
theorem nZ {ro:Option Nat} {n:Nat} {P:Program} {f:FuncId} {args:Array Value} {w:World} {R:Ending→World→Prop} : CallsIn (fz ro) n P f args w R↔Calls P f args w R:=by
 have:CallsIn (fz ro) n P f args w R=CallsIn Fence.wide n P f args w R:=rfl
 rw [this]; exact callsIn_wide
theorem O2 {ro:Option Nat} {n:Nat} {P:Program} {row:String} {args:Array Value} {w:World} {R:Value→World→Prop} (h:Rows P row args w R):RowsIn (fz ro) n P row args w R:=by
 intro b cs _
 obtain ⟨v,w',h1,h2⟩:=h b cs
 exact ⟨v,w',h1,stepsIn_wide.2 h2⟩
theorem Sk {ro:Option Nat} {n:Nat} {P:Program} {o:Oper} {a:Act} {w:World} {next:Act→World→Prop} {Q:Exit→Act→World→Prop} (hd:∀ c,o.op≠.defer c) (h:o.wp P a w next Q):o.wpIn (fz ro) n P a w next Q:=by
 refine ⟨fun _ _=>trivial,?_⟩
 rw [Oper.semAt_eq _ _ _ hd]
 unfold Oper.wp at h
 generalize (execOp a.eval o).run P w=r at h
 unfold Oper.upon at h
 unfold Oper.uponIn
 split at h
 ·exact h
 ·exact h
 ·exact h
 ·exact ⟨(fun hh=>by cases hh),nZ.2 (Calls.mono h (fun e w' q=>by cases e <;> exact q))⟩
 ·exact ⟨(fun hh=>by cases hh),O2 h⟩
 ·exact h
 ·exact h.elim
structure St where
 env:List (Nat×LV)
 objs:List (Option aD)
def bx:List (Nat×LV)→Nat→LV
 | [],_=>.top
 | (k,v)::r,t=>if k=t then v else bx r t
def dU (dst:Option Nat) (r:LV) (env:List (Nat×LV)):List (Nat×LV):=match dst with
 | some d=>(d,r)::env
 | none=>env
def St.get (s:St) (t:Nat):LV:=bx s.env t
def St.obj (s:St) (o:Nat):cv:=aB s.objs o
def fN:List (Nat×aD)→List (Option aD)→List (Option aD)
 | [],l=>l
 | (k,ob)::r,l=>(fN r l).set k (some ob)
def St.app (s:St) (dst:Option Nat) (e:eN):St:={ env:=dU dst e.r s.env,objs:=fN e.wr s.objs++e.nw.map some }
def St.put (s:St) (dst:Option Nat) (r:LV):St:={ s with env:=dU dst r s.env }
def callee:LV→Option (Nat×List LV×List LV)
 | .d (.fn (.func k) fs cs)=>some (k,fs.map .d,cs.map .d)
 | .fn (.func k) fs cs=>some (k,fs,cs)
 | _=>none
def jx (P:Program) (G:Nat→Option (List DV)) (get:Nat→LV) (obj:Nat→cv) (base:Nat) (i:I) (e:eN):Prop:=
 match i with
 | .call f args=>match callee (f.ev G get) with
   | some (k,fs,cs)=>bX P G k (fs++args.map (·.ev G get)++cs) obj base e
   | none=>False
 | i=>cB G get obj base i=some e
section
variable {P:Program} {G:Nat→Option (List DV)} {J:Nat→Prop} {w w':World} {ι:Nat→Nat→Option Nat} {obj:Nat→cv} {a:Act} {get:Nat→LV} {base:Nat}
theorem bW.append:∀ {xs ys:List LV} {vs us:List Value},bW J w ι xs vs→bW J w ι ys us→bW J w ι (xs++ys) (vs++us)
 | [],ys,[],us,_,h=>h
 | x::xs,ys,v::vs,us,h,k=>⟨h.1,bW.append h.2 k⟩
 | [],_,_::_,_,h,_=>h.elim
 | _::_,_,[],_,h,_=>h.elim
theorem tH (keep:Nat→Bool):∀ (l:List (Nat×aD)) (obj:Nat→cv),(l.map (·.1)).Nodup→(∀ p∈l,keep p.1=false→obj p.1=.live p.2)→cF (l.filter fun p=>keep p.1) obj=cF l obj
 | [],_,_,_=>rfl
 | (k,ob)::r,obj,hn,h=>by
   simp only [List.map_cons,List.nodup_cons] at hn
   have ih:=tH keep r obj hn.2 (fun p hp=>h p (by simp [hp]))
   cases hk:keep k with
   | true=>rw [List.filter_cons_of_pos (by simpa using hk)]; simp only [cF,ih]
   | false=>
     rw [List.filter_cons_of_neg (by simp [hk]),ih]
     funext o
     simp only [cF]
     split
     ·rename_i ho
      subst ho
      have hout:∀ (l:List (Nat×aD)) (o:Nat),o∉l.map (·.1)→cF l obj o=obj o:=by
       intro l
       induction l with
       | nil=>intro o _; rfl
       | cons p l ihl=>
         intro o ho
         obtain ⟨a,b⟩:=p
         simp only [List.map_cons,List.mem_cons,not_or] at ho
         simp only [cF]; rw [if_neg ho.1]; exact ihl o ho.2
      rw [hout r _ hn.1]
      exact h (o,ob) (by simp) hk
     ·rfl
theorem Ao (obj:Nat→cv):∀ (Z:List Nat),∀ p∈fF obj Z,p.1∈Z
 | [],p,h=>by cases h
 | z::Z,p,h=>by
   simp only [fF] at h
   split at h
   ·rcases List.mem_cons.1 h with rfl | h
    ·simp
    ·exact List.mem_cons_of_mem _ (Ao obj Z p h)
   ·exact List.mem_cons_of_mem _ (Ao obj Z p h)
theorem Cr {ρ Z:List Nat} {tmp:Bool} {aM aF:List aD} {base:Nat} {r:LV} (hn:ρ.Nodup) (hz:∀ z∈Z,z∉ρ) {obj:Nat→cv}
  (ho:∀ (i o:Nat),ρ[i]? = some o→∃ ob,aM[i]? = some ob∧obj o=.live (fc (bB ρ base) ob)) {keep:Nat→Bool} (hk:∀ (i o:Nat),ρ[i]? = some o→keep o=false→aF[i]? = aM[i]?) (nw:List aD) :
  bJ obj base { r:=rn (bB ρ base) r,rd:=ρ++Z,wr:=((ρ.zip (aF.map (fc (bB ρ base)))).filter fun p=>keep p.1)++(if tmp then [] else fF obj Z),nw:=nw } =
   bJ obj base { r:=rn (bB ρ base) r,rd:=ρ++Z,wr:=(ρ.zip (aF.map (fc (bB ρ base))))++(if tmp then [] else fF obj Z),nw:=nw }:=by
 unfold bJ
 dsimp only
 have hap:∀ (l m:List (Nat×aD)) (obj:Nat→cv),cF (l++m) obj=cF l (cF m obj):=by
  intro l m obj
  induction l with
  | nil=>rfl
  | cons p l ih=>obtain ⟨a,b⟩:=p; simp only [List.cons_append,cF,ih]
 rw [hap,hap,tH]
 ·have sub:∀ (ρ:List Nat) (l:List aD),((ρ.zip l).map (·.1)).Sublist ρ:=by
   intro ρ
   induction ρ with
   | nil=>intro l; simp
   | cons a r ih=>
     intro l
     cases l with
     | nil=>simp
     | cons b l=>simpa using ih l
  exact hn.sublist (sub _ _)
 ·intro p hp hkp
  obtain ⟨i,hi⟩:=List.mem_iff_getElem?.1 hp
  rw [List.getElem?_zip_eq_some] at hi
  obtain ⟨h1,h2⟩:=hi
  have h3:=hk i p.1 h1 hkp
  obtain ⟨ob,h4,h5⟩:=ho i p.1 h1
  rw [List.getElem?_map,h3,h4] at h2
  simp only [Option.map_some,Option.some.injEq] at h2
  have hout:∀ (l:List (Nat×aD)) (o:Nat),o∉l.map (·.1)→cF l obj o=obj o:=by
   intro l
   induction l with
   | nil=>intro o _; rfl
   | cons p l ihl=>
     intro o ho
     obtain ⟨a,b⟩:=p
     simp only [List.map_cons,List.mem_cons,not_or] at ho
     simp only [cF]; rw [if_neg ho.1]; exact ihl o ho.2
  rw [hout _ _ ?_,h5,← h2]
  intro hm
  obtain ⟨q,hq,Kq⟩:=List.mem_map.1 hm
  split at hq
  ·cases hq
  ·exact hz _ (Ao obj Z q hq) (Kq ▸ List.mem_of_getElem? h1)
theorem Et (S:aJ G J w ι obj) (he:∀ t,cQ J w ι (get t) (a.tmps.getD t Go.undef)) {f:bR} {args:List bR} {e:eN} (hE:jx P G get obj base (.call f args) e) (hfree:∀ j,j<e.nw.length→obj (base+j)=.free) {o:Oper} (hc:kH P o.op=some (.call f args)) :
  cC P o a w (a_ G obj (bJ obj base e) J ι w e.r):=by
 replace hc:=qv hc
 obtain ⟨dst,op,type,pos,after,guard⟩:=o
 dsimp only at hc
 obtain ⟨F,as,ts,rfl,hF,hargs⟩:∃ F as ts,op=.call ⟨.value F,as,ts⟩∧aI F=some f∧eo as.toList=some args:=by
  cases op with
  | call c=>
    obtain ⟨callee,as,ts⟩:=c
    cases callee with
    | value F=>
      simp only [cu] at hc
      split at hc
      ·rename_i f' args' h1 h2; cases hc; exact ⟨F,as,ts,rfl,h1,h2⟩
      ·cases hc
    | invoke r m=>simp [cu] at hc
    | builtin b=>
      exfalso
      cases b <;> simp only [cu] at hc <;> (repeat' split at hc) <;> cases hc
  | unOp u T x=>exfalso; cases u <;> simp only [cu] at hc <;> (try (cases hc; done)) <;> (repeat' split at hc) <;> cases hc
  | _=>
    exfalso
    simp only [cu] at hc <;> (repeat' split at hc) <;> cases hc
 simp only [jx] at hE
 split at hE
 ·rename_i k fs cs gY
  have wj:=aT S he hF
  have V_:=oA S he hargs
  obtain ⟨fs',cs',hval,hfs,hcs⟩:∃ fs' cs',a.eval F=.func (.func k) fs' cs'∧bW J w ι fs fs'.toList∧bW J w ι cs cs'.toList:=by
   generalize f.ev G get=x at gY wj
   unfold callee at gY
   split at gY
   ·cases gY
    obtain ⟨fs',cs',h1,h2,h3⟩:=wj
    exact ⟨fs',cs',h1,h2.xC,h3.xC⟩
   ·cases gY
    obtain ⟨fs',cs',h1,h2,h3⟩:=wj
    exact ⟨fs',cs',h1,h2,h3⟩
   ·cases gY
  obtain ⟨ρ,Z,tmp,aZ,aM,r,aF,keep,hkeep,hn,hz,xO,hl,hob,hid,rL,BQ,hle,Ak,rfl⟩:=hE.ex
  obtain ⟨hent,D4⟩:=Ak
  obtain ⟨SF,_⟩:=S.sub (base:=base) hn hz hl hob hid xO
  have DR:bW J w ι (fs++args.map (·.ev G get)++cs) (fs'++as.map a.eval++cs').toList:=by
   simp only [Array.toList_append,Array.toList_map]
   exact (hfs.append V_).append hcs
  have hcall:=D4 _ _ w (fs'++as.map a.eval++cs') SF (fL S _ _ _ rL DR)
  have hrun:(execOp a.eval ⟨dst,.call ⟨.value F,as,ts⟩,type,pos,after,guard⟩).run P w=.ok (.enter k (fs'++as.map a.eval++cs')) w:=by
   simp only [execOp,resolve,Sem.run_bind,hval,Deferred.ofValue,Sem.run_pure,Result.andThen_ok,invoke]
   exact oH hent _ w
  intro next Q hnext
  unfold Oper.wp
  rw [hrun,Oper.upon_enter]
  refine Calls.mono hcall (fun e w'' ⟨v,dR,hA⟩=>?_)
  subst dR
  refine hnext v w'' ?_
  simp only [List.length_map,List.length_drop] at hfree
  rw [Cr hn hz hob hkeep]
  exact a_.call S hn hz hl hob hid xO BQ hle hfree hA
 ·exact hE.elim
theorem Li (S:aJ G J w ι obj) (he:∀ t,cQ J w ι (get t) (a.tmps.getD t Go.undef)) {f:bR} {args:List bR} {e:eN} {p:Value} {k:Nat} {fs cs:List LV} (gY:callee (f.ev G get)=some (k,fs,cs)) (hE:fZ P G k (fs++args.map (·.ev G get)++cs) obj base p e) (hfree:∀ j,j<e.nw.length→obj (base+j)=.free) {o:Oper} (hc:kH P o.op=some (.call f args))
  (next:Act→World→Prop) (Q:Exit→Act→World→Prop) (hQ:∀ w',a_ G obj (bJ obj base e) J ι w .top Go.undef w'→Q (.panic [{ v:=p,recovered:=false }]) a w'):o.wp P a w next Q:=by
 replace hc:=qv hc
 obtain ⟨dst,op,type,pos,after,guard⟩:=o
 dsimp only at hc
 obtain ⟨F,as,ts,rfl,hF,hargs⟩:∃ F as ts,op=.call ⟨.value F,as,ts⟩∧aI F=some f∧eo as.toList=some args:=by
  cases op with
  | call c=>
    obtain ⟨callee,as,ts⟩:=c
    cases callee with
    | value F=>
      simp only [cu] at hc
      split at hc
      ·rename_i f' args' h1 h2; cases hc; exact ⟨F,as,ts,rfl,h1,h2⟩
      ·cases hc
    | invoke r m=>simp [cu] at hc
    | builtin b=>
      exfalso
      cases b <;> simp only [cu] at hc <;> (repeat' split at hc) <;> cases hc
  | unOp u T x=>exfalso; cases u <;> simp only [cu] at hc <;> (try (cases hc; done)) <;> (repeat' split at hc) <;> cases hc
  | _=>
    exfalso
    simp only [cu] at hc <;> (repeat' split at hc) <;> cases hc
 have wj:=aT S he hF
 have V_:=oA S he hargs
 obtain ⟨fs',cs',hval,hfs,hcs⟩:∃ fs' cs',a.eval F=.func (.func k) fs' cs'∧bW J w ι fs fs'.toList∧bW J w ι cs cs'.toList:=by
  generalize f.ev G get=x at gY wj
  unfold callee at gY
  split at gY
  ·cases gY
   obtain ⟨fs',cs',h1,h2,h3⟩:=wj
   exact ⟨fs',cs',h1,h2.xC,h3.xC⟩
  ·cases gY
   obtain ⟨fs',cs',h1,h2,h3⟩:=wj
   exact ⟨fs',cs',h1,h2,h3⟩
  ·cases gY
 obtain ⟨ρ,Z,aZ,aM,aF,hn,hz,xO,hl,hob,hid,rL,hle,Ak,rfl⟩:=hE.ex
 obtain ⟨hent,D4⟩:=Ak
 obtain ⟨SF,_⟩:=S.sub (base:=base) hn hz hl hob hid xO
 have DR:bW J w ι (fs++args.map (·.ev G get)++cs) (fs'++as.map a.eval++cs').toList:=by
  simp only [Array.toList_append,Array.toList_map]
  exact (hfs.append V_).append hcs
 have hcall:=D4 _ _ w (fs'++as.map a.eval++cs') SF (fL S _ _ _ rL DR)
 have hrun:(execOp a.eval ⟨dst,.call ⟨.value F,as,ts⟩,type,pos,after,guard⟩).run P w=.ok (.enter k (fs'++as.map a.eval++cs')) w:=by
  simp only [execOp,resolve,Sem.run_bind,hval,Deferred.ofValue,Sem.run_pure,Result.andThen_ok,invoke]
  exact oH hent _ w
 unfold Oper.wp
 rw [hrun,Oper.upon_enter]
 refine Calls.mono hcall (fun e w'' ⟨dR,hA⟩=>?_)
 subst dR
 refine hQ w'' ?_
 simp only [List.length_map,List.length_drop] at hfree
 have:=a_.call (tmp:=false) S hn hz hl hob hid xO (fun h=>by cases h) hle hfree hA
 simpa [rn] using this
theorem EG (S:aJ G J w ι obj) (he:∀ t,cQ J w ι (get t) (a.tmps.getD t Go.undef)) {i:I} {e:eN} (hE:jx P G get obj base i e) (hfree:∀ j,j<e.nw.length→obj (base+j)=.free) {o:Oper} (hc:kH P o.op=some i) :
  cC P o a w (a_ G obj (bJ obj base e) J ι w e.r):=by
 by_cases h:∃ f args,i=.call f args
 ·obtain ⟨f,args,rfl⟩:=h
  exact Et S he hE hfree hc
 ·have:jx P G get obj base i e=(cB G get obj base i=some e):=by
   cases i <;> first | rfl | (exfalso; exact h ⟨_,_,rfl⟩)
  rw [this] at hE
  exact Ed S he hE hfree hc
end
theorem zL {l:List (Option aD)} {o:Nat} {ob:aD} (h:aB l o=.live ob):o<l.length:=by
 unfold aB at h
 split at h
 ·cases h
 ·cases h
 ·rename_i hh; exact (List.getElem?_eq_some_iff.1 hh).1
theorem cR {l:List (Option aD)} {o:Nat} (h:l.length≤o):aB l o=.free:=by
 unfold aB; rw [List.getElem?_eq_none h]
theorem nA:∀ (wr:List (Nat×aD)) (l:List (Option aD)),(fN wr l).length=l.length
 | [],_=>rfl
 | (k,ob)::r,l=>by simp only [fN,List.length_set,nA r l]
theorem uY:∀ (wr:List (Nat×aD)) (l:List (Option aD)),(∀ p∈wr,p.1<l.length)→∀ o,aB (fN wr l) o=cF wr (aB l) o
 | [],_,_,_=>rfl
 | (k,ob)::r,l,h,o=>by
   have hk:k<(fN r l).length:=by rw [nA]; exact h (k,ob) (by simp)
   simp only [fN,cF]
   unfold aB
   by_cases ho:o=k
   ·subst ho
    rw [List.getElem?_set_self hk]; simp
   ·rw [List.getElem?_set_ne (fun e=>ho e.symm),if_neg ho]
    exact uY r l (fun p hp=>h p (by simp [hp])) o
theorem FR (l:List (Option aD)) (e:eN) (h:∀ p∈e.wr,p.1<l.length):aB (fN e.wr l++e.nw.map some)=bJ (aB l) l.length e:=by
 funext o
 simp only [bJ,rD]
 have hl:=nA e.wr l
 by_cases ho:l.length≤o
 ·rw [if_pos ho]
  have:aB (fN e.wr l++e.nw.map some) o=(match e.nw[o-l.length]? with | some ob=>.live ob | none=>.free):=by
   unfold aB
   rw [List.getElem?_append_right (by omega),hl,List.getElem?_map]
   cases e.nw[o-l.length]? <;> rfl
  rw [this]
  cases e.nw[o-l.length]? with
  | some ob=>rfl
  | none=>
    show cv.free=cF e.wr (aB l) o
    rw [← uY e.wr l h o,cR (by omega)]
 ·rw [if_neg ho,← uY e.wr l h o]
  unfold aB
  rw [List.getElem?_append_left (by omega)]
theorem qG {G:Nat→Option (List DV)} {get:Nat→LV} {obj:Nat→cv} {base:Nat} {i:I} {e:eN} (h:cB G get obj base i=some e):∀ p∈e.wr,∃ ob,obj p.1=.live ob:=by
 intro p hp
 by_cases hm:∃ m,i=.more m
 ·obtain ⟨m,rfl⟩:=hm
  exact Pb (by simpa only [cB] using h) p hp
 cases i <;> (try (exfalso; exact hm ⟨_,rfl⟩; done)) <;> simp only [cB] at h <;> (repeat' split at h) <;> (try (cases h; done)) <;> cases h <;> first
  | (cases hp; done)
  | (simp only [List.mem_singleton] at hp; subst hp; exact ⟨_,by assumption⟩)
theorem oG (obj:Nat→cv):∀ (Z:List Nat),∀ p∈fF obj Z,∃ ob,obj p.1=.live ob
 | [],p,h=>by cases h
 | z::Z,p,h=>by
   simp only [fF] at h
   split at h
   ·rename_i et e rows hz
    rcases List.mem_cons.1 h with rfl | h
    ·exact ⟨_,hz⟩
    ·exact oG obj Z p h
   ·exact oG obj Z p h
theorem jx.qG {P:Program} {G:Nat→Option (List DV)} {get:Nat→LV} {obj:Nat→cv} {base:Nat} {i:I} {e:eN} (h:jx P G get obj base i e):∀ p∈e.wr,∃ ob,obj p.1=.live ob:=by
 by_cases hi:∃ f args,i=.call f args
 ·obtain ⟨f,args,rfl⟩:=hi
  simp only [jx] at h
  split at h
  ·obtain ⟨ρ,Z,tmp,aZ,aM,r,aF,keep,hkeep,hn,hz,xO,hl,hob,hid,rL,BQ,hle,Ak,rfl⟩:=h.ex
   intro p hp
   simp only [List.mem_append] at hp
   rcases hp with hp | hp
   ·have:p.1∈ρ:=(List.of_mem_zip (List.mem_filter.1 hp).1).1
    obtain ⟨i,hi⟩:=List.mem_iff_getElem?.1 this
    obtain ⟨ob,_,k⟩:=hob i _ hi
    exact ⟨_,k⟩
   ·split at hp
    ·cases hp
    ·exact oG obj Z p hp
  ·exact h.elim
 ·have:jx P G get obj base i e=(cB G get obj base i=some e):=by
   cases i <;> first | rfl | (exfalso; exact hi ⟨_,_,rfl⟩)
  rw [this] at h
  exact Dv.qG h
theorem fZ.qG {P:Program} {G:Nat→Option (List DV)} {f:Nat} {args:List LV} {obj:Nat→cv} {base:Nat} {p:Value} {e:eN} (h:fZ P G f args obj base p e):∀ q∈e.wr,∃ ob,obj q.1=.live ob:=by
 obtain ⟨ρ,Z,aZ,aM,aF,hn,hz,xO,hl,hob,hid,rL,hle,Ak,rfl⟩:=h.ex
 intro q hq
 simp only [List.mem_append] at hq
 rcases hq with hq | hq
 ·have:q.1∈ρ:=(List.of_mem_zip hq).1
  obtain ⟨i,hi⟩:=List.mem_iff_getElem?.1 this
  obtain ⟨ob,_,k⟩:=hob i _ hi
  exact ⟨_,k⟩
 ·exact oG obj Z q hq
def iO (w w':World):Prop:=∀ (b:Nat) (ob:Obj),w.heap[b]? = some ob→ob.lG=false→w'.heap[b]? = some ob
theorem iO.refl (w:World):iO w w:=fun _ _ h _=>h
theorem iO.trans {w w' w'':World} (h:iO w w') (k:iO w' w''):iO w w'':=fun b ob hb hc=>k b ob (h b ob hb hc) hc
theorem Ext.nc {G:Nat→Option (List DV)} {J J':Nat→Prop} {w w':World} {ι ι':Nat→Nat→Option Nat} {obj obj':Nat→cv} (S:aJ G J w ι obj) (E:Ext obj obj' J J' ι ι' w w'):iO w w':=by
 intro b ob hb hc
 rw [E.ev.same b (Array.getElem?_eq_some_iff.1 hb).1 (fun ho=>?_)]
 ·exact hb
 ·obtain ⟨x,h,hx⟩:=S.sN ho
  rw [hb] at h; cases h; rw [hc] at hx; cases hx
def YS:Nat:=4294967294
def isNil:LV→Bool
 | .d (.val (.slice none 0 0))=>true
 | _=>false
structure Dk where
 ds:List Deferred
 sU:Bool
 lo:Nat
 ys:LV→World→Prop
 keep:∀ v w w',iO w w'→ys v w→ys v w'
 top:∀ w,ys .top w
 tot:∀ v w,isNil v=true→ys v w→∀ u,ys u w
def Dk.plain (ds:List Deferred) (mk:Bool) (lo:Nat:=0):Dk:=⟨ds,mk,lo,fun _ _=>True,fun _ _ _ _ _=>trivial,fun _=>trivial,fun _ _ _ _ _=>trivial⟩
def Marks (D:Dk) (ds:List Deferred) (w:World):Prop:=∃ Bs:List Nat,(D.sU=false→Bs=[])∧Bs.Nodup∧ds=Bs.map (fun b=>{ target:=.collected b,args:=#[] })++D.ds∧∀ b∈Bs,D.lo≤b∧w.heap[b]? = some (.deferred (some []))
theorem Marks.keep {D:Dk} {ds:List Deferred} {w w':World} (h:Marks D ds w) (k:iO w w'):Marks D ds w':=by
 obtain ⟨Bs,h1,h2,h3,h4⟩:=h
 exact ⟨Bs,h1,h2,h3,fun b hb=>⟨(h4 b hb).1,k b _ (h4 b hb).2 rfl⟩⟩
theorem Marks.plain (D:Dk) (w:World):Marks D D.ds w:=⟨[],fun _=>rfl,List.nodup_nil,rfl,fun _ h=>by cases h⟩
theorem Marks.none {D:Dk} {ds:List Deferred} {w:World} (h:Marks D ds w) (k:D.sU=false):ds=D.ds:=by
 obtain ⟨Bs,h1,h2,h3,h4⟩:=h
 rw [h1 k] at h3; simpa using h3
structure Xk (G:Nat→Option (List DV)) (D:Dk) (N:Nat) (J:Nat→Prop) (w:World) (ι:Nat→Nat→Option Nat) (a:Act) (get:Nat→LV) (obj:Nat→cv):Prop where
 store:aJ G J w ι obj
 env:∀ t,cQ J w ι (get t) (a.tmps.getD t Go.undef)
 size:a.tmps.size=N
 defers:Marks D a.defers w
 ys:D.ys (get YS) w
 lim:N≤YS
def fE (dst:Option Nat) (r:LV) (get:Nat→LV) (t:Nat):LV:=if dst=some t then r else get t
theorem wC (dst:Option Nat) (r:LV) (env:List (Nat×LV)):bx (dU dst r env)=fE dst r (bx env):=by
 funext t
 cases dst with
 | none=>simp [dU,fE]
 | some d=>simp [dU,bx,fE]
theorem Xk.step {G:Nat→Option (List DV)} {D:Dk} {N:Nat} {J:Nat→Prop} {w w':World} {ι:Nat→Nat→Option Nat} {a:Act} {get:Nat→LV} {obj obj':Nat→cv} (S:Xk G D N J w ι a get obj) {dst:Option Nat} (hd:∀ d,dst=some d→d<N) {r:LV} {v:Value}
  (h:a_ G obj obj' J ι w r v w'):∃ J' ι',Xk G D N J' w' ι' (a.put dst v) (fE dst r get) obj'∧Ext obj obj' J J' ι ι' w w':=by
 obtain ⟨J',ι',S',hr,E⟩:=h
 have hnc:=E.nc S.store
 refine ⟨J',ι',⟨S',fun t=>?_,?_,?_,?_,S.lim⟩,E⟩
 ·cases dst with
  | none=>simpa [fE,Act.put] using (S.env t).ev S.store E.ev
  | some d=>
    have OV:=hd d rfl
    simp only [fE,Act.put,Option.some.injEq]
    by_cases ht:d=t
    ·subst ht
     rw [if_pos rfl]
     have:(a.tmps.setIfInBounds d v).getD d Go.undef=v:=by simp [Array.getD_eq_getD_getElem?,S.size,OV]
     rw [this]; exact hr
    ·rw [if_neg ht]
     have:(a.tmps.setIfInBounds d v).getD t Go.undef=a.tmps.getD t Go.undef:=by
      simp [Array.getD_eq_getD_getElem?,Array.getElem?_setIfInBounds_ne ht]
     rw [this]; exact (S.env t).ev S.store E.ev
 ·cases dst <;> simp [Act.put,S.size]
 ·have h1:=S.defers.keep hnc
  cases dst <;> exact h1
 ·have h1:=D.keep _ _ _ hnc S.ys
  have h2:fE dst r get YS=get YS:=by
   unfold fE
   rw [if_neg]
   intro h
   have h3:=hd YS h
   have:=S.lim
   omega
  rw [h2]; exact h1
end Dv
namespace Dv
open Go
structure oo where
 tr:List Nat
 td:Option Nat
 r:LV
 rd:List Nat
 ow:List (Nat×aD)
def oo.wr (e:oo):List Nat:=e.ow.map (·.1)
theorem qI:∀ (l:List (Nat×aD)) (obj:Nat→cv) (o:Nat),o∉l.map (·.1)→cF l obj o=obj o
 | [],_,_,_=>rfl
 | (k,ob)::r,obj,o,h=>by
   simp only [List.map_cons,List.mem_cons,not_or] at h
   simp only [cF]; rw [if_neg h.1]; exact qI r obj o h.2
theorem ze:∀ (l:List (Nat×aD)) (obj obj':Nat→cv) (o:Nat),o∈l.map (·.1)→cF l obj o=cF l obj' o
 | [],_,_,_,h=>by cases h
 | (k,ob)::r,obj,obj',o,h=>by
   simp only [cF]
   by_cases ho:o=k
   ·rw [if_pos ho,if_pos ho]
   ·rw [if_neg ho,if_neg ho]
    exact ze r obj obj' o (by simpa [ho] using h)
section
variable (E:Nat→oo) (g0:Nat→LV) (o0:Nat→cv)
def iK (D:Nat→Bool):Nat→(Nat→LV)×(Nat→cv)
 | 0=>(g0,o0)
 | k+1=>if D k then (fE (E k).td (E k).r (iK D k).1,cF (E k).ow (iK D k).2) else iK D k
variable {E g0 o0}
theorem zl {D D':Nat→Bool} {t:Nat} : ∀ k,(∀ j,j<k→(E j).td=some t→D j=D' j)→(iK E g0 o0 D k).1 t=(iK E g0 o0 D' k).1 t
 | 0,_=>rfl
 | k+1,h=>by
   have ih:=zl k (fun j hj=>h j (by omega))
   simp only [iK]
   by_cases ht:(E k).td=some t
   ·have:=h k (by omega) ht
    rw [this]
    split
    ·simp [fE,ht]
    ·exact ih
   ·have key:∀ D:Nat→Bool,(if D k=true then (fE (E k).td (E k).r (iK E g0 o0 D k).1,cF (E k).ow (iK E g0 o0 D k).2) else iK E g0 o0 D k).1 t=(iK E g0 o0 D k).1 t:=fun D=>by
     split
     ·simp [fE,ht]
     ·rfl
    rw [key,key]; exact ih
theorem uD {D D':Nat→Bool} {o:Nat} : ∀ k,(∀ j,j<k→o∈(E j).wr→D j=D' j)→(iK E g0 o0 D k).2 o=(iK E g0 o0 D' k).2 o
 | 0,_=>rfl
 | k+1,h=>by
   have ih:=uD k (fun j hj=>h j (by omega))
   simp only [iK]
   by_cases ht:o∈(E k).wr
   ·have:=h k (by omega) ht
    rw [this]
    split
    ·exact ze _ _ _ _ ht
    ·exact ih
   ·have key:∀ D:Nat→Bool,(if D k=true then (fE (E k).td (E k).r (iK E g0 o0 D k).1,cF (E k).ow (iK E g0 o0 D k).2) else iK E g0 o0 D k).2 o=(iK E g0 o0 D k).2 o:=fun D=>by
     split
     ·exact qI _ _ _ ht
     ·rfl
    rw [key,key]; exact ih
theorem yc {D:Nat→Bool} {t i:Nat} (hD:D i=true) (ht:(E i).td=some t):∀ k,i<k→(∀ j,i<j→j<k→(E j).td=some t→D j=false)→(iK E g0 o0 D k).1 t=(E i).r
 | 0,h,_=>by omega
 | k+1,h,hl=>by
   simp only [iK]
   by_cases hk:k=i
   ·subst hk; rw [if_pos hD]; simp [fE,ht]
   ·have ih:=yc hD ht k (by omega) (fun j h1 h2=>hl j h1 (by omega))
    by_cases Wq:(E k).td=some t
    ·have:=hl k (by omega) (by omega) Wq
     rw [if_neg (by simp [this])]; exact ih
    ·split
     ·simpa [fE,Wq] using ih
     ·exact ih
theorem yb {D:Nat→Bool} {o i:Nat} (hD:D i=true) (ht:o∈(E i).wr):∀ k,i<k→(∀ j,i<j→j<k→o∈(E j).wr→D j=false)→∀ obj,(iK E g0 o0 D k).2 o=cF (E i).ow obj o
 | 0,h,_,_=>by omega
 | k+1,h,hl,obj=>by
   simp only [iK]
   by_cases hk:k=i
   ·subst hk; rw [if_pos hD]; exact ze _ _ _ _ ht
   ·have ih:=yb hD ht k (by omega) (fun j h1 h2=>hl j h1 (by omega)) obj
    by_cases Wq:o∈(E k).wr
    ·have:=hl k (by omega) (by omega) Wq
     rw [if_neg (by simp [this])]; exact ih
    ·split
     ·exact (qI _ _ _ Wq).trans ih
     ·exact ih
def sr (x y:oo):Prop:=
 (∃ t,x.td=some t∧(t∈y.tr∨y.td=some t))∨(∃ t,y.td=some t∧t∈x.tr)∨(∃ o,o∈x.wr∧(o∈y.rd∨o∈y.wr))∨(∃ o,o∈y.wr∧o∈x.rd)
variable {n:Nat} {R:Nat→Nat→Prop} (hR:∀ i j,i<j→j<n→sr (E i) (E j)→R i j)
include hR
theorem sE {D:Nat→Bool} (jg:∀ j,j<n→D j=true→∀ i,R i j→D i=true) {i:Nat} (hi:i<n) (wu:D i=false) (iG:∀ k,R k i→D k=true) {t:Nat} (ht:t∈(E i).tr∨(E i).td=some t) :
  (iK E g0 o0 D n).1 t=(iK E g0 o0 (fun j=>decide (j<i)) n).1 t:=by
 refine zl n (fun j hj Wr=>?_)
 rcases Nat.lt_trichotomy j i with h | h | h
 ·rw [iG j (hR j i h hi (.inl ⟨t,Wr,ht⟩))]; simp [h]
 ·subst h; simp [wu]
 ·have:D j=false:=by
   cases O0:D j with
   | false=>rfl
   | true=>
     have hc:sr (E i) (E j):=by
      rcases ht with ht | ht
      ·exact .inr (.inl ⟨t,Wr,ht⟩)
      ·exact .inl ⟨t,ht,.inr Wr⟩
     have:=jg j hj O0 i (hR i j h hj hc)
     rw [wu] at this; cases this
  rw [this]; simp; omega
theorem ya {D:Nat→Bool} (jg:∀ j,j<n→D j=true→∀ i,R i j→D i=true) {i:Nat} (hi:i<n) (wu:D i=false) (iG:∀ k,R k i→D k=true) {o:Nat} (ho:o∈(E i).rd∨o∈(E i).wr) :
  (iK E g0 o0 D n).2 o=(iK E g0 o0 (fun j=>decide (j<i)) n).2 o:=by
 refine uD n (fun j hj hjo=>?_)
 rcases Nat.lt_trichotomy j i with h | h | h
 ·rw [iG j (hR j i h hi (.inr (.inr (.inl ⟨o,hjo,ho⟩))))]; simp [h]
 ·subst h; simp [wu]
 ·have:D j=false:=by
   cases O0:D j with
   | false=>rfl
   | true=>
     have hc:sr (E i) (E j):=by
      rcases ho with ho | ho
      ·exact .inr (.inr (.inr ⟨o,hjo,ho⟩))
      ·exact .inr (.inr (.inl ⟨o,ho,.inr hjo⟩))
     have:=jg j hj O0 i (hR i j h hj hc)
     rw [wu] at this; cases this
  rw [this]; simp; omega
theorem EM {D:Nat→Bool} (jg:∀ j,j<n→D j=true→∀ i,R i j→D i=true) {i:Nat} (hi:i<n) (wu:D i=false) :
  iK E g0 o0 (fun j=>D j||j==i) n=(fE (E i).td (E i).r (iK E g0 o0 D n).1,cF (E i).ow (iK E g0 o0 D n).2):=by
 have Kz:∀ j,i<j→j<n→sr (E i) (E j)→D j=false:=fun j h hj hc=>by
  cases O0:D j with
  | false=>rfl
  | true=>
    have:=jg j hj O0 i (hR i j h hj hc)
    rw [wu] at this; cases this
 refine Prod.ext (funext fun t=>?_) (funext fun o=>?_)
 ·simp only [fE]
  by_cases ht:(E i).td=some t
  ·rw [if_pos ht]
   refine yc (D:=fun j=>D j||j==i) (by simp) ht n hi (fun j h1 h2 hj=>?_)
   have:=Kz j h1 h2 (.inl ⟨t,ht,.inr hj⟩)
   simp [this]; omega
  ·rw [if_neg ht]
   refine zl n (fun j hj Wr=>?_)
   have:j≠i:=fun e=>ht (e ▸ Wr)
   simp [this]
 ·show (iK E g0 o0 (fun j=>D j||j==i) n).2 o=cF (E i).ow (iK E g0 o0 D n).2 o
  by_cases ho:o∈(E i).wr
  ·refine yb (D:=fun j=>D j||j==i) (by simp) ho n hi (fun j h1 h2 hj=>?_) _
   have:=Kz j h1 h2 (.inr (.inr (.inl ⟨o,ho,.inr hj⟩)))
   simp [this]; omega
  ·rw [qI _ _ _ ho]
   refine uD n (fun j hj hjo=>?_)
   have:j≠i:=fun e=>ho (e ▸ hjo)
   simp [this]
end
theorem count_set:∀ {l:List Bool} {i:Nat},l[i]? = some false→(l.set i true).count false+1=l.count false:=by
 intro l
 induction l with
 | nil=>intro i h; simp at h
 | cons x l ihl=>
   intro i h
   cases i with
   | zero=>simp at h; subst h; simp
   | succ i=>
     have:=ihl (i:=i) (by simpa using h)
     simp only [List.set_cons_succ,List.count_cons]
     omega
theorem CO {ro:Option Nat} {nn:Nat} {P:Program} {ops:Array Oper} {Q:Exit→Act→World→Prop} {E:Nat→oo} {g0:Nat→LV} {o0:Nat→cv} {R:Nat→Nat→Prop} (Inv:(Nat→LV)→(Nat→cv)→Act→World→Prop) (lo hi:Nat) (hhi:hi≤ops.size)
  (G_:∀ i j,i<hi→hi≤j→j<ops.size→R i j)
  (hR:∀ i j,i<j→j<ops.size→sr (E i) (E j)→R i j)
  (hpre:∀ j o,ops[j]? = some o→∀ i,R i j→∃ e∈o.after,Region.binds .any e=true∧(e.on=i∨R i e.on))
  (hback:∀ j o,ops[j]? = some o→∀ e∈o.after,Region.binds .any e=true→e.on<j)
  (Y0:∀ i j,R i j→i<ops.size)
  (hstep:∀ i g obj,lo≤i→i<hi→(∀ t,t∈(E i).tr∨(E i).td=some t→g t=(iK E g0 o0 (fun j=>decide (j<i)) ops.size).1 t)→(∀ o,o∈(E i).rd∨o∈(E i).wr→obj o=(iK E g0 o0 (fun j=>decide (j<i)) ops.size).2 o)→
   ∀ a w K,Inv g obj a w→(∀ a' w',Inv (fE (E i).td (E i).r g) (cF (E i).ow obj) a' w'→K a' w')→wpOpIn (fz ro) nn P ops Q i K a w)
  (hQ:∀ listed a w,listed.size=ops.size→(∀ j,listed.getD j false=decide (j<hi))→Inv (iK E g0 o0 (fun j=>decide (j<hi)) ops.size).1 (iK E g0 o0 (fun j=>decide (j<hi)) ops.size).2 a w→wpAnyIn (fz ro) nn P .any ops Q (listed.toList.count false) listed a w) :
  ∀ (fuel:Nat) (listed:Array Bool) (a:Act) (w:World),listed.size=ops.size→listed.toList.count false=fuel→(∀ j,listed.getD j false=true→j<hi)→(∀ j,j<lo→listed.getD j false=true)→
    (∀ j o,ops[j]? = some o→listed.getD j false=true→∀ e∈o.after,Region.binds .any e=true→listed.getD e.on false=true)→
    Inv (iK E g0 o0 (fun j=>listed.getD j false) ops.size).1 (iK E g0 o0 (fun j=>listed.getD j false) ops.size).2 a w→
    wpAnyIn (fz ro) nn P .any ops Q fuel listed a w:=by
 intro fuel
 induction fuel with
 | zero=>
   intro listed a w hls hc Wo hlo hcl hI
   have hall:∀ j,j<ops.size→listed.getD j false=true:=by
    intro j hj
    have hjj:j<listed.size:=by omega
    have h1:=List.count_eq_zero.1 hc
    cases hx:listed[j] with
    | true=>simp [hjj,hx]
    | false=>exact absurd (by rw [← hx]; simp) h1
   have hD:(fun j=>listed.getD j false)=fun j=>decide (j<hi):=by
    funext j
    cases hx:listed.getD j false with
    | true=>simp [Wo j hx]
    | false=>
      by_cases hj:j<ops.size
      ·rw [hall j hj] at hx; cases hx
      ·simp; omega
   rw [hD] at hI
   have:=hQ listed a w hls (fun j=>congrFun hD j) hI
   rw [hc] at this; exact this
 | succ fuel ih=>
   intro listed a w hls hc Wo hlo hcl hI
   by_cases hfull:∀ j,j<hi→listed.getD j false=true
   ·have hD:(fun j=>listed.getD j false)=fun j=>decide (j<hi):=by
     funext j
     by_cases hj:j<hi
     ·simp [hfull j hj,hj]
     ·cases hx:listed.getD j false with
      | true=>exact absurd (Wo j hx) hj
      | false=>simp [hj]
    rw [hD] at hI
    have:=hQ listed a w hls (fun j=>congrFun hD j) hI
    rw [hc] at this; exact this
   ·obtain ⟨j0,hj0⟩:=Classical.not_forall.1 hfull
    obtain ⟨hj0,OT⟩:j0<hi∧listed.getD j0 false=false:=by
     by_cases h:j0<hi
     ·exact ⟨h,by cases hx:listed.getD j0 false with
       | true=>exact absurd (fun _=>hx) hj0
       | false=>rfl⟩
     ·exact absurd (fun h'=>absurd h' h) hj0
    -- closed below
    have jg:∀ j,j<ops.size→listed.getD j false=true→∀ k,R k j→listed.getD k false=true:=by
     intro j
     induction j using Nat.strongRecOn with
     | _ j Yc=>
       intro hj O0 k hk
       obtain ⟨e,he,hb,wm⟩:=hpre j _ (Array.getElem?_eq_getElem hj) k hk
       have hlt:=hback j _ (Array.getElem?_eq_getElem hj) e he hb
       have WV:=hcl j _ (Array.getElem?_eq_getElem hj) O0 e he hb
       rcases wm with rfl | wm
       ·exact WV
       ·exact Yc e.on hlt (by omega) WV k wm
    have hrd:∀ i o,ops[i]? = some o→(∀ e∈o.after,Region.binds .any e=true→listed.getD e.on false=true)→∀ k,R k i→listed.getD k false=true:=by
     intro i o ho hall k hk
     have hilt:=(Array.getElem?_eq_some_iff.1 ho).1
     obtain ⟨e,he,hb,wm⟩:=hpre i o ho k hk
     have hlt:=hback i o ho e he hb
     rcases wm with rfl | wm
     ·exact hall e he hb
     ·exact jg e.on (by omega) (hall e he hb) k wm
    refine ⟨fun hr=>?_,fun i hi'=>?_⟩
    ·exfalso
     have DX:∀ j,j<ops.size→listed.getD j false=true:=by
      intro j
      induction j using Nat.strongRecOn with
      | _ j ih=>
        intro hj
        cases hl:listed.getD j false with
        | true=>rfl
        | false=>
          have hjj:j<listed.size:=by omega
          have hmem:j∈Region.ready .any ops listed:=by
           rw [mem_ready]
           refine ⟨?_,ops[j],Array.getElem?_eq_getElem hj,fun e he hb=>?_⟩
           ·simp [hjj] at hl ⊢; exact hl
           ·have hlt:=hback j _ (Array.getElem?_eq_getElem hj) e he hb
            exact ih e.on hlt (by omega)
          rw [hr] at hmem; cases hmem
     rw [DX j0 (by omega)] at OT; cases OT
    ·rw [mem_ready] at hi'
     obtain ⟨hun,o,ho,hall⟩:=hi'
     have hilt:=(Array.getElem?_eq_some_iff.1 ho).1
     have hil:i<listed.size:=by omega
     have wu:listed.getD i false=false:=by simp [hil] at hun ⊢; exact hun
     have iG:=hrd i o ho hall
     have Wu:i<hi:=by
      rcases Nat.lt_or_ge i hi with h | h
      ·exact h
      ·rw [iG j0 (G_ j0 i hj0 h hilt)] at OT; cases OT
     have YC:lo≤i:=Nat.le_of_not_lt fun h=>by rw [hlo i h] at wu; cases wu
     refine hstep i _ _ YC Wu (fun t ht=>sE (D:=fun j=>listed.getD j false) hR jg hilt wu iG ht) (fun q hq=>ya (D:=fun j=>listed.getD j false) hR jg hilt wu iG hq) a w _ hI (fun a' w' Y2=>?_)
     have hset:∀ j,(listed.setIfInBounds i true).getD j false=(listed.getD j false||j==i):=by
      intro j
      by_cases hj:j=i
      ·subst hj; simp [hil]
      ·rw [getD_set_ne false (fun e=>hj e.symm)]
       simp [hj]
     refine ih (listed.setIfInBounds i true) a' w' (by simpa using hls) ?_ ?_ (fun j hj=>by rw [hset,hlo j hj]; rfl) ?_ ?_
     ·have jU:listed.toList[i]? = some false:=by
       simp [hil] at hun
       simp [hil,hun]
      have:=count_set jU
      rw [Array.toList_setIfInBounds]
      omega
     ·intro j hj
      rw [hset] at hj
      simp only [Bool.or_eq_true,beq_iff_eq] at hj
      rcases hj with hj | rfl
      ·exact Wo j hj
      ·exact Wu
     ·intro j oj AL hj e he hb
      rw [hset] at hj ⊢
      simp only [Bool.or_eq_true,beq_iff_eq] at hj ⊢
      rcases hj with hj | rfl
      ·exact .inl (hcl j oj AL hj e he hb)
      ·rw [ho] at AL; cases AL
       exact .inl (hall e he hb)
     ·have e1:(fun j=>(listed.setIfInBounds i true).getD j false)=(fun j=>listed.getD j false||j==i):=funext hset
      rw [e1,EM hR jg hilt wu]
      exact Y2
theorem wpAny_done {ro:Option Nat} {nn:Nat} {P:Program} {ops:Array Oper} {Q:Exit→Act→World→Prop} {listed:Array Bool} {a:Act} {w:World} (hls:listed.size=ops.size) (hD:∀ j,listed.getD j false=decide (j<ops.size)) (hQ:Q .normal a w):wpAnyIn (fz ro) nn P .any ops Q (listed.toList.count false) listed a w:=by
 have hc:listed.toList.count false=0:=by
  refine List.count_eq_zero.2 (fun hm=>?_)
  obtain ⟨i,hi,he⟩:=List.mem_iff_getElem.1 hm
  have hi:i<listed.size:=by simpa using hi
  have:=hD i
  rw [show listed.getD i false=listed[i] by simp [hi]] at this
  have he:listed[i]=false:=by simpa using he
  rw [he] at this
  simp at this; omega
 rw [hc]
 refine ⟨?_,hQ⟩
 apply List.eq_nil_iff_forall_not_mem.2
 intro j hj
 rw [mem_ready] at hj
 obtain ⟨h1,o,ho,_⟩:=hj
 have Ws:=(Array.getElem?_eq_some_iff.1 ho).1
 have h2:=hD j
 have hjj:j<listed.size:=by omega
 simp [hjj] at h1 h2
 rw [h1] at h2; simp at h2; omega
theorem F1 {ro:Option Nat} {nn:Nat} {P:Program} {ops:Array Oper} {Q:Exit→Act→World→Prop} {R:Nat→Nat→Prop} {p:Nat} (hp:p<ops.size) (G_:∀ j,p<j→j<ops.size→R p j)
  (hpre:∀ j o,ops[j]? = some o→∀ i,R i j→∃ e∈o.after,Region.binds .any e=true∧(e.on=i∨R i e.on))
  (hback:∀ j o,ops[j]? = some o→∀ e∈o.after,Region.binds .any e=true→e.on<j)
  {listed:Array Bool} {a:Act} {w:World} (hls:listed.size=ops.size) (hD:∀ j,listed.getD j false=decide (j<p))
  (h:∀ K:Act→World→Prop,(∀ a' w',(∀ rE:Array Bool,rE.size=ops.size→(∀ j,rE.getD j false=decide (j<p+1))→wpAnyIn (fz ro) nn P .any ops Q (rE.toList.count false) rE a' w')→K a' w')→wpOpIn (fz ro) nn P ops Q p K a w):wpAnyIn (fz ro) nn P .any ops Q (listed.toList.count false) listed a w:=by
 have hlt:∀ j,j<ops.size→∀ i,R i j→i<j:=by
  intro j
  induction j using Nat.strongRecOn with
  | _ j ih=>
    intro hj i hi
    obtain ⟨e,he,hb,wm⟩:=hpre j _ (Array.getElem?_eq_getElem hj) i hi
    have h1:=hback j _ (Array.getElem?_eq_getElem hj) e he hb
    rcases wm with rfl | wm
    ·exact h1
    ·have:=ih e.on h1 (by omega) i wm; omega
 have mq:p<listed.size:=by omega
 have hpf:listed[p]=false:=by have:=hD p; simpa [mq] using this
 have jU:listed.toList[p]? = some false:=by simp [mq,hpf]
 have G7:=count_set jU
 have hset:∀ j,(listed.setIfInBounds p true).getD j false=decide (j<p+1):=by
  intro j
  by_cases hj:j=p
  ·subst hj; simp [mq]
  ·rw [getD_set_ne false (fun e=>hj e.symm),hD]
   simp; omega
 rw [← Array.toList_setIfInBounds] at G7
 rw [← G7]
 have V0:∀ (i:Nat) (o:Oper),ops[i]? = some o→((∀ e∈o.after,Region.binds .any e=true→listed.getD e.on false=true)↔∀ e∈o.after,Region.binds .any e=true→e.on<p):=fun i o _=>by simp only [hD,decide_eq_true_eq]
 refine ⟨fun hr=>?_,fun i hi=>?_⟩
 ·exfalso
  have:p∈Region.ready .any ops listed:=by
   rw [mem_ready]
   exact ⟨by simp [mq,hpf],ops[p],Array.getElem?_eq_getElem hp,(V0 p _ (Array.getElem?_eq_getElem hp)).2 fun e he hb=>hback p _ (Array.getElem?_eq_getElem hp) e he hb⟩
  rw [hr] at this; cases this
 ·rw [mem_ready] at hi
  obtain ⟨hun,o,ho,hall⟩:=hi
  have hilt:=(Array.getElem?_eq_some_iff.1 ho).1
  have hil:i<listed.size:=by omega
  have wu:listed.getD i false=false:=by simp [hil] at hun ⊢; exact hun
  rw [hD] at wu
  have UF:i=p:=by
   rcases Nat.lt_trichotomy i p with h1 | h1 | h1
   ·simp [h1] at wu
   ·exact h1
   ·obtain ⟨e,he,hb,wm⟩:=hpre i o ho p (G_ i h1 hilt)
    have h2:=(V0 i o ho).1 hall e he hb
    rcases wm with h3 | h3
    ·omega
    ·have:=hlt e.on (by omega) p h3; omega
  subst UF
  exact h _ fun a' w' hk=>hk _ (by simpa using hls) hset
theorem F0 {ro:Option Nat} {nn:Nat} {P:Program} {ops:Array Oper} {Q:Exit→Act→World→Prop} {E:Nat→oo} {g0:Nat→LV} {o0:Nat→cv} {R:Nat→Nat→Prop} (Inv:(Nat→LV)→(Nat→cv)→Act→World→Prop) (lo p:Nat) (hp:p<ops.size)
  (hR:∀ i j,i<j→j<ops.size→sr (E i) (E j)→R i j)
  (hpre:∀ j o,ops[j]? = some o→∀ i,R i j→∃ e∈o.after,Region.binds .any e=true∧(e.on=i∨R i e.on))
  (hback:∀ j o,ops[j]? = some o→∀ e∈o.after,Region.binds .any e=true→e.on<j)
  (Y0:∀ i j,R i j→i<ops.size)
  (hstep:∀ i g obj,lo≤i→i<ops.size→i≠p→¬ R p i→(∀ t,t∈(E i).tr∨(E i).td=some t→g t=(iK E g0 o0 (fun j=>decide (j<i)) ops.size).1 t)→(∀ o,o∈(E i).rd∨o∈(E i).wr→obj o=(iK E g0 o0 (fun j=>decide (j<i)) ops.size).2 o)→
   ∀ a w K,Inv g obj a w→(∀ a' w',Inv (fE (E i).td (E i).r g) (cF (E i).ow obj) a' w'→K a' w')→wpOpIn (fz ro) nn P ops Q i K a w)
  (Yr:∀ j,j<ops.size→(E j).wr≠[]→R j p∧j<p)
  (Ks:∀ g obj,(∀ t,t∈(E p).tr→g t=(iK E g0 o0 (fun j=>decide (j<p)) ops.size).1 t)→obj=(iK E g0 o0 (fun j=>decide (j<p)) ops.size).2→∀ a w K,Inv g obj a w→wpOpIn (fz ro) nn P ops Q p K a w) :
  ∀ (fuel:Nat) (listed:Array Bool) (a:Act) (w:World),listed.size=ops.size→listed.toList.count false=fuel→
    (∀ j o,ops[j]? = some o→listed.getD j false=true→∀ e∈o.after,Region.binds .any e=true→listed.getD e.on false=true)→
    (∀ j,j<lo→listed.getD j false=true)→listed.getD p false=false→Inv (iK E g0 o0 (fun j=>listed.getD j false) ops.size).1 (iK E g0 o0 (fun j=>listed.getD j false) ops.size).2 a w→
    wpAnyIn (fz ro) nn P .any ops Q fuel listed a w:=by
 -- what is ready,when all is listed
 have DX:∀ listed:Array Bool,listed.size=ops.size→Region.ready .any ops listed=[]→∀ j,j<ops.size→listed.getD j false=true:=by
  intro listed hls hr j
  induction j using Nat.strongRecOn with
  | _ j ih=>
    intro hj
    cases hl:listed.getD j false with
    | true=>rfl
    | false=>
      have hjj:j<listed.size:=by omega
      have hmem:j∈Region.ready .any ops listed:=by
       rw [mem_ready]
       refine ⟨?_,ops[j],Array.getElem?_eq_getElem hj,fun e he hb=>?_⟩
       ·simp [hjj] at hl ⊢; exact hl
       ·have hlt:=hback j _ (Array.getElem?_eq_getElem hj) e he hb
        exact ih e.on hlt (by omega)
      rw [hr] at hmem; cases hmem
 intro fuel
 induction fuel with
 | zero=>
   intro listed a w hls hc hcl hlo WU hI
   exfalso
   have h1:=List.count_eq_zero.1 hc
   have hjj:p<listed.size:=by omega
   have:listed[p]=false:=by simpa [hjj] using WU
   exact h1 (by rw [← this]; simp)
 | succ fuel ih=>
   intro listed a w hls hc hcl hlo WU hI
   refine ⟨fun hr=>(by have:=DX listed hls hr p hp; rw [WU] at this; cases this),fun i hi=>?_⟩
   rw [mem_ready] at hi
   obtain ⟨hun,o,ho,hall⟩:=hi
   have hilt:=(Array.getElem?_eq_some_iff.1 ho).1
   have hil:i<listed.size:=by omega
   have wu:listed.getD i false=false:=by simp [hil] at hun ⊢; exact hun
   -- closed below
   have jg:∀ j,j<ops.size→listed.getD j false=true→∀ k,R k j→listed.getD k false=true:=by
    intro j
    induction j using Nat.strongRecOn with
    | _ j Yc=>
      intro hj O0 k hk
      obtain ⟨e,he,hb,wm⟩:=hpre j _ (Array.getElem?_eq_getElem hj) k hk
      have hlt:=hback j _ (Array.getElem?_eq_getElem hj) e he hb
      have WV:=hcl j _ (Array.getElem?_eq_getElem hj) O0 e he hb
      rcases wm with rfl | wm
      ·exact WV
      ·exact Yc e.on hlt (by omega) WV k wm
   have iG:∀ k,R k i→listed.getD k false=true:=by
    intro k hk
    obtain ⟨e,he,hb,wm⟩:=hpre i o ho k hk
    have hlt:=hback i o ho e he hb
    rcases wm with rfl | wm
    ·exact hall e he hb
    ·exact jg e.on (by omega) (hall e he hb) k wm
   by_cases UF:i=p
   ·subst UF
    refine Ks _ _ (fun t ht=>sE (D:=fun j=>listed.getD j false) hR jg hilt wu iG (.inl ht)) (funext fun o=>?_) a w _ hI
    refine uD _ (fun j hj hjo=>?_)
    obtain ⟨h1,h2⟩:=Yr j hj (List.ne_nil_of_mem hjo)
    rw [iG j h1]; simp [h2]
   have XJ:¬ R p i:=fun h=>by have:=iG p h; rw [WU] at this; cases this
   refine hstep i _ _ (Nat.le_of_not_lt fun h=>by rw [hlo i h] at wu; cases wu) hilt UF XJ (fun t ht=>sE (D:=fun j=>listed.getD j false) hR jg hilt wu iG ht) (fun q hq=>ya (D:=fun j=>listed.getD j false) hR jg hilt wu iG hq) a w _ hI (fun a' w' Y2=>?_)
   have hset:∀ j,(listed.setIfInBounds i true).getD j false=(listed.getD j false||j==i):=by
    intro j
    by_cases hj:j=i
    ·subst hj; simp [hil]
    ·rw [getD_set_ne false (fun e=>hj e.symm)]
     simp [hj]
   refine ih (listed.setIfInBounds i true) a' w' (by simpa using hls) ?_ ?_ (fun j hj=>by rw [hset,hlo j hj]; rfl) (by rw [hset,WU]; simpa using fun e=>UF e.symm) ?_
   ·have jU:listed.toList[i]? = some false:=by
     simp [hil] at hun
     simp [hil,hun]
    have:=count_set jU
    rw [Array.toList_setIfInBounds]
    omega
   ·intro j oj AL hj e he hb
    rw [hset] at hj ⊢
    simp only [Bool.or_eq_true,beq_iff_eq] at hj ⊢
    rcases hj with hj | rfl
    ·exact .inl (hcl j oj AL hj e he hb)
    ·rw [ho] at AL; cases AL
     exact .inl (hall e he hb)
   ·have e1:(fun j=>(listed.setIfInBounds i true).getD j false)=(fun j=>listed.getD j false||j==i):=funext hset
    rw [e1,EM hR jg hilt wu]
    exact Y2
end Dv
namespace Dv
open Go
section
variable {P:Program} {G:Nat→Option (List DV)} {get get':Nat→LV} {obj obj':Nat→cv} {base:Nat}
theorem bR.cM {x:bR} (h:∀ t∈x.tmps,get' t=get t):x.ev G get'=x.ev G get:=by
 cases x with
 | t n=>exact h n (by simp [bR.tmps])
 | _=>rfl
theorem lM:∀ {xs:List bR},(∀ t∈xs.flatMap bR.tmps,get' t=get t)→xs.map (·.ev G get')=xs.map (·.ev G get)
 | [],_=>rfl
 | x::xs,h=>by
   simp only [List.flatMap_cons,List.mem_append] at h
   simp only [List.map_cons]
   rw [bR.cM (fun t ht=>h t (.inl ht)),lM (fun t ht=>h t (.inr ht))]
theorem ud:∀ {parts:List (Nat×Nat×bR)} {cells:List LV},(∀ t∈parts.flatMap (fun p=>p.2.2.tmps),get' t=get t)→pF G get' cells parts=pF G get cells parts
 | [],_,_=>rfl
 | (off,size,x)::rest,cells,h=>by
   simp only [List.flatMap_cons,List.mem_append] at h
   simp only [pF]
   rw [bR.cM (fun t ht=>h t (.inl ht))]
   cases (x.ev G get).cells with
   | none=>rfl
   | some cs=>
     dsimp only
     split
     ·exact ud (fun t ht=>h t (.inr ht))
     ·rfl
theorem uj:∀ {xs:List bR},(∀ t∈xs.flatMap bR.tmps,get' t=get t)→rW G get' xs=rW G get xs
 | [],_=>rfl
 | x::xs,h=>by
   simp only [List.flatMap_cons,List.mem_append] at h
   simp only [rW]
   rw [bR.cM (fun t ht=>h t (.inl ht)),uj (fun t ht=>h t (.inr ht))]
theorem qS {esz:Nat} : ∀ {xs:List bR},(∀ t∈xs.flatMap bR.tmps,get' t=get t)→rowsOf G get' esz xs=rowsOf G get esz xs
 | [],_=>rfl
 | x::xs,h=>by
   simp only [List.flatMap_cons,List.mem_append] at h
   simp only [rowsOf]
   rw [bR.cM (fun t ht=>h t (.inl ht)),qS (fun t ht=>h t (.inr ht))]
theorem iA:∀ {o:Option bR},(∀ t∈bR.tS o,get' t=get t)→o.map (·.ev G get')=o.map (·.ev G get)
 | none,_=>rfl
 | some x,h=>by simp only [Option.map_some]; rw [bR.cM h]
theorem K_ {m:M} (h:∀ t∈m.tmps,get' t=get t):eU G get' obj base m=eU G get obj base m:=by
 cases m <;> simp only [M.tmps,List.mem_append] at h <;> simp only [eU] <;> first
  | (rw [bR.cM h]; done)
  | (rw [bR.cM (fun t ht=>h t (.inl ht)),bR.cM (fun t ht=>h t (.inr ht))]; done)
  | (rw [bR.cM (fun t ht=>h t (.inl (.inl ht))),iA (fun t ht=>h t (.inl (.inr ht))),iA (fun t ht=>h t (.inr ht))]; done)
  | (rw [bR.cM (fun t ht=>h t (.inl (.inl ht))),bR.cM (fun t ht=>h t (.inl (.inr ht))),bR.cM (fun t ht=>h t (.inr ht))]; done)
theorem Lb {i:I} (h:∀ t∈i.tmps,get' t=get t):cB G get' obj base i=cB G get obj base i:=by
 cases i <;> simp only [I.tmps,List.mem_append] at h <;> simp only [cB] <;> first
  | rfl
  | exact K_ h
  | (rw [bR.cM h]; done)
  | (rw [bR.cM (fun t ht=>h t (.inl ht)),bR.cM (fun t ht=>h t (.inr ht))]; done)
  | (rw [bR.cM (fun t ht=>h t (.inl (.inl ht))),bR.cM (fun t ht=>h t (.inl (.inr ht))),bR.cM (fun t ht=>h t (.inr ht))]; done)
  | (rw [ud h]; done)
  | (rw [qS h,uj h]; done)
  | (rw [lM (fun t ht=>h t (.inl ht)),lM (fun t ht=>h t (.inr ht))]; done)
  | (rw [bR.cM (fun t ht=>h t (.inl (.inl (.inl ht)))),iA (fun t ht=>h t (.inl (.inl (.inr ht)))),iA (fun t ht=>h t (.inl (.inr ht))),iA (fun t ht=>h t (.inr ht))]; done)
  | (rw [bR.cM (fun t ht=>h t (.inl (.inl ht))),iA (fun t ht=>h t (.inl (.inr ht))),iA (fun t ht=>h t (.inr ht))]; done)
theorem iP {esz:Nat} {y:LV} {new:List (List DV)} {rd:List Nat} (h:aU obj esz y=some (new,rd)) (ho:∀ o∈rd,obj' o=obj o):aU obj' esz y=some (new,rd):=by
 cases y with
 | sl o n e lo len=>
   simp only [aU] at h ⊢
   have:rd=[o]:=by
    split at h
    ·split at h <;> cases h; rfl
    ·split at h <;> cases h; rfl
    ·split at h
     ·split at h <;> cases h; rfl
     ·cases h
    ·cases h
   subst this
   rw [ho o (by simp)]; exact h
 | d x=>
   have:aU obj' esz (.d x)=aU obj esz (.d x):=by
    cases x with
    | val v=>
      cases v with
      | slice a n c=>cases a <;> cases n <;> cases c <;> rfl
      | _=>rfl
    | _=>rfl
   rw [this]; exact h
 | _=>exact h
theorem K9 {m:M} {e:eN} (h:eU G get obj base m=some e) (ho:∀ o∈e.rd,obj' o=obj o):eU G get obj' base m=some e:=by
 cases m with
 | Ux n x lo hi=>
   simp only [eU] at h ⊢
   cases hx:x.ev G get with
   | ptr o col=>
     rw [hx] at h; dsimp only at h ⊢
     have:e.rd=[o]:=by
      (repeat' split at h) <;> (try (cases h; done)) <;> cases h <;> rfl
     rw [ho o (by simp [this])]; exact h
   | _=>rw [hx] at h; exact h
 | T_ x y=>
   simp only [eU] at h ⊢
   cases hs:aU obj 1 (y.ev G get) with
   | none=>rw [hs] at h; cases h
   | some p=>
     obtain ⟨new,rd⟩:=p
     rw [hs] at h; dsimp only at h
     split at h
     ·rename_i o lo len hx
      have hh:e.rd=o::rd:=by
       split at h
       ·split at h
        ·cases h; rfl
        ·cases h
       ·cases h
      rw [iP hs (fun q hq=>ho q (by rw [hh]; exact List.mem_cons_of_mem _ hq))]
      dsimp only
      rw [ho o (by simp [hh])]; exact h
     ·rename_i o n lo len hno hx
      have hh:e.rd=o::rd:=by
       split at h
       ·split at h
        ·cases h; rfl
        ·cases h
       ·cases h
      rw [iP hs (fun q hq=>ho q (by rw [hh]; exact List.mem_cons_of_mem _ hq))]
      cases n with
      | zero=>exact absurd rfl hno
      | succ n=>
        dsimp only
        rw [ho o (by simp [hh])]; exact h
     ·cases h
 | stk=>cases h
 | UJ x=>exact h
 | UK esz z x=>
   simp only [eU] at h ⊢
   cases hx:x.ev G get with
   | sl o n e0 lo len=>
     rw [hx] at h; dsimp only at h ⊢
     have:e.rd=[o]:=by
      (repeat' split at h) <;> (try (cases h; done)) <;> cases h <;> rfl
     rw [ho o (by simp [this])]; exact h
   | _=>rw [hx] at h; exact h
 | UN x=>
   simp only [eU] at h ⊢
   cases hx:x.ev G get with
   | ptr o col=>
     rw [hx] at h; dsimp only at h ⊢
     have:e.rd=[o]:=by
      (repeat' split at h) <;> (try (cases h; done)) <;> cases h <;> rfl
     rw [ho o (by simp [this])]; exact h
   | _=>rw [hx] at h; exact h
 | UO x y=>
   simp only [eU] at h ⊢
   split at h
   ·rename_i o c d hx hy
    have:e.rd=[o]:=by
     (repeat' split at h) <;> (try (cases h; done)) <;> cases h <;> rfl
    rw [ho o (by simp [this])]; exact h
   ·cases h
 | SP=>exact h
 | JE x k y=>
   simp only [eU] at h ⊢
   split at h
   ·rename_i o n hx hy
    have:e.rd=[o]:=by
     (repeat' split at h) <;> (try (cases h; done)) <;> cases h <;> rfl
    rw [ho o (by simp [this])]; exact h
   ·cases h
 | Uy z ok x k=>
   simp only [eU] at h ⊢
   split at h
   ·rename_i o n hx hy
    have:e.rd=[o]:=by
     (repeat' split at h) <;> (try (cases h; done)) <;> cases h <;> rfl
    rw [ho o (by simp [this])]; exact h
   ·cases h
 | sU et esz bytes z n=>exact h
 | UM x=>
   simp only [eU] at h ⊢
   split at h
   ·cases h
   ·rename_i Yy
    cases hs:aU obj 1 (x.ev G get) with
    | none=>rw [hs] at h; cases h
    | some p=>
      obtain ⟨rows,rd⟩:=p
      rw [hs] at h; dsimp only at h
      have hh:e.rd=rd:=by
       split at h
       ·cases h; rfl
       ·cases h
      rw [iP hs (fun q hq=>ho q (by rw [hh]; exact hq))]
      dsimp only
      rw [← h]
      try (split <;> first | rfl | (rename_i s hx; exact absurd hx (Yy s)))
theorem La {i:I} {e:eN} (h:cB G get obj base i=some e) (ho:∀ o∈e.rd,obj' o=obj o):cB G get obj' base i=some e:=by
 cases i with
 | ld1 x=>
   simp only [cB] at h ⊢
   cases hx:x.ev G get with
   | ptr o col=>
     rw [hx] at h; dsimp only at h ⊢
     have:e.rd=[o]:=by
      (repeat' split at h) <;> (try (cases h; done)) <;> cases h <;> rfl
     rw [ho o (by simp [this])]; exact h
   | rp o n esz row col=>
     rw [hx] at h; dsimp only at h ⊢
     have:e.rd=[o]:=by
      (repeat' split at h) <;> (try (cases h; done)) <;> cases h <;> rfl
     rw [ho o (by simp [this])]; exact h
   | _=>rw [hx] at h; exact h
 | bP size x=>
   simp only [cB] at h ⊢
   cases hx:x.ev G get with
   | ptr o col=>
     rw [hx] at h; dsimp only at h ⊢
     have:e.rd=[o]:=by
      (repeat' split at h) <;> (try (cases h; done)) <;> cases h <;> rfl
     rw [ho o (by simp [this])]; exact h
   | rp o n esz row col=>
     rw [hx] at h; dsimp only at h ⊢
     have:e.rd=[o]:=by
      (repeat' split at h) <;> (try (cases h; done)) <;> cases h <;> rfl
     rw [ho o (by simp [this])]; exact h
   | _=>rw [hx] at h; exact h
 | st size x y=>
   simp only [cB] at h ⊢
   cases hy:(y.ev G get).cells with
   | none=>rw [hy] at h; exact h
   | some cs=>
     rw [hy] at h; dsimp only at h ⊢
     split at h
     ·rename_i hl
      rw [if_pos hl]
      cases hx:x.ev G get with
      | ptr o col=>
        rw [hx] at h; dsimp only at h ⊢
        have:e.rd=[o]:=by
         (repeat' split at h) <;> (try (cases h; done)) <;> cases h <;> rfl
        rw [ho o (by simp [this])]; exact h
      | rp o n esz row col=>
        rw [hx] at h; dsimp only at h ⊢
        have:e.rd=[o]:=by
         (repeat' split at h) <;> (try (cases h; done)) <;> cases h <;> rfl
        rw [ho o (by simp [this])]; exact h
      | _=>rw [hx] at h; exact h
     ·cases h
 | eG esz x j=>
   simp only [cB] at h ⊢
   split at h
   ·rename_i k jj hj
    split at h
    ·rename_i h0
     rw [if_pos h0]
     cases hx:x.ev G get with
     | sl o n e' lo len=>
       rw [hx] at h; dsimp only at h ⊢
       have:e.rd=[o]:=by
        (repeat' split at h) <;> (try (cases h; done)) <;> cases h <;> rfl
       rw [ho o (by simp [this])]; exact h
     | d z=>rw [hx] at h; cases z <;> exact h
     | _=>rw [hx] at h; exact h
    ·cases h
   ·cases h
 | app et esz bytes x y=>
   simp only [cB] at h ⊢
   cases hs:aU obj esz (y.ev G get) with
   | none=>rw [hs] at h; cases h
   | some p=>
     obtain ⟨new,rd⟩:=p
     rw [hs] at h; dsimp only at h
     cases hx:x.ev G get with
     | sl o n e' lo len=>
       rw [hx] at h; dsimp only at h
       have hh:e.rd=o::rd:=by
        split at h
        ·split at h
         ·cases h; rfl
         ·cases h
        ·cases h
       rw [iP hs (fun q hq=>ho q (by rw [hh]; exact List.mem_cons_of_mem _ hq))]
       dsimp only
       rw [ho o (by simp [hh])]; exact h
     | d z=>
       have hrd:e.rd=rd:=by
        rw [hx] at h
        (repeat' split at h) <;> (try contradiction) <;> (try (cases h; done)) <;> cases h <;> rfl
       have hsr:aU obj' esz (y.ev G get)=some (new,rd):=iP hs (by rw [← hrd]; exact ho)
       rw [hsr]; dsimp only
       rw [← h,hx]
       cases z with
       | val v=>
         cases v with
         | slice a n c=>cases a <;> cases n <;> cases c <;> rfl
         | _=>rfl
       | _=>rfl
     | _=>rw [hx] at h; cases h
 | more m=>exact K9 h ho
 | _=>exact h
mutual
theorem Cp {ρ Z:List Nat} (hZ:∀ z∈Z,obj' z=obj z):∀ (x y:LV),ai obj ρ Z x y→ai obj' ρ Z x y:=by
 intro x y h
 cases x with
 | sl o n e l k=>
   cases y with
   | d y=>
     cases y with
     | dY e' rs=>
       simp only [ai] at h ⊢
       refine ⟨h.1,?_⟩
       have h2:=h.2
       have XD:o∈Z:=by
        unfold bE at h2
        split at h2
        ·exact h2.1
        ·exact h2.1
        ·exact h2.elim
       unfold bE at h2 ⊢
       rw [hZ o XD]; exact h2
     | _=>simp [ai] at h
   | top=>simp [ai]
   | sl _ _ _ _ _=>simp only [ai] at h ⊢; exact h
   | _=>simp [ai] at h
 | agg xs=>
   cases y with
   | agg ys=>simp only [ai] at h ⊢; exact iI hZ xs ys h
   | top=>simp [ai]
   | _=>simp [ai] at h
 | dP xs=>
   cases y with
   | dP ys=>simp only [ai] at h ⊢; exact iI hZ xs ys h
   | top=>simp [ai]
   | _=>simp [ai] at h
 | fn f a b=>
   cases y with
   | fn f' a' b'=>simp only [ai] at h ⊢; exact ⟨h.1,iI hZ a a' h.2.1,iI hZ b b' h.2.2⟩
   | top=>simp [ai]
   | _=>simp [ai] at h
 | fe t x=>
   cases y with
   | fe t' y=>simp only [ai] at h ⊢; exact ⟨h.1,Cp hZ x y h.2⟩
   | top=>simp [ai]
   | _=>simp [ai] at h
 | d x=>
   cases y with
   | d y=>simp only [ai] at h ⊢; exact h
   | top=>simp [ai]
   | fn f' a' b'=>cases x <;> first | (simp only [ai] at h ⊢; exact h) | (simp [ai] at h)
   | _=>cases x <;> simp [ai] at h
 | yl o=>cases y <;> first | (simp only [ai] at h ⊢; exact h) | (simp [ai] at h ⊢)
 | mr o=>cases y <;> first | (simp only [ai] at h ⊢; exact h) | (simp [ai] at h ⊢)
 | ptr o c=>cases y <;> first | (simp only [ai] at h ⊢; exact h) | (simp [ai] at h ⊢)
 | rp o n e r c=>cases y <;> first | (simp only [ai] at h ⊢; exact h) | (simp [ai] at h ⊢)
 | ip r c=>cases y <;> first | (simp only [ai] at h ⊢; exact h) | (simp [ai] at h ⊢)
 | top=>cases y <;> first | (simp only [ai] at h ⊢; exact h) | (simp [ai] at h ⊢)
 | c_=>cases y <;> first | (simp only [ai] at h ⊢; done) | (simp only [ai] at h ⊢; exact h) | (simp [ai] at h ⊢)
theorem iI {ρ Z:List Nat} (hZ:∀ z∈Z,obj' z=obj z):∀ (xs ys:List LV),ah obj ρ Z xs ys→ah obj' ρ Z xs ys
 | [],[],_=>by simp [ah]
 | x::xs,y::ys,h=>by
   simp only [ah] at h ⊢
   exact ⟨Cp hZ x y h.1,iI hZ xs ys h.2⟩
 | [],_::_,h=>by simp [ah] at h
 | _::_,[],h=>by simp [ah] at h
end
theorem qb:∀ {Z:List Nat},(∀ z∈Z,obj' z=obj z)→fF obj' Z=fF obj Z
 | [],_=>rfl
 | z::Z,h=>by
   simp only [fF]
   rw [h z (by simp),qb (fun y hy=>h y (by simp [hy]))]
theorem jx.local {i:I} {e:eN} (h:jx P G get obj base i e) (hg:∀ t∈i.tmps,get' t=get t) (ho:∀ o∈e.rd,obj' o=obj o):jx P G get' obj' base i e:=by
 by_cases hi:∃ f args,i=.call f args
 ·obtain ⟨f,args,rfl⟩:=hi
  simp only [I.tmps,List.mem_append] at hg
  simp only [jx] at h ⊢
  rw [bR.cM (fun t ht=>hg t (.inl ht)),lM (fun t ht=>hg t (.inr ht))]
  split at h
  ·rename_i k fs cs hc
   obtain ⟨ρ,Z,tmp,aZ,aM,r,aF,keep,hkeep,hn,hz,xO,hl,hob,hid,rL,BQ,hle,Ak,rfl⟩:=h.ex
   simp only [List.mem_append] at ho
   have hZ:∀ z∈Z,obj' z=obj z:=fun z hz=>ho z (.inr hz)
   refine ⟨⟨ρ,Z,tmp,aZ,aM,r,aF,keep,hkeep,hn,hz,fun z hz=>by rw [hZ z hz]; exact xO z hz,hl,fun i o mT=>?_,hid,iI hZ _ _ rL,BQ,hle,Ak,by rw [qb hZ]⟩⟩
   obtain ⟨ob,k1,k2⟩:=hob i o mT
   exact ⟨ob,k1,by rw [ho o (.inl (List.mem_of_getElem? mT))]; exact k2⟩
  ·exact h.elim
 ·have e1:∀ get obj,jx P G get obj base i e=(cB G get obj base i=some e):=fun get obj=>by
   cases i <;> first | rfl | (exfalso; exact hi ⟨_,_,rfl⟩)
  rw [e1] at h ⊢
  rw [Lb hg]
  exact La h ho
theorem fZ.local {f:Nat} {args args':List LV} {p:Value} {e:eN} (h:fZ P G f args obj base p e) (ha:args'=args) (ho:∀ o∈e.rd,obj' o=obj o):fZ P G f args' obj' base p e:=by
 subst ha
 obtain ⟨ρ,Z,aZ,aM,aF,hn,hz,xO,hl,hob,hid,rL,hle,Ak,rfl⟩:=h.ex
 simp only [List.mem_append] at ho
 have hZ:∀ z∈Z,obj' z=obj z:=fun z hz=>ho z (.inr hz)
 refine ⟨⟨ρ,Z,aZ,aM,aF,hn,hz,fun z hz=>by rw [hZ z hz]; exact xO z hz,hl,fun i o mT=>?_,hid,iI hZ _ _ rL,hle,Ak,by rw [qb hZ]⟩⟩
 obtain ⟨ob,k1,k2⟩:=hob i o mT
 exact ⟨ob,k1,by rw [ho o (.inl (List.mem_of_getElem? mT))]; exact k2⟩
end
end Dv
namespace Dv
open Go
structure gC where
 pre:List Nat
 rd:List Nat
 wr:List Nat
def dD.tr (o:dD):List Nat:=o.op.tmps++(match o.guard with | some (g,_)=>[g] | none=>[])
def CE:Nat→List aD→List (Nat×aD)
 | _,[]=>[]
 | k,ob::r=>(k,ob)::CE (k+1) r
theorem ry:∀ (l:List aD) (k:Nat) (obj:Nat→cv),oU k l obj=cF (CE k l) obj
 | [],_,_=>rfl
 | ob::r,k,obj=>by simp only [oU,CE,cF,ry r]
theorem EZ:∀ (l:List aD) (k j:Nat),j<l.length→k+j∈(CE k l).map (·.1)
 | [],_,_,h=>by simp at h
 | ob::r,k,0,_=>by simp [CE]
 | ob::r,k,j+1,h=>by
   have:=EZ r (k+1) j (by simpa using h)
   simp only [CE,List.map_cons,List.mem_cons]
   right
   rw [show k+(j+1)=k+1+j by omega]; exact this
def eN.owned (base:Nat) (e:eN):List (Nat×aD):=CE base e.nw++e.wr
section
variable (P:Program) (G:Nat→Option (List DV))
abbrev YO:=List LV→List (Option aD)→LV→(LV→Bool→List (Option aD)→Prop)→Prop
def sQ:YO:=fun _ _ _ _=>False
def Xt (Y:YO) (fv:LV) (as:List LV) (dst:Option Nat) (s:St) (K:St→Prop):Prop:=match fv with
 | .yl oy=>Y (.yl oy::as) s.objs (s.get YS) (fun ys b ay=>K ⟨dU dst (.bool b) ((YS,ys)::s.env),ay⟩)
 | _=>False
def AJ (Y:YO) (X:Value→eN→St→Prop) (o:dD) (s:St) (K:St→eN→Prop):Prop:=
 match o.op with
 | .call f args=>match callee (f.ev G s.get) with
   | some (k,fs,cs)=>(∃ e,bX P G k (fs++args.map (·.ev G s.get)++cs) s.obj s.objs.length e∧K (s.app o.dst e) e)∨
     (∃ p e,fZ P G k (fs++args.map (·.ev G s.get)++cs) s.obj s.objs.length p e∧X p e (s.app none e))
   | none=>Xt Y (f.ev G s.get) (args.map (·.ev G s.get)) o.dst s (fun s'=>K s' { r:=.top })
 | i=>match cB G s.get s.obj s.objs.length i with
   | some e=>K (s.app o.dst e) e
   | none=>False
def AI (Y:YO) (X:Value→eN→St→Prop) (o:dD) (s:St) (K:St→eN→Prop) (K0:St→Prop):Prop:=
 match o.guard with
 | none=>AJ P G Y X o s K
 | some (g,want)=>match s.get g with
   | .d (.val (.bool b))=>if b=want then AJ P G Y X o s K else K0 (s.put o.dst .undef)
   | .d (.val (.tuple _))=>K0 (s.put o.dst .undef)
   | _=>False
def gD (Y:YO) (X:Value→St→Prop):List dD→St→(St→Prop)→Prop
 | [],s,K=>K s
 | o::os,s,K=>AI P G Y (fun p _ s'=>X p s') o s (fun s' _=>gD Y X os s' K) (fun s'=>gD Y X os s' K)
def wW (x y:gC):Bool:=x.wr.any (fun o=>y.rd.contains o||y.wr.contains o)||y.wr.any (fun o=>x.rd.contains o)
def indep (log:List gC):Bool:=
 (log.all fun e=>e.wr.isEmpty)||(List.range log.length).all fun j=>match log[j]? with
  | none=>true
  | some y=>(List.range j).all fun i=>match log[i]? with
    | none=>true
    | some x=>y.pre.contains i||!wW x y
def EX (log:List gC) (p:Nat) (pre:List Nat):Bool:=
 (pre.all fun i=>decide (i<p))&&(List.range log.length).all fun i=>pre.contains i||(match log[i]? with | some x=>x.wr.isEmpty | none=>true)
def tG (p:Nat) (pre:List Nat):List dD→St→List gC→Prop
 | [],_,log=>indep log=true∧EX log p pre=true
 | o::os,s,log=>if o.pre.contains p=true then tG p pre os (s.put o.dst .top) (log++[⟨o.pre,[],[]⟩])
   else AI P G sQ (fun _ _ _=>False) o s (fun s' e=>tG p pre os s' (log++[⟨o.pre,e.rd,(e.owned s.objs.length).map (·.1)⟩])) (fun s'=>tG p pre os s' (log++[⟨o.pre,[],[]⟩]))
def eA (X:Value→St→Prop):List dD→St→List gC→(St→List gC→Prop)→Prop
 | [],s,log,K=>K s log
 | o::os,s,log,K=>AI P G sQ (fun p e s'=>X p ⟨[],s'.objs⟩∧tG P G log.length o.pre os (s.put o.dst .top) (log++[⟨o.pre,e.rd,[]⟩])) o s
    (fun s' e=>eA X os s' (log++[⟨o.pre,e.rd,(e.owned s.objs.length).map (·.1)⟩]) K) (fun s'=>eA X os s' (log++[⟨o.pre,[],[]⟩]) K)
end
theorem wh {log:List gC} (h:indep log=true) {i j:Nat} {x y:gC} (hi:log[i]? = some x) (hj:log[j]? = some y) (hij:i<j) (hc:wW x y=true):i∈y.pre:=by
 unfold indep at h
 rw [Bool.or_eq_true] at h
 rcases h with h | h
 ·rw [List.all_eq_true] at h
  have h1:=h x (List.mem_of_getElem? hi)
  have h2:=h y (List.mem_of_getElem? hj)
  simp only [List.isEmpty_iff] at h1 h2
  simp [wW,h1,h2] at hc
 ·rw [List.all_eq_true] at h
  have hjl:=(List.getElem?_eq_some_iff.1 hj).1
  have h1:=h j (by simpa using hjl)
  rw [hj] at h1
  dsimp only at h1
  rw [List.all_eq_true] at h1
  have h2:=h1 i (by simpa using hij)
  rw [hi] at h2
  simp only [hc,Bool.not_true,Bool.or_false,List.contains_iff_mem] at h2
  exact h2
def B7 (N:Nat):Option Nat→Bool
 | none=>true
 | some d=>decide (d<N)
def rU (N:Nat) (ops:Array Oper):Option (Nat×Bool)→Option (Option (Nat×Bool))
 | none=>some none
 | some (j,want)=>match ops[j]? with
   | some oj=>match oj.dst with
     | some t=>if t<N then some (some (t,want)) else none
     | none=>none
   | none=>none
def fA (P:Program) (N:Nat) (ops:Array Oper) (o:Oper) (pre:List Nat):Option dD:=
 if B7 N o.dst then (match kH P o.op,rU N ops o.guard with
  | some i,some g=>some ⟨o.dst,i,g,pre⟩
  | _,_=>none) else none
def oL (P:Program) (N:Nat) (ops:Array Oper):List Oper→List (List Nat)→Option (List dD)
 | [],_=>some []
 | o::os,ps=>match fA P N ops o (ps.headD []),oL P N ops os ps.tail with
   | some x,some xs=>some (x::xs)
   | _,_=>none
theorem kG {P:Program} {N:Nat} {ops:Array Oper} : ∀ {os:List Oper} {ps:List (List Nat)} {eT:List dD},oL P N ops os ps=some eT→eT.length=os.length∧∀ (i:Nat) (o:Oper),os[i]? = some o→∃ io,eT[i]? = some io∧fA P N ops o io.pre=some io
 | [],ps,eT,h=>by simp only [oL] at h; cases h; exact ⟨rfl,fun i o h=>by simp at h⟩
 | o::os,ps,eT,h=>by
   simp only [oL] at h
   split at h
   ·rename_i x xs h1 h2
    cases h
    obtain ⟨k1,k2⟩:=kG h2
    refine ⟨by simp [k1],fun i o' hi=>?_⟩
    cases i with
    | zero=>
      simp at hi; subst hi
      refine ⟨x,by simp,?_⟩
      have:x.pre=ps.headD []:=by
       unfold fA at h1
       split at h1
       ·split at h1
        ·cases h1; rfl
        ·cases h1
       ·cases h1
      rw [this]; exact h1
    | succ i=>simpa using k2 i o' (by simpa using hi)
   ·cases h
def direct (o:Oper):List Nat:=(o.after.toList.filter (Region.binds .any ·)).map (·.on)
def Uj (xs ys:List Nat):List Nat:=xs.foldl (fun acc x=>if acc.contains x then acc else acc++[x]) ys
def SJ (ops:List Oper):List (List Nat):=
 ops.foldl (fun acc o=>acc++[(direct o).foldl (fun s k=>Uj (k::acc.getD k []) s) []]) []
def El (x y:dD):Bool:=match x.dst with
 | some t=>y.tr.contains t||y.dst==some t
 | none=>false
def Ay (x y:dD):Bool:=match y.dst with
 | some t=>x.tr.contains t
 | none=>false
def Jr (ops:List Oper) (eT:List dD):Bool:=
 (List.range ops.length).all fun j=>match ops[j]?,eT[j]? with
  | some o,some io=>((direct o).all fun k=>decide (k<j))&&
    (io.pre.all fun i=>decide (i<ops.length)&&(direct o).any fun k=>k==i||(match eT[k]? with | some z=>z.pre.contains i | none=>false))&&
    ((List.range j).all fun i=>match eT[i]? with | some x=>io.pre.contains i||!(El x io||Ay x io) | none=>false)
  | _,_=>false
def kD (P:Program) (N:Nat) (ops:Array Oper) (draw:Bool):Option (List dD):=
 if draw then (match oL P N ops ops.toList (SJ ops.toList) with
  | some eT=>if P.follows .mixedOrders&&Jr ops.toList eT then some eT else none
  | none=>none)
 else oL P N ops ops.toList []
def dV (o:dD) (s:St):Option Bool:=match o.guard with
 | none=>some true
 | some (g,want)=>match s.get g with
   | .d (.val (.bool b))=>some (b==want)
   | .d (.val (.tuple _))=>some false
   | _=>none
def pG (o:dD) (base:Nat) (e:eN):oo:={ tr:=o.tr,td:=o.dst,r:=e.r,rd:=e.rd,ow:=e.owned base }
def rO (o:dD):oo:={ tr:=o.tr,td:=o.dst,r:=.undef,rd:=[],ow:=[] }
def pH (P:Program) (G:Nat→Option (List DV)) (o:dD) (s:St) (ev:oo) (s':St):Prop:=
 (dV o s=some true∧∃ e,jx P G s.get s.obj s.objs.length o.op e∧ev=pG o s.objs.length e∧s'=s.app o.dst e)∨
 (dV o s=some false∧ev=rO o∧s'=s.put o.dst .undef)
section
variable {P:Program} {G:Nat→Option (List DV)}
def Cz (P:Program) (G:Nat→Option (List DV)) (o:dD) (s:St) (p:Value) (e:eN):Prop:=
 dV o s=some true∧∃ f args k fs cs,o.op=.call f args∧callee (f.ev G s.get)=some (k,fs,cs)∧fZ P G k (fs++args.map (·.ev G s.get)++cs) s.obj s.objs.length p e
def Zc (G:Nat→Option (List DV)) (Y:YO) (o:dD) (s:St) (K:St→Prop):Prop:=
 dV o s=some true∧∃ f args oy,o.op=.call f args∧f.ev G s.get=.yl oy∧Y (.yl oy::args.map (·.ev G s.get)) s.objs (s.get YS) (fun ys b ay=>K ⟨dU o.dst (.bool b) ((YS,ys)::s.env),ay⟩)
theorem LH {Y:YO} {X:Value→eN→St→Prop} {o:dD} {s:St} {K:St→eN→Prop} (h:AJ P G Y X o s K):(∃ e,jx P G s.get s.obj s.objs.length o.op e∧K (s.app o.dst e) e)∨
  (∃ p e,(∃ f args k fs cs,o.op=.call f args∧callee (f.ev G s.get)=some (k,fs,cs)∧fZ P G k (fs++args.map (·.ev G s.get)++cs) s.obj s.objs.length p e)∧X p e (s.app none e))∨
  (∃ f args oy,o.op=.call f args∧f.ev G s.get=.yl oy∧Y (.yl oy::args.map (·.ev G s.get)) s.objs (s.get YS) (fun ys b ay=>K ⟨dU o.dst (.bool b) ((YS,ys)::s.env),ay⟩ { r:=.top })):=by
 unfold AJ at h
 split at h
 ·rename_i f args hop
  split at h
  ·rename_i k fs cs hc
   rcases h with ⟨e,h1,h2⟩ | ⟨p,e,h1,h2⟩
   ·refine .inl ⟨e,?_,h2⟩
    rw [hop]
    simp only [jx,hc]; exact h1
   ·exact .inr (.inl ⟨p,e,⟨f,args,k,fs,cs,hop,hc,h1⟩,h2⟩)
  ·unfold Xt at h
   split at h
   ·rename_i oy dR
    exact .inr (.inr ⟨f,args,oy,hop,dR,h⟩)
   ·exact h.elim
 ·rename_i i hni
  split at h
  ·rename_i e he
   refine .inl ⟨e,?_,h⟩
   revert hni he
   cases o.op <;> intro hni he <;> first | exact he | (exfalso; exact hni _ _ rfl)
  ·exact h.elim
theorem xY {Y:YO} {X:Value→eN→St→Prop} {o:dD} {s:St} {K:St→eN→Prop} {K0:St→Prop} (h:AI P G Y X o s K K0) :
  (dV o s=some true∧∃ e,jx P G s.get s.obj s.objs.length o.op e∧K (s.app o.dst e) e)∨(dV o s=some false∧K0 (s.put o.dst .undef))∨(∃ p e,Cz P G o s p e∧X p e (s.app none e))∨Zc G Y o s (fun s'=>K s' { r:=.top }):=by
 have key:∀ {s:St},dV o s=some true→AJ P G Y X o s K→(dV o s=some true∧∃ e,jx P G s.get s.obj s.objs.length o.op e∧K (s.app o.dst e) e)∨(dV o s=some false∧K0 (s.put o.dst .undef))∨(∃ p e,Cz P G o s p e∧X p e (s.app none e))∨Zc G Y o s (fun s'=>K s' { r:=.top }):=fun hw h=>by
  rcases LH h with h | ⟨p,e,h1,h2⟩ | h
  ·exact .inl ⟨hw,h⟩
  ·exact .inr (.inr (.inl ⟨p,e,⟨hw,h1⟩,h2⟩))
  ·exact .inr (.inr (.inr ⟨hw,h⟩))
 unfold AI at h
 split at h
 ·rename_i hg
  exact key (by unfold dV; rw [hg]) h
 ·rename_i g want hg
  split at h
  ·rename_i b hb
   by_cases hbw:b=want
   ·rw [if_pos hbw] at h
    exact key (by unfold dV; rw [hg]; simp [hb,hbw]) h
   ·rw [if_neg hbw] at h
    exact .inr (.inl ⟨by unfold dV; rw [hg]; simp [hb,hbw],h⟩)
  ·rename_i v hb
   exact .inr (.inl ⟨by unfold dV; rw [hg]; simp [hb],h⟩)
  ·exact h.elim
theorem AQ {X:Value→eN→St→Prop} {o:dD} {s:St} {K:St→eN→Prop} {K0:St→Prop} (h:AI P G sQ X o s K K0) :
  (dV o s=some true∧∃ e,jx P G s.get s.obj s.objs.length o.op e∧K (s.app o.dst e) e)∨(dV o s=some false∧K0 (s.put o.dst .undef))∨(∃ p e,Cz P G o s p e∧X p e (s.app none e)):=by
 rcases xY h with h | h | h | ⟨_,f,args,oy,_,_,h⟩
 ·exact .inl h
 ·exact .inr (.inl h)
 ·exact .inr (.inr h)
 ·exact h.elim
theorem St.O1 (s:St) (dst:Option Nat) (e:eN):(s.app dst e).get=fE dst e.r s.get:=wC dst e.r s.env
theorem St.Am (s:St) (dst:Option Nat) (r:LV):(s.put dst r).get=fE dst r s.get:=wC dst r s.env
theorem St.Mf {s:St} {o:dD} {e:eN} (h:jx P G s.get s.obj s.objs.length o.op e):(s.app o.dst e).obj=cF (e.owned s.objs.length) s.obj:=by
 have hl:∀ p∈e.wr,p.1<s.objs.length:=fun p hp=>by
  obtain ⟨ob,hob⟩:=h.qG p hp
  exact zL hob
 funext q
 show aB (fN e.wr s.objs++e.nw.map some) q=_
 rw [FR s.objs e hl]
 simp only [bJ,eN.owned,gE,ry]
 rfl
theorem pH.next {o:dD} {s s':St} {ev:oo} (h:pH P G o s ev s'):s'.get=fE ev.td ev.r s.get∧s'.obj=cF ev.ow s.obj:=by
 rcases h with ⟨_,e,he,rfl,rfl⟩ | ⟨_,rfl,rfl⟩
 ·exact ⟨St.O1 ..,St.Mf he⟩
 ·exact ⟨St.Am ..,rfl⟩
def FE (o:dD):oo:={ tr:=o.tr,td:=o.dst,r:=.top,rd:=[],ow:=[] }
def Ea (o:dD) (e:eN):oo:={ tr:=o.tr,td:=o.dst,r:=.top,rd:=e.rd,ow:=[] }
def Cy (P:Program) (G:Nat→Option (List DV)) (p:Nat) (o:dD) (s:St) (ev:oo) (s':St):Prop:=
 (p∈o.pre∧ev=FE o∧s'=s.put o.dst .top)∨(p∉o.pre∧pH P G o s ev s')
theorem Cy.next {p:Nat} {o:dD} {s s':St} {ev:oo} (h:Cy P G p o s ev s'):s'.get=fE ev.td ev.r s.get∧s'.obj=cF ev.ow s.obj:=by
 rcases h with ⟨_,rfl,rfl⟩ | ⟨_,h⟩
 ·exact ⟨St.Am ..,rfl⟩
 ·exact h.next
def Xo (P:Program) (G:Nat→Option (List DV)) (p:Nat) (pre:List Nat) (os:List dD) (s:St) (log:List gC):Prop:=
 ∃ (ss:Nat→St) (es:Nat→oo) (fT:List gC),ss 0=s∧(∀ (i:Nat) (o:dD),os[i]? = some o→Cy P G p o (ss i) (es i) (ss (i+1)))∧(indep fT=true∧EX fT p pre=true)∧
   fT.length=log.length+os.length∧(∀ (i:Nat) (o:dD),os[i]? = some o→fT[log.length+i]? = some ⟨o.pre,(es i).rd,(es i).wr⟩)∧(∀ i,i<log.length→fT[i]? = log[i]?)
theorem xX {p:Nat} {pre:List Nat} : ∀ (os:List dD) (s:St) (log:List gC),tG P G p pre os s log→Xo P G p pre os s log
 | [],s,log,h=>⟨fun _=>s,fun _=>rO ⟨none,.mv (.t 0),none,[]⟩,log,rfl,fun i o hi=>by simp at hi,h,by simp,fun i o hi=>by simp at hi,fun _ _=>rfl⟩
 | o::os,s,log,h=>by
   have cons:∀ (s1:St) (ev:oo),Cy P G p o s ev s1→tG P G p pre os s1 (log++[⟨o.pre,ev.rd,ev.wr⟩])→Xo P G p pre (o::os) s log:=fun s1 ev hst hk=>by
    obtain ⟨ss,es,fT,h0,hs,hK,hlen,mu,hold⟩:=xX os _ _ hk
    refine ⟨fun i=>match i with | 0=>s | i+1=>ss i,fun i=>match i with | 0=>ev | i+1=>es i,fT,rfl,fun i o' hi=>?_,hK,?_,fun i o' hi=>?_,fun i hi=>?_⟩
    ·cases i with
     | zero=>
       simp at hi; subst hi
       rw [← h0] at hst; exact hst
     | succ i=>exact hs i o' (by simpa using hi)
    ·simp at hlen ⊢; omega
    ·cases i with
     | zero=>
       simp at hi; subst hi
       rw [Nat.add_zero,hold _ (by simp)]
       simp
     | succ i=>
       have:=mu i o' (by simpa using hi)
       rw [← this]; congr 1; simp; omega
    ·rw [hold i (by simp; omega),List.getElem?_append_left hi]
   simp only [tG] at h
   split at h
   ·rename_i hp
    exact cons _ (FE o) (.inl ⟨by simpa using hp,rfl,rfl⟩) h
   ·rename_i hp
    have hp:p∉o.pre:=by simpa using hp
    rcases AQ h with ⟨hw,e,he,hk⟩ | ⟨hw,hk⟩ | ⟨_,_,_,hk⟩
    ·exact cons _ (pG o s.objs.length e) (.inr ⟨hp,.inl ⟨hw,e,he,rfl,rfl⟩⟩) hk
    ·exact cons _ (rO o) (.inr ⟨hp,.inr ⟨hw,rfl,rfl⟩⟩) hk
    ·exact hk.elim
def mX (P:Program) (G:Nat→Option (List DV)) (X:Value→St→Prop) (p i:Nat) (o:dD) (s:St) (ev:oo) (s':St):Prop:=
 if i<p then pH P G o s ev s' else if i=p then (∃ v e,Cz P G o s v e∧X v ⟨[],(s.app none e).objs⟩∧ev=Ea o e∧s'=s.put o.dst .top) else Cy P G p o s ev s'
theorem mX.next {X:Value→St→Prop} {p i:Nat} {o:dD} {s s':St} {ev:oo} (h:mX P G X p i o s ev s'):s'.get=fE ev.td ev.r s.get∧s'.obj=cF ev.ow s.obj:=by
 unfold mX at h
 split at h
 ·exact h.next
 ·split at h
  ·obtain ⟨_,_,_,_,rfl,rfl⟩:=h
   exact ⟨St.Am ..,rfl⟩
  ·exact h.next
theorem mX.tr {X:Value→St→Prop} {p i:Nat} {o:dD} {s s':St} {ev:oo} (h:mX P G X p i o s ev s'):ev.tr=o.tr∧ev.td=o.dst:=by
 have hR:∀ {ev:oo},pH P G o s ev s'→ev.tr=o.tr∧ev.td=o.dst:=fun h=>by
  rcases h with ⟨_,e,_,h1,_⟩ | ⟨_,h1,_⟩ <;> rw [h1] <;> exact ⟨rfl,rfl⟩
 unfold mX at h
 split at h
 ·exact hR h
 ·split at h
  ·obtain ⟨_,_,_,_,rfl,rfl⟩:=h
   exact ⟨rfl,rfl⟩
  ·rcases h with ⟨_,rfl,_⟩ | ⟨_,h⟩
   ·exact ⟨rfl,rfl⟩
   ·exact hR h
def Xn (P:Program) (G:Nat→Option (List DV)) (K:St→List gC→Prop) (os:List dD) (s:St) (log:List gC):Prop:=
 ∃ (ss:Nat→St) (es:Nat→oo) (fT:List gC),ss 0=s∧(∀ (i:Nat) (o:dD),os[i]? = some o→pH P G o (ss i) (es i) (ss (i+1)))∧K (ss os.length) fT∧
   fT.length=log.length+os.length∧(∀ (i:Nat) (o:dD),os[i]? = some o→fT[log.length+i]? = some ⟨o.pre,(es i).rd,(es i).wr⟩)∧(∀ i,i<log.length→fT[i]? = log[i]?)
def Xm (P:Program) (G:Nat→Option (List DV)) (X:Value→St→Prop) (os:List dD) (s:St) (log:List gC):Prop:=
 ∃ (p:Nat) (op:dD) (ss:Nat→St) (es:Nat→oo) (fT:List gC),log.length≤p∧os[p-log.length]? = some op∧ss 0=s∧(∀ (i:Nat) (o:dD),os[i]? = some o→mX P G X p (log.length+i) o (ss i) (es i) (ss (i+1)))∧(indep fT=true∧EX fT p op.pre=true)∧
   fT.length=log.length+os.length∧(∀ (i:Nat) (o:dD),os[i]? = some o→fT[log.length+i]? = some ⟨o.pre,(es i).rd,(es i).wr⟩)∧(∀ i,i<log.length→fT[i]? = log[i]?)
theorem uT {X:Value→St→Prop} {K:St→List gC→Prop} : ∀ (os:List dD) (s:St) (log:List gC),eA P G X os s log K→Xn P G K os s log∨Xm P G X os s log
 | [],s,log,h=>.inl ⟨fun _=>s,fun _=>rO ⟨none,.mv (.t 0),none,[]⟩,log,rfl,fun i o hi=>by simp at hi,h,by simp,fun i o hi=>by simp at hi,fun _ _=>rfl⟩
 | o::os,s,log,h=>by
   have cons:∀ (s1:St) (ev:oo),pH P G o s ev s1→eA P G X os s1 (log++[⟨o.pre,ev.rd,ev.wr⟩]) K→Xn P G K (o::os) s log∨Xm P G X (o::os) s log:=fun s1 ev hst hk=>by
    rcases uT os _ _ hk with ⟨ss,es,fT,h0,hs,hK,hlen,mu,hold⟩ | ⟨p,op,ss,es,fT,mq,hop,h0,hs,hK,hlen,mu,hold⟩
    ·refine .inl ⟨fun i=>match i with | 0=>s | i+1=>ss i,fun i=>match i with | 0=>ev | i+1=>es i,fT,rfl,fun i o' hi=>?_,hK,?_,fun i o' hi=>?_,fun i hi=>?_⟩
     ·cases i with
      | zero=>
        simp at hi; subst hi
        rw [← h0] at hst; exact hst
      | succ i=>exact hs i o' (by simpa using hi)
     ·simp at hlen ⊢; omega
     ·cases i with
      | zero=>
        simp at hi; subst hi
        rw [Nat.add_zero,hold _ (by simp)]
        simp
      | succ i=>
        have:=mu i o' (by simpa using hi)
        rw [← this]; congr 1; simp; omega
     ·rw [hold i (by simp; omega),List.getElem?_append_left hi]
    ·simp only [List.length_append,List.length_cons,List.length_nil] at mq hop hs hlen mu
     refine .inr ⟨p,op,fun i=>match i with | 0=>s | i+1=>ss i,fun i=>match i with | 0=>ev | i+1=>es i,fT,by omega,?_,rfl,fun i o' hi=>?_,hK,?_,fun i o' hi=>?_,fun i hi=>?_⟩
     ·rw [show p-log.length=(p-(log.length+1))+1 by omega]; simpa using hop
     ·cases i with
      | zero=>
        simp at hi; subst hi
        unfold mX
        rw [if_pos (by omega)]
        rw [← h0] at hst; exact hst
      | succ i=>
        have:=hs i o' (by simpa using hi)
        rw [show log.length+(0+1)+i=log.length+(i+1) by omega] at this
        exact this
     ·simp; omega
     ·cases i with
      | zero=>
        simp at hi; subst hi
        rw [Nat.add_zero,hold _ (by simp)]
        simp
      | succ i=>
        have:=mu i o' (by simpa using hi)
        rw [← this]; congr 1; omega
     ·rw [hold i (by simp; omega),List.getElem?_append_left hi]
   simp only [eA] at h
   rcases AQ h with ⟨hw,e,he,hk⟩ | ⟨hw,hk⟩ | ⟨v,e,Ks,hX,hk⟩
   ·exact cons _ (pG o s.objs.length e) (.inl ⟨hw,e,he,rfl,rfl⟩) hk
   ·exact cons _ (rO o) (.inr ⟨hw,rfl,rfl⟩) hk
   ·obtain ⟨ss,es,fT,h0,hs,hK,hlen,mu,hold⟩:=xX os _ _ hk
    simp only [List.length_append,List.length_cons,List.length_nil] at hs hlen mu
    refine .inr ⟨log.length,o,fun i=>match i with | 0=>s | i+1=>ss i,fun i=>match i with | 0=>Ea o e | i+1=>es i,fT,Nat.le_refl _,by simp,rfl,fun i o' hi=>?_,hK,?_,fun i o' hi=>?_,fun i hi=>?_⟩
    ·cases i with
     | zero=>
       simp at hi; subst hi
       unfold mX
       rw [if_neg (by omega),if_pos (by omega)]
       exact ⟨v,e,Ks,hX,rfl,h0⟩
     | succ i=>
       have:=hs i o' (by simpa using hi)
       unfold mX
       rw [if_neg (by omega),if_neg (by omega)]
       exact this
    ·simp; omega
    ·cases i with
     | zero=>
       simp at hi; subst hi
       rw [Nat.add_zero,hold _ (by simp)]
       simp [Ea,oo.wr]
     | succ i=>
       have:=mu i o' (by simpa using hi)
       rw [← this]; congr 1; omega
    ·rw [hold i (by simp; omega),List.getElem?_append_left hi]
end
structure At (G:Nat→Option (List DV)) (D:Dk) (N:Nat) (br:Nat→cv) (J0:Nat→Prop) (cw:Nat→Nat→Option Nat) (w0:World) (get:Nat→LV) (obj:Nat→cv) (a:Act) (w:World):Prop where
 mk::
 ex:∃ J ι,Xk G D N J w ι a get obj∧Ext br obj J0 J cw ι w0 w
section
variable {P:Program} {G:Nat→Option (List DV)} {D:Dk} {N:Nat} {br:Nat→cv} {J0:Nat→Prop} {cw:Nat→Nat→Option Nat} {w0:World} {ops:Array Oper} {Q:Exit→Act→World→Prop} {ro:Option Nat} {nn:Nat}
theorem rT {o:Oper} {i:I} (h:kH P o.op=some i) (hs:i≠.more .stk) (c:Call):o.op≠.defer c:=by
 intro hc
 rw [hc] at h
 have:kH P (.defer c)=some (.more .stk):=by
  have h1:wQ P (.defer c)=none:=rfl
  simp only [kH,h1,cu,gu]
 rw [this] at h
 exact hs (Option.some.inj h).symm
theorem jx.U8 {get:Nat→LV} {obj:Nat→cv} {base:Nat} {i:I} {e:eN} (h:jx P G get obj base i e):i≠.more .stk:=by
 rintro rfl
 simp [jx,cB,eU] at h
theorem At.drew {get:Nat→LV} {obj:Nat→cv} {a:Act} {w:World} {n:Nat} (h:At G D N br J0 cw w0 get obj a w):At G D N br J0 cw w0 get obj a { w with drawn:=n }:=by
 obtain ⟨J,ι,S,E⟩:=h.ex
 have E1:Ext obj obj J J ι ι w { w with drawn:=n }:=⟨⟨rfl,rfl,rfl,Nat.le_refl _,fun _ _ _=>rfl,fun _ _=>rfl,fun _ h=>h,fun _ h=>.inl h,fun _ _ _ h=>h⟩,fun _ h=>.inl h⟩
 refine ⟨J,ι,⟨⟨fun o=>mN.keep S.store E1.ev (fun _=>rfl) (fun _ _=>rfl),S.store.inj,S.store.qq,S.store.jcell,fun g row hg=>?_⟩,fun t=>(S.env t).ev S.store E1.ev,S.size,S.defers.keep (E1.nc S.store),D.keep _ _ _ (E1.nc S.store) S.ys,S.lim⟩,E.trans E1⟩
 obtain ⟨h1,h2,h3⟩:=S.store.wA g row hg
 exact ⟨h1,h2.ev S.store E1.ev h1,h3⟩
theorem zG {o:Oper} {io:dD} (hc:fA P N ops o io.pre=some io) {s:St} {ev:oo} {s':St} (hst:pH P G io s ev s') {get:Nat→LV} {obj:Nat→cv}
  (hg:∀ t,t∈ev.tr∨ev.td=some t→get t=s.get t) (ho:∀ q,q∈ev.rd∨q∈ev.wr→obj q=s.obj q) {a:Act} {w:World} (hA:At G D N br J0 cw w0 get obj a w) {K:Act→World→Prop}
  (hK:∀ a' w',At G D N br J0 cw w0 (fE ev.td ev.r get) (cF ev.ow obj) a' w'→K a' w') :
  if Region.wanted o (yielded ops a.tmps) then o.wpIn (fz ro) nn P a w K Q else (∀ f,o.about P w a.eval=some f→(fz ro).fn f)∧K (a.put o.dst Go.undef) w:=by
 obtain ⟨J,ι,S,E⟩:=hA.ex
 obtain ⟨KJ,i,g,hi,hgd,mT⟩:B7 N o.dst=true∧∃ i g,kH P o.op=some i∧rU N ops o.guard=some g∧io=⟨o.dst,i,g,io.pre⟩:=by
  unfold fA at hc
  split at hc
  ·rename_i hd
   split at hc
   ·rename_i i g h1 h2
    exact ⟨hd,i,g,h1,h2,(Option.some.inj hc).symm⟩
   ·cases hc
  ·cases hc
 have OV:∀ d,o.dst=some d→d<N:=fun d hd=>by rw [hd] at KJ; simpa [B7] using KJ
 have KC:io.dst=o.dst:=by rw [mT]
 have Af:io.op=i:=by rw [mT]
 have DY:io.guard=g:=by rw [mT]
 have htr:ev.tr=io.tr:=by rcases hst with ⟨_,e,_,rfl,_⟩ | ⟨_,rfl,_⟩ <;> rfl
 have htd:ev.td=o.dst:=by rcases hst with ⟨_,e,_,rfl,_⟩ | ⟨_,rfl,_⟩ <;> exact KC
 -- whether it is wanted
 have yO:∀ b,dV io s=some b→Region.wanted o (yielded ops a.tmps)=b:=by
  intro b hb
  unfold dV at hb
  rw [DY] at hb
  cases G5:o.guard with
  | none=>
    rw [G5] at hgd
    simp only [rU] at hgd; cases hgd
    simp only [Region.wanted,G5]
    exact Option.some.inj hb
  | some p=>
    obtain ⟨j,want⟩:=p
    rw [G5] at hgd
    simp only [rU] at hgd
    split at hgd
    ·rename_i oj AL
     split at hgd
     ·rename_i t ht
      split at hgd
      ·rename_i VQ
       cases hgd
       dsimp only at hb
       have hgt:get t=s.get t:=hg t (.inl (by rw [htr]; simp [dD.tr,DY]))
       have rJ:=S.env t
       rw [hgt] at rJ
       have hval:a.tmps[t]? = some (a.tmps.getD t Go.undef):=by
        have:t<a.tmps.size:=by rw [S.size]; exact VQ
        simp [this]
       simp only [Region.wanted,G5,yielded,AL,Option.bind_some,ht,hval]
       split at hb
       ·rename_i b' hb'
        rw [hb'] at rJ
        have:a.tmps.getD t Go.undef=.bool b':=rJ
        rw [this]
        have:=Option.some.inj hb
        rw [← this]
        cases b' <;> cases want <;> rfl
       ·rename_i v hv
        rw [hv] at rJ
        have:a.tmps.getD t Go.undef=.tuple v:=rJ
        rw [this]
        have:=Option.some.inj hb
        rw [← this]; rfl
       ·cases hb
      ·cases hgd
     ·cases hgd
    ·cases hgd
 rcases hst with ⟨hw,e,he,rfl,rfl⟩ | ⟨hw,rfl,rfl⟩
 ·rw [yO true hw,if_pos rfl]
  have he':jx P G get obj s.objs.length io.op e:=he.local (fun t ht=>hg t (.inl (by simp [pG,dD.tr,ht]))) (fun q hq=>ho q (.inl hq))
  have hfree:∀ j,j<e.nw.length→obj (s.objs.length+j)=.free:=fun j hj=>by
   rw [ho _ (.inr (by
    simp only [pG,oo.wr,eN.owned,List.map_append,List.mem_append]
    exact .inl (EZ _ _ _ hj)))]
   exact cR (by omega)
  rw [Af] at he'
  refine Sk (rT hi he'.U8) (EG S.store S.env he' hfree hi K Q (fun v w' Y6=>hK _ _ ?_))
  obtain ⟨J',ι',S',E'⟩:=S.step (dst:=o.dst) OV Y6
  refine ⟨J',ι',?_,?_⟩
  ·have e1:(pG io s.objs.length e).td=o.dst:=KC
   rw [e1]
   have e2:cF (pG io s.objs.length e).ow obj=bJ obj s.objs.length e:=by
    simp only [pG,eN.owned,gE,bJ,ry]
   rw [e2]; exact S'
  ·have e2:cF (pG io s.objs.length e).ow obj=bJ obj s.objs.length e:=by
    simp only [pG,eN.owned,gE,bJ,ry]
   rw [e2]; exact E.trans E'
 ·rw [yO false hw]
  simp only [Bool.false_eq_true,if_false]
  refine ⟨fun _ _=>trivial,hK _ _ ?_⟩
  obtain ⟨J',ι',S',E'⟩:=S.step (dst:=o.dst) OV (a_.stay S.store (r:=.undef) (v:=Go.undef) rfl)
  exact ⟨J',ι',by rw [htd]; exact S',E.trans E'⟩
def Sx (G:Nat→Option (List DV)) (br:Nat→cv) (J0:Nat→Prop) (cw:Nat→Nat→Option Nat) (w0:World) (get:Nat→LV) (obj:Nat→cv) (a:Act) (w:World):Prop:=∃ J ι,aJ G J w ι obj∧Ext br obj J0 J cw ι w0 w∧∀ t,cQ J w ι (get t) (a.tmps.getD t Go.undef)
theorem Jm {o:Oper} {io:dD} (hc:fA P N ops o io.pre=some io) {s:St} {v:Value} {e:eN} (hp:Cz P G io s v e) {get:Nat→LV} {obj:Nat→cv}
  (hg:∀ t,t∈io.tr→get t=s.get t) (ho:obj=s.obj) {a:Act} {w:World} (hA:At G D N br J0 cw w0 get obj a w) (K:Act→World→Prop)
  (hX:(D.sU=false→a.defers=D.ds)→∀ w',Sx G br J0 cw w0 get (s.app none e).obj a w'→Q (.panic [{ v:=v,recovered:=false }]) a w'):Region.wanted o (yielded ops a.tmps)=true∧o.wpIn (fz ro) nn P a w K Q:=by
 obtain ⟨J,ι,S,E⟩:=hA.ex
 obtain ⟨i,g,hi,hgd,mT⟩:∃ i g,kH P o.op=some i∧rU N ops o.guard=some g∧io=⟨o.dst,i,g,io.pre⟩:=by
  unfold fA at hc
  split at hc
  ·split at hc
   ·rename_i i g h1 h2
    exact ⟨i,g,h1,h2,(Option.some.inj hc).symm⟩
   ·cases hc
  ·cases hc
 have Af:io.op=i:=by rw [mT]
 have DY:io.guard=g:=by rw [mT]
 -- whether it is wanted
 have yO:∀ b,dV io s=some b→Region.wanted o (yielded ops a.tmps)=b:=by
  intro b hb
  unfold dV at hb
  rw [DY] at hb
  cases G5:o.guard with
  | none=>
    rw [G5] at hgd
    simp only [rU] at hgd; cases hgd
    simp only [Region.wanted,G5]
    exact Option.some.inj hb
  | some p=>
    obtain ⟨j,want⟩:=p
    rw [G5] at hgd
    simp only [rU] at hgd
    split at hgd
    ·rename_i oj AL
     split at hgd
     ·rename_i t ht
      split at hgd
      ·rename_i VQ
       cases hgd
       dsimp only at hb
       have hgt:get t=s.get t:=hg t (by simp [dD.tr,DY])
       have rJ:=S.env t
       rw [hgt] at rJ
       have hval:a.tmps[t]? = some (a.tmps.getD t Go.undef):=by
        have:t<a.tmps.size:=by rw [S.size]; exact VQ
        simp [this]
       simp only [Region.wanted,G5,yielded,AL,Option.bind_some,ht,hval]
       split at hb
       ·rename_i b' hb'
        rw [hb'] at rJ
        have:a.tmps.getD t Go.undef=.bool b':=rJ
        rw [this]
        have:=Option.some.inj hb
        rw [← this]
        cases b' <;> cases want <;> rfl
       ·rename_i v hv
        rw [hv] at rJ
        have:a.tmps.getD t Go.undef=.tuple v:=rJ
        rw [this]
        have:=Option.some.inj hb
        rw [← this]; rfl
       ·cases hb
      ·cases hgd
     ·cases hgd
    ·cases hgd
 obtain ⟨hw,f,args,k,fs,cs,hop,gY,ZK⟩:=hp
 refine ⟨yO true hw,?_⟩
 rw [Af] at hop
 subst hop
 have hf:f.ev G get=f.ev G s.get:=bR.cM (fun t ht=>hg t (by simp [dD.tr,Af,I.tmps,ht]))
 have ha:args.map (·.ev G get)=args.map (·.ev G s.get):=lM (fun t ht=>hg t (by simp only [dD.tr,Af,I.tmps,List.mem_append]; exact .inl (.inr ht)))
 have hl:∀ p∈e.wr,p.1<s.objs.length:=fun p hp=>by
  obtain ⟨ob,hob⟩:=ZK.qG p hp
  exact zL hob
 refine Sk (rT hi (by simp)) (Li S.store S.env (by rw [hf]; exact gY) (ZK.local (by rw [ha]) (fun q _=>by rw [ho])) (fun j _=>?_) hi K Q (fun w' Y6=>hX S.defers.none w' ?_))
 ·rw [ho]; exact cR (by omega)
 ·obtain ⟨J',ι',S',_,E'⟩:=Y6
  have e1:(s.app none e).obj=bJ obj s.objs.length e:=by
   rw [ho]; exact FR s.objs e hl
  rw [e1]
  exact ⟨J',ι',S',E.trans E',fun t=>(S.env t).ev S.store E'.ev⟩
def oZ (P:Program) (G:Nat→Option (List DV)) (ro:Option Nat) (Y:YO) (D:Dk) (N:Nat) (br:Nat→cv) (J0:Nat→Prop) (cw:Nat→Nat→Option Nat) (w0:World):Prop:=
 ∀ oy args objs ys K',Y (.yl oy::args) objs ys K'→∀ get a w,At G D N br J0 cw w0 get (aB objs) a w→get YS=ys→∀ (y:Value) (vs:List Value),(∃ J ι,Xk G D N J w ι a get (aB objs)∧Ext br (aB objs) J0 J cw ι w0 w∧cQ J w ι (.yl oy) y∧bW J w ι args vs)→
   ∃ l,y=.func (.yield l) #[] #[]∧∀ nn,YieldAt (fz ro) nn P l vs.toArray w (fun e w'=>∃ ys' b ay,e=.returned (.bool b)∧K' ys' b ay∧∀ dst,(∀ d,dst=some d→d<N)→At G D N br J0 cw w0 (fE dst (.bool b) (fun t=>if YS=t then ys' else get t)) (aB ay) (a.put dst (.bool b)) w')
theorem oZ.no {D:Dk} {N:Nat} {br:Nat→cv} {J0:Nat→Prop} {cw:Nat→Nat→Option Nat} {w0:World} : oZ P G ro sQ D N br J0 cw w0:=fun _ _ _ _ _ h=>h.elim
theorem Jl {Y:YO} (hY:oZ P G ro Y D N br J0 cw w0) {o:Oper} {io:dD} (hc:fA P N ops o io.pre=some io) {s:St} {K0:St→Prop} (hst:Zc G Y io s K0) {a:Act} {w:World} (hA:At G D N br J0 cw w0 s.get s.obj a w) {K:Act→World→Prop}
  (hK:∀ s' a' w',K0 s'→At G D N br J0 cw w0 s'.get s'.obj a' w'→K a' w'):Region.wanted o (yielded ops a.tmps)=true∧o.wpIn (fz ro) nn P a w K Q:=by
 obtain ⟨hw,f,args,oy,hop,dR,hY0⟩:=hst
 obtain ⟨J,ι,S,E⟩:=hA.ex
 obtain ⟨KJ,i,g,hi,hgd,mT⟩:B7 N o.dst=true∧∃ i g,kH P o.op=some i∧rU N ops o.guard=some g∧io=⟨o.dst,i,g,io.pre⟩:=by
  unfold fA at hc
  split at hc
  ·rename_i hd
   split at hc
   ·rename_i i g h1 h2
    exact ⟨hd,i,g,h1,h2,(Option.some.inj hc).symm⟩
   ·cases hc
  ·cases hc
 have OV:∀ d,o.dst=some d→d<N:=fun d hd=>by rw [hd] at KJ; simpa [B7] using KJ
 have KC:io.dst=o.dst:=by rw [mT]
 have Af:io.op=i:=by rw [mT]
 have DY:io.guard=g:=by rw [mT]
 have yO:Region.wanted o (yielded ops a.tmps)=true:=by
  have hb:=hw
  unfold dV at hb
  rw [DY] at hb
  cases G5:o.guard with
  | none=>simp only [Region.wanted,G5]
  | some p=>
    obtain ⟨j,want⟩:=p
    rw [G5] at hgd
    simp only [rU] at hgd
    split at hgd
    ·rename_i oj AL
     split at hgd
     ·rename_i t ht
      split at hgd
      ·rename_i VQ
       cases hgd
       dsimp only at hb
       have rJ:=S.env t
       have hval:a.tmps[t]? = some (a.tmps.getD t Go.undef):=by
        have:t<a.tmps.size:=by rw [S.size]; exact VQ
        simp [this]
       simp only [Region.wanted,G5,yielded,AL,Option.bind_some,ht,hval]
       split at hb
       ·rename_i b' hb'
        rw [hb'] at rJ
        have:a.tmps.getD t Go.undef=.bool b':=rJ
        rw [this]
        have:=Option.some.inj hb
        revert this
        cases b' <;> cases want <;> simp
       ·rename_i v hv
        cases hb
       ·cases hb
      ·cases hgd
     ·cases hgd
    ·cases hgd
 refine ⟨yO,?_⟩
 rw [Af] at hop
 subst hop
 replace hi:=qv hi
 obtain ⟨dst,op,type,pos,after,guard⟩:=o
 dsimp only at hi KC OV ⊢
 obtain ⟨F,as,ts,rfl,hF,hargs⟩:∃ F as ts,op=.call ⟨.value F,as,ts⟩∧aI F=some f∧eo as.toList=some args:=by
  cases op with
  | call c=>
    obtain ⟨callee,as,ts⟩:=c
    cases callee with
    | value F=>
      simp only [cu] at hi
      split at hi
      ·rename_i f' args' h1 h2; cases hi; exact ⟨F,as,ts,rfl,h1,h2⟩
      ·cases hi
    | invoke r m=>simp [cu] at hi
    | builtin b=>
      exfalso
      cases b <;> simp only [cu] at hi <;> (repeat' split at hi) <;> cases hi
  | unOp u T x=>exfalso; cases u <;> simp only [cu] at hi <;> (try (cases hi; done)) <;> (repeat' split at hi) <;> cases hi
  | _=>
    exfalso
    simp only [cu] at hi <;> (repeat' split at hi) <;> cases hi
 have wj:=aT S.store S.env hF
 have V_:=oA S.store S.env hargs
 rw [dR] at wj
 obtain ⟨l,hyl,Ac⟩:=hY _ _ _ _ _ hY0 s.get a w hA rfl (a.eval F) (as.toList.map a.eval) ⟨J,ι,S,E,wj,V_⟩
 obtain ⟨fn,tmps,assign,body,hrun,hR⟩:=Ac (nn-1)
 refine ⟨fun _ _=>trivial,?_⟩
 rw [Oper.semAt_eq _ _ _ (fun c h=>by cases h)]
 have hex:(execOp a.eval ⟨dst,.call ⟨.value F,as,ts⟩,type,pos,after,guard⟩).run P w=.ok (.round l fn tmps assign body) w:=by
  have e1:as.map a.eval=(as.toList.map a.eval).toArray:=by
   apply Array.toList_inj.1
   simp
  simp only [execOp,resolve,Sem.run_bind,hyl,Deferred.ofValue,Sem.run_pure,Result.andThen_ok,invoke,callFunc,e1]
  simpa using hrun
 rw [hex,Oper.uponIn_round]
 refine ⟨(fun hh=>by cases hh),hR.mono (fun e w' hq=>?_)⟩
 obtain ⟨ys',b,ay,rfl,hk,hat⟩:=hq
 refine hK _ _ _ hk ?_
 have:=hat dst OV
 have e2:(St.get ⟨dU io.dst (.bool b) ((YS,ys')::s.env),ay⟩)=fE dst (.bool b) (fun t=>if YS=t then ys' else s.get t):=by
  show bx _=_
  rw [wC,KC]
  rfl
 rw [e2]
 exact this
theorem yB {Y:YO} (hY:oZ P G ro Y D N br J0 cw w0) {X:Value→eN→St→Prop} (hX:∀ v e s a w,(D.sU=false→a.defers=D.ds)→Sx G br J0 cw w0 s.get s.obj a w→X v e s→Q (.panic [{ v:=v,recovered:=false }]) a w)
  {o:Oper} {io:dD} (h2:fA P N ops o io.pre=some io) {s:St} {K:St→eN→Prop} {K0:St→Prop} (hv:AI P G Y X io s K K0) {a:Act} {w:World} (hA:At G D N br J0 cw w0 s.get s.obj a w) {K':Act→World→Prop}
  (h1:∀ s' e a' w',K s' e→At G D N br J0 cw w0 s'.get s'.obj a' w'→K' a' w') (h0:∀ s' a' w',K0 s'→At G D N br J0 cw w0 s'.get s'.obj a' w'→K' a' w') :
  if Region.wanted o (yielded ops a.tmps) then o.wpIn (fz ro) nn P a w K' Q else (∀ f,o.about P w a.eval=some f→(fz ro).fn f)∧K' (a.put o.dst Go.undef) w:=by
 have nW:∀ s' ev,pH P G io s ev s'→(∀ a' w',At G D N br J0 cw w0 s'.get s'.obj a' w'→K' a' w')→if Region.wanted o (yielded ops a.tmps) then o.wpIn (fz ro) nn P a w K' Q else (∀ f,o.about P w a.eval=some f→(fz ro).fn f)∧K' (a.put o.dst Go.undef) w:=by
  intro s' ev hst VO
  obtain ⟨hn1,hn2⟩:=hst.next
  refine zG h2 hst (fun _ _=>rfl) (fun _ _=>rfl) hA (fun a' w' wv=>VO a' w' ?_)
  rw [← hn1,← hn2] at wv
  exact wv
 rcases xY hv with ⟨hw,e,he,hk⟩ | ⟨hw,hk⟩ | ⟨v,e,hp,hk⟩ | hy
 ·exact nW _ _ (.inl ⟨hw,e,he,rfl,rfl⟩) (fun a' w'=>h1 _ _ a' w' hk)
 ·exact nW _ _ (.inr ⟨hw,rfl,rfl⟩) (fun a' w'=>h0 _ a' w' hk)
 ·obtain ⟨h3,h4⟩:=Jm (Q:=Q) h2 hp (fun _ _=>rfl) rfl hA K' (fun hd w' hO=>hX v _ _ a w' hd hO hk)
  rw [h3,if_pos rfl]; exact h4
 ·obtain ⟨h3,h4⟩:=Jl (Q:=Q) hY h2 hy hA (fun s' a' w' hk wv=>h1 _ _ _ _ hk wv)
  rw [h3,if_pos rfl]; exact h4
theorem sH {Y:YO} (hY:oZ P G ro Y D N br J0 cw w0) {X:Value→St→Prop} {K:St→Prop} (hQ:∀ s a w,At G D N br J0 cw w0 s.get s.obj a w→K s→Q .normal a w) (hX:∀ v s a w,(D.sU=false→a.defers=D.ds)→Sx G br J0 cw w0 s.get s.obj a w→X v s→Q (.panic [{ v:=v,recovered:=false }]) a w) :
  ∀ (os:List Oper) (eT:List dD) (s:St) (a:Act) (w:World),eT.length=os.length→(∀ (i:Nat) (o:Oper),os[i]? = some o→∃ io,eT[i]? = some io∧fA P N ops o io.pre=some io)→gD P G Y X eT s K→
    At G D N br J0 cw w0 s.get s.obj a w→wpListIn (fz ro) nn P ops Q os a w
 | [],eT,s,a,w,hl,hc,hv,hA=>by
   cases eT with
   | nil=>exact hQ s a w hA hv
   | cons _ _=>simp at hl
 | o::os,[],s,a,w,hl,hc,hv,hA=>by simp at hl
 | o::os,io::eT,s,a,w,hl,hc,hv,hA=>by
   obtain ⟨Zt,h1,h2⟩:=hc 0 o (by simp)
   simp at h1; subst h1
   refine wpListIn_step (fun K' hK'=>?_)
   simp only [gD] at hv
   have hnext:∀ s' a' w',gD P G Y X eT s' K→At G D N br J0 cw w0 s'.get s'.obj a' w'→K' a' w':=fun s' a' w' VO wv=>
    hK' _ _ (sH hY hQ hX os eT s' a' w' (by simpa using hl) (fun i o' hi=>by simpa using hc (i+1) o' (by simpa using hi)) VO wv)
   exact yB hY (fun v _ s a w h1 h2 h3=>hX v s a w h1 h2 h3) h2 hv hA (fun s' _=>hnext s') hnext
structure Ord (P:Program) (N:Nat) (ops:Array Oper) (eT:List dD):Prop where
 mix:P.follows .mixedOrders=true
 len:eT.length=ops.size
 at_:∀ i,i<ops.size→∃ o io,ops[i]? = some o∧eT[i]? = some io∧fA P N ops o io.pre=some io
 dr:∀ j o io,ops[j]? = some o→eT[j]? = some io→(∀ k∈direct o,k<j)∧(∀ i∈io.pre,i<ops.size∧∃ k∈direct o,k=i∨∃ z,eT[k]? = some z∧i∈z.pre)∧
   (∀ i x,i<j→eT[i]? = some x→i∈io.pre∨(El x io=false∧Ay x io=false))
def LG (eT:List dD) (i j:Nat):Prop:=∃ io,eT[j]? = some io∧i∈io.pre
theorem Ord.of {eT:List dD} (hc:kD P N ops true=some eT):Ord P N ops eT:=by
 simp only [kD,if_true] at hc
 split at hc
 ·rename_i Z7 hcs
  split at hc
  ·rename_i hok
   cases hc
   rw [Bool.and_eq_true] at hok
   obtain ⟨YA,KK⟩:=hok
   obtain ⟨hlen,jU⟩:=kG hcs
   simp only [Array.length_toList] at hlen
   unfold Jr at KK
   rw [List.all_eq_true] at KK
   refine ⟨YA,hlen,fun i hi=>?_,fun j o io AL hij=>?_⟩
   ·obtain ⟨io,k1,k2⟩:=jU i ops[i] (by simp)
    exact ⟨ops[i],io,Array.getElem?_eq_getElem hi,k1,k2⟩
   ·have Ws:=(Array.getElem?_eq_some_iff.1 AL).1
    have h1:=KK j (by simpa using Ws)
    have Yv:ops.toList[j]? = some o:=by simpa using AL
    rw [Yv,hij] at h1
    simp only [Bool.and_eq_true,List.all_eq_true,decide_eq_true_eq,List.any_eq_true,Bool.or_eq_true,beq_iff_eq] at h1
    obtain ⟨⟨h2,h3⟩,h4⟩:=h1
    refine ⟨h2,fun i hi=>?_,fun i x hilt hx=>?_⟩
    ·obtain ⟨h5,k,hk,h6⟩:=h3 i hi
     refine ⟨by simpa using h5,k,hk,h6.imp id (fun h=>?_)⟩
     split at h
     ·rename_i z hz; exact ⟨z,hz,by simpa using h⟩
     ·cases h
    ·have:=h4 i (by simpa using hilt)
     rw [hx] at this
     simp only [Bool.or_eq_true,Bool.not_eq_true',List.contains_iff_mem,Bool.or_eq_false_iff] at this
     exact this
  ·cases hc
 ·cases hc
theorem Ord.pre {eT:List dD} (h:Ord P N ops eT) (j:Nat) (o:Oper) (ho:ops[j]? = some o) (i:Nat) (hij:LG eT i j):∃ e∈o.after,Region.binds .any e=true∧(e.on=i∨LG eT i e.on):=by
 obtain ⟨io,mT,hmem⟩:=hij
 obtain ⟨_,h2,_⟩:=h.dr j o io ho mT
 obtain ⟨_,k,hk,h3⟩:=h2 i hmem
 simp only [direct,List.mem_map,List.mem_filter,Array.mem_toList_iff] at hk
 obtain ⟨e,⟨he,hb⟩,wm⟩:=hk
 refine ⟨e,he,hb,?_⟩
 rw [wm]
 exact h3.imp id (fun ⟨z,hz,hiz⟩=>⟨z,hz,hiz⟩)
theorem Ord.back {eT:List dD} (h:Ord P N ops eT) (j:Nat) (o:Oper) (ho:ops[j]? = some o) (e:Edge) (he:e∈o.after) (hb:Region.binds .any e=true):e.on<j:=by
 obtain ⟨_,io,_,mT,_⟩:=h.at_ j (Array.getElem?_eq_some_iff.1 ho).1
 obtain ⟨h1,_,_⟩:=h.dr j o io ho mT
 refine h1 e.on ?_
 simp only [direct,List.mem_map,List.mem_filter,Array.mem_toList_iff]
 exact ⟨e,⟨he,hb⟩,rfl⟩
theorem Ord.lt {eT:List dD} (h:Ord P N ops eT) (i j:Nat) (hij:LG eT i j):i<ops.size:=by
 obtain ⟨io,mT,hmem⟩:=hij
 have hj:j<ops.size:=by rw [← h.len]; exact (List.getElem?_eq_some_iff.1 mT).1
 obtain ⟨o,Zt,ho,KD,_⟩:=h.at_ j hj
 rw [mT] at KD; cases KD
 obtain ⟨_,h2,_⟩:=h.dr j o io ho mT
 exact (h2 i hmem).1
def K5:oo:={ tr:=[],td:=none,r:=.top,rd:=[],ow:=[] }
theorem wM {X:Value→St→Prop} {K:St→Prop} {eT:List dD} (O:Ord P N ops eT) {lo hi:Nat} (Wo:lo≤hi) (hhi:hi≤ops.size) (G_:∀ i j,i<hi→hi≤j→j<ops.size→LG eT i j) {sg:List dD} (CG:sg.length=hi-lo)
  (hsg:∀ i io x,eT[lo+i]? = some io→sg[i]? = some x→x.dst=io.dst∧x.op=io.op∧x.guard=io.guard∧∀ k∈x.pre,lo+k∈io.pre)
  (hQ:∀ s a w listed,At G D N br J0 cw w0 s.get s.obj a w→K s→listed.size=ops.size→(∀ j,listed.getD j false=decide (j<hi))→wpAnyIn (fz ro) nn P .any ops Q (listed.toList.count false) listed a w)
  (hX:∀ v s a w,(D.sU=false→a.defers=D.ds)→Sx G br J0 cw w0 s.get s.obj a w→X v s→Q (.panic [{ v:=v,recovered:=false }]) a w) {s:St} (hv:eA P G X sg s [] (fun s log=>indep log=true∧K s)) {a:Act} {w:World}
  (hA:At G D N br J0 cw w0 s.get s.obj a w) {listed:Array Bool} (hls:listed.size=ops.size) (hD:∀ j,listed.getD j false=decide (j<lo)):wpAnyIn (fz ro) nn P .any ops Q (listed.toList.count false) listed a w:=by
 have DO:∀ i,lo≤i→i<hi→∃ o io x,ops[i]? = some o∧eT[i]? = some io∧sg[i-lo]? = some x∧fA P N ops o x.pre=some x∧x.dst=io.dst∧x.tr=io.tr∧∀ k∈x.pre,lo+k∈io.pre:=by
  intro i h1 h2
  obtain ⟨o,io,ho,mT,iH⟩:=O.at_ i (by omega)
  have hx:=List.getElem?_eq_getElem (l:=sg) (i:=i-lo) (by omega)
  obtain ⟨q1,q2,q3,q4⟩:=hsg (i-lo) io _ (by rw [show lo+(i-lo)=i by omega]; exact mT) hx
  refine ⟨o,io,_,ho,mT,hx,?_,q1,by unfold dD.tr; rw [q2,q3],q4⟩
  generalize sg[i-lo]=x at *
  obtain ⟨xd,xo,xg,xp⟩:=x
  obtain ⟨d,op,g,pr⟩:=io
  dsimp only at q1 q2 q3
  subst q1 q2 q3
  unfold fA at iH ⊢
  split at iH
  ·rename_i hd
   rw [if_pos hd]
   split at iH
   ·rename_i i' g' e1 e2
    cases iH
    rfl
   ·cases iH
  ·cases iH
 let E:(Nat→oo)→Nat→oo:=fun es i=>if lo≤i∧i<hi then es (i-lo) else K5
 have Al:∀ es i,lo≤i→i<hi→E es i=es (i-lo):=fun es i h1 h2=>by simp only [E,if_pos (And.intro h1 h2)]
 have FB:∀ es i,¬ (lo≤i∧i<hi)→E es i=K5:=fun es i h=>by simp only [E,if_neg h]
 have KL:∀ (es:Nat→oo) (fT:List gC),(∀ (i:Nat) (x:dD),sg[i]? = some x→(es i).tr=x.tr∧(es i).td=x.dst)→indep fT=true→(∀ (i:Nat) (x:dD),sg[i]? = some x→fT[i]? = some ⟨x.pre,(es i).rd,(es i).wr⟩)→
   ∀ i j,i<j→j<ops.size→sr (E es i) (E es j)→LG eT i j:=by
  intro es fT yP G6 mu i j hij hj hcl
  by_cases hi1:lo≤i∧i<hi
  case neg=>rw [FB es i hi1] at hcl; simp [sr,K5,oo.wr] at hcl
  by_cases hj1:lo≤j∧j<hi
  case neg=>rw [FB es j hj1] at hcl; simp [sr,K5,oo.wr] at hcl
  rw [Al es i hi1.1 hi1.2,Al es j hj1.1 hj1.2] at hcl
  obtain ⟨oi,Z9,x,_,YH,hx,_,dxi,Z4,_⟩:=DO i hi1.1 hi1.2
  obtain ⟨oj,Yb,y,AL,Wt,hy,_,dyj,Z3,Zy⟩:=DO j hj1.1 hj1.2
  refine ⟨Yb,Wt,?_⟩
  obtain ⟨_,_,h3⟩:=O.dr j oj Yb AL Wt
  rcases h3 i Z9 hij YH with h | ⟨hT,hT'⟩
  ·exact h
  ·obtain ⟨tx,dx⟩:=yP _ x hx
   obtain ⟨ty,dy⟩:=yP _ y hy
   have Ky:=mu _ x hx
   have Kx:=mu _ y hy
   rw [Z4] at tx; rw [dxi] at dx; rw [Z3] at ty; rw [dyj] at dy
   have hin:i-lo∈y.pre→i∈Yb.pre:=fun h=>by
    have:=Zy _ h
    rwa [show lo+(i-lo)=i by omega] at this
   rcases hcl with ⟨t,h1,h2⟩ | ⟨t,h1,h2⟩ | ⟨q,h1,h2⟩ | ⟨q,h1,h2⟩
   ·exfalso
    rw [dx] at h1; rw [ty,dy] at h2
    simp only [El,h1,Bool.or_eq_false_iff] at hT
    rcases h2 with h2 | h2
    ·have:=hT.1; simp [h2] at this
    ·have:=hT.2; simp [h2] at this
   ·exfalso
    rw [dy] at h1; rw [tx] at h2
    simp [Ay,h1,h2] at hT'
   ·refine hin (wh G6 Ky Kx (by omega) ?_)
    simp only [wW,Bool.or_eq_true,List.any_eq_true,List.contains_iff_mem]
    exact .inl ⟨q,h1,h2⟩
   ·refine hin (wh G6 Ky Kx (by omega) ?_)
    simp only [wW,Bool.or_eq_true,List.any_eq_true,List.contains_iff_mem]
    exact .inr ⟨q,h1,h2⟩
 have TS:∀ (es:Nat→oo) (ss:Nat→St),ss 0=s→(∀ (i:Nat) (x:dD),sg[i]? = some x→(ss (i+1)).get=fE (es i).td (es i).r (ss i).get∧(ss (i+1)).obj=cF (es i).ow (ss i).obj)→∀ k,k≤ops.size→iK (E es) s.get s.obj (fun _=>true) k=((ss (min k hi-lo)).get,(ss (min k hi-lo)).obj):=by
  intro es ss h0 hnx k
  induction k with
  | zero=>intro _; simp only [iK,Nat.zero_min,Nat.zero_sub,h0]
  | succ k ih=>
    intro hk
    simp only [iK,if_true,ih (by omega)]
    by_cases hin:lo≤k∧k<hi
    ·obtain ⟨_,_,x,_,_,hx,_⟩:=DO k hin.1 hin.2
     obtain ⟨n1,n2⟩:=hnx _ x hx
     rw [Al es k hin.1 hin.2,show min (k+1) hi-lo=(k-lo)+1 by omega,show min k hi-lo=k-lo by omega,n1,n2]
    ·rw [FB es k hin,show min (k+1) hi-lo=min k hi-lo by omega]
     refine Prod.ext (funext fun t=>?_) rfl
     simp [fE,K5]
 have rK:∀ (es:Nat→oo) (ss:Nat→St),ss 0=s→(∀ (i:Nat) (x:dD),sg[i]? = some x→(ss (i+1)).get=fE (es i).td (es i).r (ss i).get∧(ss (i+1)).obj=cF (es i).ow (ss i).obj)→∀ i,i≤ops.size→iK (E es) s.get s.obj (fun j=>decide (j<i)) ops.size=((ss (min i hi-lo)).get,(ss (min i hi-lo)).obj):=by
  intro es ss h0 hnx i hi
  rw [← TS es ss h0 hnx i hi]
  have h1:∀ k,i≤k→iK (E es) s.get s.obj (fun j=>decide (j<i)) k=iK (E es) s.get s.obj (fun j=>decide (j<i)) i:=by
   intro k
   induction k with
   | zero=>intro h; have:i=0:=by omega
           subst this; rfl
   | succ k ih=>
     intro h
     by_cases hki:i=k+1
     ·subst hki; rfl
     ·rw [← ih (by omega)]
      simp only [iK]
      rw [if_neg (by simp; omega)]
  have h2:∀ k,k≤i→iK (E es) s.get s.obj (fun j=>decide (j<i)) k=iK (E es) s.get s.obj (fun _=>true) k:=by
   intro k
   induction k with
   | zero=>intro _; rfl
   | succ k ih=>
     intro h
     simp only [iK,ih (by omega),if_true]
     rw [if_pos (by simp; omega)]
  rw [h1 _ hi,h2 _ (Nat.le_refl _)]
 have hI0:∀ (es:Nat→oo) (ss:Nat→St),ss 0=s→(∀ (i:Nat) (x:dD),sg[i]? = some x→(ss (i+1)).get=fE (es i).td (es i).r (ss i).get∧(ss (i+1)).obj=cF (es i).ow (ss i).obj)→At G D N br J0 cw w0 (iK (E es) s.get s.obj (fun j=>listed.getD j false) ops.size).1 (iK (E es) s.get s.obj (fun j=>listed.getD j false) ops.size).2 a w:=by
  intro es ss h0 hnx
  rw [show (fun j=>listed.getD j false)=fun j=>decide (j<lo) from funext hD,rK es ss h0 hnx lo (by omega),show min lo hi-lo=0 by omega,h0]
  exact hA
 have WH:∀ (j:Nat) (o:Oper),ops[j]? = some o→listed.getD j false=true→∀ e∈o.after,Region.binds .any e=true→listed.getD e.on false=true:=fun j o ho hj e he hb=>by
  have:=O.back j o ho e he hb
  rw [hD] at hj ⊢
  simp at hj ⊢; omega
 have hlo:∀ j,j<lo→listed.getD j false=true:=fun j hj=>by rw [hD]; simp [hj]
 rcases uT sg s [] hv with ⟨ss,es,fT,h0,hst,⟨G6,hK⟩,uQ,mu,_⟩ | ⟨p,op,ss,es,fT,_,OR,h0,hst,⟨G6,TG⟩,uQ,mu,_⟩
 ·simp only [List.length_nil,Nat.zero_add] at mu
  have yP:∀ (i:Nat) (o:dD),sg[i]? = some o→(es i).tr=o.tr∧(es i).td=o.dst:=by
   intro i o hi
   rcases hst i o hi with ⟨_,e,_,h1,_⟩ | ⟨_,h1,_⟩ <;> rw [h1] <;> exact ⟨rfl,rfl⟩
  have hnx:=fun (i:Nat) (x:dD) hx=>(hst i x hx).next
  refine CO (E:=E es) (g0:=s.get) (o0:=s.obj) (R:=LG eT) (fun g obj a w=>At G D N br J0 cw w0 g obj a w) lo hi hhi G_ (KL es fT yP G6 mu) O.pre O.back O.lt ?_ ?_ _ listed a w hls rfl (fun j hj=>?_) hlo WH (hI0 es ss h0 hnx)
  ·intro i g obj DW DZ hg ho a w K' wv hK'
   obtain ⟨o,io,x,Yw,mT,hx,iH,_⟩:=DO i DW DZ
   rw [rK es ss h0 hnx i (by omega),show min i hi-lo=i-lo by omega,Al es i DW DZ] at hg ho
   rw [Al es i DW DZ] at hK'
   have:=zG (ro:=ro) (nn:=nn) (ops:=ops) (Q:=Q) iH (hst _ x hx) hg ho wv hK'
   unfold wpOpIn
   simp only [Yw]
   exact this
  ·intro listed a w hls hD hI
   rw [rK es ss h0 hnx hi hhi,show min hi hi-lo=sg.length by omega] at hI
   exact hQ _ a w listed hI hK hls hD
  ·rw [hD] at hj; simp at hj; omega
 ·rw [List.length_nil,Nat.sub_zero] at OR
  simp only [List.length_nil,Nat.zero_add] at mu hst uQ
  have mq:p<sg.length:=(List.getElem?_eq_some_iff.1 OR).1
  have hlp:lo+p<hi:=by omega
  have yP:∀ (i:Nat) (o:dD),sg[i]? = some o→(es i).tr=o.tr∧(es i).td=o.dst:=fun i o hi=>(hst i o hi).tr
  have hnx:=fun (i:Nat) (x:dD) hx=>(hst i x hx).next
  obtain ⟨op0,Z8,x0,Yt,Af,hx0,YU,_,_,Wa⟩:=DO (lo+p) (by omega) hlp
  rw [show lo+p-lo=p by omega,OR] at hx0
  cases hx0
  refine F0 (E:=E es) (g0:=s.get) (o0:=s.obj) (R:=LG eT) (fun g obj a w=>At G D N br J0 cw w0 g obj a w) lo (lo+p) (by omega) (KL es fT yP G6 mu) O.pre O.back O.lt ?_ ?_ ?_ _ listed a w hls rfl WH hlo (by rw [hD]; simp) (hI0 es ss h0 hnx)
  ·intro i g obj DW YG UF XJ hg ho a w K' wv hK'
   have DZ:i<hi:=by
    rcases Nat.lt_or_ge i hi with h | h
    ·exact h
    ·exact absurd (G_ (lo+p) i hlp h YG) XJ
   obtain ⟨o,io,x,Yw,mT,hx,iH,_,_,hpx⟩:=DO i DW DZ
   rw [rK es ss h0 hnx i (by omega),show min i hi-lo=i-lo by omega,Al es i DW DZ] at hg ho
   rw [Al es i DW DZ] at hK'
   have hstep:pH P G x (ss (i-lo)) (es (i-lo)) (ss (i-lo+1)):=by
    have h1:=hst _ x hx
    unfold mX at h1
    by_cases hlt:i-lo<p
    ·rw [if_pos hlt] at h1; exact h1
    ·rw [if_neg hlt,if_neg (by omega)] at h1
     rcases h1 with ⟨h2,_⟩ | ⟨_,h2⟩
     ·exact absurd ⟨io,mT,hpx p h2⟩ XJ
     ·exact h2
   have:=zG (ro:=ro) (nn:=nn) (ops:=ops) (Q:=Q) iH hstep hg ho wv hK'
   unfold wpOpIn
   simp only [Yw]
   exact this
  ·intro j hj hne
   by_cases hin:lo≤j∧j<hi
   case neg=>rw [FB es j hin] at hne; exact absurd rfl hne
   rw [Al es j hin.1 hin.2] at hne
   obtain ⟨_,_,y,_,_,hy,_⟩:=DO j hin.1 hin.2
   have Kx:=mu _ y hy
   unfold EX at TG
   rw [Bool.and_eq_true,List.all_eq_true,List.all_eq_true] at TG
   obtain ⟨k1,k2⟩:=TG
   have k3:=k2 (j-lo) (by rw [List.mem_range,uQ]; omega)
   rw [Kx] at k3
   simp only [Bool.or_eq_true,List.contains_iff_mem,List.isEmpty_iff] at k3
   have k4:j-lo∈op.pre:=k3.resolve_right hne
   have k5:=k1 _ k4
   simp only [decide_eq_true_eq] at k5
   have:=Wa _ k4
   rw [show lo+(j-lo)=j by omega] at this
   exact ⟨⟨Z8,Af,this⟩,by omega⟩
  ·intro g obj hg ho a w K' wv
   rw [rK es ss h0 hnx (lo+p) (by omega),show min (lo+p) hi-lo=p by omega] at hg ho
   rw [Al es (lo+p) (by omega) hlp,show lo+p-lo=p by omega] at hg
   have h1:=hst p op OR
   unfold mX at h1
   rw [if_neg (by omega),if_pos rfl] at h1
   obtain ⟨v,e,Ks,hXv,dR,_⟩:=h1
   obtain ⟨h3,h4⟩:=Jm (ops:=ops) (Q:=Q) YU Ks (fun t ht=>hg t (by rw [dR]; exact ht)) ho wv K' (fun hd w' ⟨J,ι,h1,h2,_⟩=>hX v ⟨[],_⟩ a w' hd ⟨J,ι,h1,h2,fun _=>trivial⟩ hXv)
   unfold wpOpIn
   simp only [Yt]
   rw [if_pos h3]
   exact h4
theorem wN {X:Value→St→Prop} {K:St→Prop} (hQ:∀ s a w,At G D N br J0 cw w0 s.get s.obj a w→K s→Q .normal a w) (hX:∀ v s a w,(D.sU=false→a.defers=D.ds)→Sx G br J0 cw w0 s.get s.obj a w→X v s→Q (.panic [{ v:=v,recovered:=false }]) a w) {eT:List dD} (hc:kD P N ops true=some eT) {s:St} (hv:eA P G X eT s [] (fun s log=>indep log=true∧K s)) {a:Act} {w:World}
  (hA:At G D N br J0 cw w0 s.get s.obj a w):P.follows .mixedOrders=true∧wpAnyIn (fz ro) nn P .any ops Q ops.size (Array.replicate ops.size false) a { w with drawn:=w.drawn+1 }:=by
 have O:=Ord.of hc
 refine ⟨O.mix,?_⟩
 have G7:(Array.replicate ops.size false).toList.count false=ops.size:=by simp
 have:=wM (ro:=ro) (nn:=nn) (hi:=ops.size) (lo:=0) (a:=a) (w:={ w with drawn:=w.drawn+1 }) (s:=s) O (Nat.zero_le _) (Nat.le_refl _) (fun i j _ h1 h2=>absurd h2 (by omega)) (by rw [O.len]; rfl) (fun i io x h1 h2=>by rw [Nat.zero_add,h2] at h1; cases h1; exact ⟨rfl,rfl,rfl,fun k hk=>by rwa [Nat.zero_add]⟩) (fun s a w listed h1 h2 h3 h4=>wpAny_done h3 h4 (hQ s a w h1 h2)) hX hv hA.drew (listed:=Array.replicate ops.size false) (by simp) (fun j=>by by_cases h:j<ops.size <;> simp [h])
 rw [G7] at this
 exact this
def Ln (eT:List dD) (p:Nat):Bool:=(match eT[p]? with
 | some io=>(match io.op with | .call (.t _) _=>true | _=>false)&&(List.range p).all (io.pre.contains ·)
 | none=>false)&&(List.range eT.length).all fun j=>decide (j≤p)||(match eT[j]? with | some z=>(List.range (p+1)).all (z.pre.contains ·) | none=>true)
def Uc (eT:List dD):Option Nat:=(List.range eT.length).find? (Ln eT)
def zq (m:Nat) (io:dD):dD:={ io with pre:=(io.pre.filter (decide <| m≤·)).map (· - m) }
theorem Lc {Y:YO} (hY:oZ P G ro Y D N br J0 cw w0) {X:Value→St→Prop} {K:St→Prop} (hQ:∀ s a w,At G D N br J0 cw w0 s.get s.obj a w→K s→Q .normal a w) (hX:∀ v s a w,(D.sU=false→a.defers=D.ds)→Sx G br J0 cw w0 s.get s.obj a w→X v s→Q (.panic [{ v:=v,recovered:=false }]) a w) {eT:List dD} (hc:kD P N ops true=some eT) {p:Nat} {io:dD} (hp:eT[p]? = some io) (hb:Ln eT p=true) {s:St}
  (hv:eA P G X (eT.take p) s [] (fun s log=>indep log=true∧gD P G Y X [io] s (fun s=>eA P G X ((eT.drop (p+1)).map (zq (p+1))) s [] (fun s log=>indep log=true∧K s)))) {a:Act} {w:World}
  (hA:At G D N br J0 cw w0 s.get s.obj a w) {UZ:Nat} : (Code.region UZ ops true).wpIn (fz ro) nn P Q a w:=by
 have O:=Ord.of hc
 have mq:p<eT.length:=(List.getElem?_eq_some_iff.1 hp).1
 have hps:p<ops.size:=by rw [← O.len]; exact mq
 unfold Ln at hb
 rw [hp,Bool.and_eq_true,Bool.and_eq_true,List.all_eq_true,List.all_eq_true] at hb
 obtain ⟨⟨_,hb1⟩,hb2⟩:=hb
 have hA1:∀ i,i<p→LG eT i p:=fun i hi=>⟨io,hp,by simpa using hb1 i (by simpa using hi)⟩
 have XK:∀ i j,i≤p→p<j→j<ops.size→LG eT i j:=fun i j hi hj hjs=>by
  obtain ⟨_,z,_,hz,_⟩:=O.at_ j hjs
  have h1:=hb2 j (by rw [List.mem_range,O.len]; exact hjs)
  rw [hz,show decide (j≤p)=false by simpa using hj,Bool.false_or,List.all_eq_true] at h1
  exact ⟨z,hz,by simpa using h1 i (by simp; omega)⟩
 have G7:(Array.replicate ops.size false).toList.count false=ops.size:=by simp
 have h:=wM (ro:=ro) (nn:=nn) (hi:=p) (lo:=0) (a:=a) (w:={ w with drawn:=w.drawn+1 }) (s:=s) O (Nat.zero_le _) (by omega) (fun i j h1 h2 h3=>by
   rcases Nat.lt_or_ge p j with h | h
   ·exact XK i j (by omega) h h3
   ·obtain rfl:j=p:=by omega
    exact hA1 i h1) (by simp; omega) (fun i io x h1 h2=>by
   rw [Nat.zero_add] at h1
   rw [List.getElem?_take] at h2
   split at h2
   ·rw [h1] at h2
    cases h2; exact ⟨rfl,rfl,rfl,fun k hk=>by rwa [Nat.zero_add]⟩
   ·cases h2) (fun s a w listed h1 h2 h3 h4=>?_) hX hv hA.drew (listed:=Array.replicate ops.size false) (by simp) (fun j=>by by_cases h:j<ops.size <;> simp [h])
 ·rw [G7] at h
  exact wpIn_region_any O.mix h
 ·refine F1 (R:=LG eT) hps (fun j hj hjs=>XK p j (Nat.le_refl _) hj hjs) O.pre O.back h3 h4 (fun K' hK'=>?_)
  obtain ⟨o,Zt,ho,KD,iH⟩:=O.at_ p hps
  rw [hp] at KD; cases KD
  have hnext:∀ s' a' w',eA P G X ((eT.drop (p+1)).map (zq (p+1))) s' [] (fun s log=>indep log=true∧K s)→At G D N br J0 cw w0 s'.get s'.obj a' w'→K' a' w':=fun s' a' w' VO wv=>hK' _ _ fun rE h5 h6=>by
   refine wM (hi:=ops.size) (lo:=p+1) (s:=s') O (by omega) (Nat.le_refl _) (fun i j _ h1 h2=>absurd h2 (by omega)) (by simp [O.len]) (fun i io x h1 h2=>?_) (fun s a w listed h1 h2 h3 h4=>wpAny_done h3 h4 (hQ s a w h1 h2)) hX VO wv h5 h6
   rw [List.getElem?_map,List.getElem?_drop,h1] at h2
   cases h2
   refine ⟨rfl,rfl,rfl,fun k hk=>?_⟩
   simp only [zq,List.mem_map,List.mem_filter,decide_eq_true_eq] at hk
   obtain ⟨k0,⟨hk0,LD⟩,rfl⟩:=hk
   rwa [show p+1+(k0-(p+1))=k0 by omega]
  simp only [gD] at h2
  have:=yB (ro:=ro) (nn:=nn) (ops:=ops) (Q:=Q) hY (fun v _ s a w h1 h2 h3=>hX v s a w h1 h2 h3) iH h2 h1 (fun s' _=>hnext s') hnext
  unfold wpOpIn
  simp only [ho]
  exact this
theorem wL {X:Value→St→Prop} {K:St→Prop} (hQ:∀ s a w,At G D N br J0 cw w0 s.get s.obj a w→K s→Q .normal a w) (hX:∀ v s a w,(D.sU=false→a.defers=D.ds)→Sx G br J0 cw w0 s.get s.obj a w→X v s→Q (.panic [{ v:=v,recovered:=false }]) a w) {eT:List dD} (hc:kD P N ops true=some eT) {s:St} (hv:eA P G X eT s [] (fun s log=>indep log=true∧K s)) {a:Act} {w:World}
  (hA:At G D N br J0 cw w0 s.get s.obj a w) {UZ:Nat} : (Code.region UZ ops true).wpIn (fz ro) nn P Q a w:=
 have h:=wN hQ hX hc hv hA
 wpIn_region_any h.1 h.2
end
end Dv
namespace Dv
open Go
inductive C where
 | skip
 | af (ops:List dD)
 | bQ (ops:List dD)
 | seq (a b:C)
 | cond (c:bR) (a b:C)
 | block (i:Nat) (b:C)
 | loop (b:C)
 | exit (i:Nat)
 | ret
 | scope (b:C)
 | PJ (g:bR) (ps:List Nat) (a b:C)
inductive RV where
 | t (n:Nat)
 | c1 (n:Nat)
 | cn (n size:Nat)
structure tB where
 n:St→Prop
 x:Nat→St→Prop
 r:St→Prop
 y:YO
def AG:Nat:=4294967295
def ri (v:Value) (s:St):St:=⟨(AG,.d (.val v))::s.env,s.objs⟩
def St.keep (s:St) (ts:List Nat) (m:Nat):St:={ env:=ts.map fun t=>(t,s.get t),objs:=s.objs.take m }
def PM (m:Nat):Option aD→Bool
 | some ob=>ei m ob
 | none=>true
def St.zH (s:St) (ts:List Nat) (m:Nat):Prop:=(ts.all fun t=>dZ m (s.get t))=true∧((s.objs.take m).all (PM m))=true∧m≤s.objs.length
inductive Ad where
 | t (q:Nat) (et:TypeId) (esz:Nat)
 | b (o col:Nat) (et:TypeId) (esz:Nat)
def Ad.ap (s:St):Ad→St
 | .t q et esz=>if isNil (s.get q)=true then ⟨(q,.sl s.objs.length 0 esz 0 0)::s.env,s.objs++[some (.dat et esz [])]⟩ else s
 | .b o col et esz=>match s.obj o with
   | .live (.box bt cells)=>match cells[col]? with
     | some v=>if isNil v=true then ⟨s.env,s.objs.set o (some (.box bt (cells.set col (.sl s.objs.length 0 esz 0 0))))++[some (.dat et esz [])]⟩ else s
     | none=>s
   | _=>s
def de:List Ad→St→St
 | [],s=>s
 | x::xs,s=>de xs (x.ap s)
def oq (G:Nat→Option (List DV)) (D:Dk) (N:Nat) (br:Nat→cv) (J0:Nat→Prop) (cw:Nat→Nat→Option Nat) (w0:World) (s:St) (a:Act) (w:World):Prop:=At G D N br J0 cw w0 s.get s.obj a w
def LA (G:Nat→Option (List DV)) (m:Nat) (s s':St):Prop:=∀ (D:Dk) (N:Nat) (br:Nat→cv) (J0:Nat→Prop) (cw:Nat→Nat→Option Nat) (w0:World) (a:Act) (w:World),(∀ o n b,cw o n=some b→o<m)→oq G D N br J0 cw w0 s a w→oq G D N br J0 cw w0 s' a w
def jK:LV:=.d (.val Go.undef)
def jS:LV:=.dP []
def rX:List Nat→List LV→List (Nat×LV)→List (Nat×LV)
 | p::ps,a::as,env=>rX ps as ((p,a)::env)
 | _,_,env=>env
def j7:C→Bool
 | .seq a b=>j7 a&&j7 b
 | .cond _ a b=>j7 a&&j7 b
 | .block _ b=>j7 b
 | .loop b=>j7 b
 | .scope b=>j7 b
 | .PJ ..=>false
 | _=>true
def CC (P:Program) (G:Nat→Option (List DV)) (k:Nat) (args:List LV) (objs:List (Option aD)) (Y:YO) (R:LV→List (Option aD)→Prop):Prop:=
 mB P k=true∧∀ (D:Dk) (br:Nat→cv) (J0:Nat→Prop) (cw:Nat→Nat→Option Nat) (w0:World) (J:Nat→Prop) (ι:Nat→Nat→Option Nat) (w:World) (vs:Array Value),D.ds=[]→D.sU=false→
  aJ G J w ι (aB objs)→bW J w ι args vs.toList→Ext br (aB objs) J0 J cw ι w0 w→D.ys jK w→(∀ N,oZ P G none Y D N br J0 cw w0)→
  Calls P k vs w (fun e w'=>∃ v,e=.returned v∧∃ yv ay J' ι',R yv ay∧D.ys yv w'∧aJ G J' w' ι' (aB ay)∧Ext br (aB ay) J0 J' cw ι' w0 w')
section
variable (P:Program) (G:Nat→Option (List DV))
def vc:C→St→tB→Prop
 | .skip,s,K=>K.n s
 | .af ops,s,K=>gD P G K.y (fun v s'=>K.x AG (ri v s')) ops s K.n
 | .bQ ops,s,K=>eA P G (fun v s'=>K.x AG (ri v s')) ops s [] (fun s log=>indep log=true∧K.n s)
 | .seq a b,s,K=>vc a s { K with n:=fun s'=>vc b s' K }
 | .cond c a b,s,K=>match c.ev G s.get with
   | .d (.val (.bool t))=>if t=true then vc a s K else vc b s K
   | .c_=>vc a s K∧vc b s K
   | _=>False
 | .block i b,s,K=>vc b s { K with x:=fun j s'=>if j=i then K.n s' else K.x j s' }
 | .loop b,s,K=>∃ (ts:List Nat) (I:Nat→St→Prop) (N:Nat) (ad:List Ad),I N { (de ad s) with env:=ts.map fun t=>(t,(de ad s).get t) }∧
   ∀ k s',I k s'→vc b s' { K with n:=fun s''=>∃ j,j<k∧∃ s3,I j s3∧LA G (de ad s).objs.length s'' s3 }
 | .exit i,s,K=>K.x i s
 | .ret,s,K=>K.r s
 | .scope b,s,K=>vc b s K
 | .PJ g ps a b,s,K=>match callee (g.ev G s.get) with
   | some (k,fs,cs)=>∃ (jm:Option Nat) (R:LV→List (Option aD)→Prop),CC P G k (fs++[.yl s.objs.length]++cs) (s.objs++[none])
     (fun as objs ys K'=>ys=jK∧as.head? = some (.yl s.objs.length)∧as.tail.length=ps.length∧vc a ⟨rX ps as.tail s.env,objs⟩ ⟨fun s1=>vc b s1 ⟨fun s'=>K' jK true s'.objs,fun i s'=>i≠AG∧jm=some i∧K' jS false s'.objs,fun s'=>jm=none∧K' jS false s'.objs,sQ⟩,fun _ _=>False,fun _=>False,sQ⟩) R∧
     ∀ yv ay,R yv ay→(yv=jK∧K.n ⟨s.env,ay⟩)∨(yv=jS∧match jm with | some i=>i≠AG∧K.x i ⟨s.env,ay⟩ | none=>K.r ⟨s.env,ay⟩)
   | none=>False
end
def CZ (eT:List dD):C:=match Uc eT with
 | some p=>match eT[p]? with
   | some io=>.seq (.bQ (eT.take p)) (.seq (.af [io]) (.bQ ((eT.drop (p+1)).map (zq (p+1)))))
   | none=>.bQ eT
 | none=>.bQ eT
def eH (P:Program) (N:Nat):Code→Option C
 | .skip=>some .skip
 | .region _ ops draw=>match kD P N ops draw with
   | some eT=>some (if draw then CZ eT else .af eT)
   | none=>none
 | .seq a b=>match eH P N a,eH P N b with | some a,some b=>some (.seq a b) | _,_=>none
 | .cond c a b=>match aI c,eH P N a,eH P N b with | some c,some a,some b=>some (.cond c a b) | _,_,_=>none
 | .block i b=>match eH P N b with | some b=>if i=AG then none else some (.block i b) | none=>none
 | .loop b=>match eH P N b with | some b=>some (.loop b) | none=>none
 | .exit i=>if i=AG then none else some (.exit i)
 | .scope b=>match eH P N b with | some b=>some (.scope b) | none=>none
 | .ret=>some .ret
 | .label _=>some .skip
 | .rangeFunc g ps a b=>match aI g,eH P N a,eH P N b with
   | some g,some a,some b=>if (j7 a&&j7 b&&ps.toList.all fun p=>decide (p<N))=true then some (.PJ g ps.toList a b) else none
   | _,_,_=>none
 | _=>none
theorem jV (f:Nat→LV):∀ (ts:List Nat) (t:Nat),bx (ts.map fun t=>(t,f t)) t=if t∈ts then f t else .top
 | [],t=>by simp [bx]
 | x::ts,t=>by
   simp only [List.map_cons,bx,List.mem_cons,jV f ts t]
   by_cases h:x=t
   ·subst h; simp
   ·have:¬ t=x:=fun e=>h e.symm
    simp [h,this]
theorem I4:(∀ x:LV,rn (fun i=>i) x=x)∧(∀ xs:List LV,lU (fun i=>i) xs=xs):=by
 have one:∀ n,(∀ x:LV,sizeOf x<n→rn (fun i=>i) x=x)∧(∀ xs:List LV,sizeOf xs<n→lU (fun i=>i) xs=xs):=by
  intro n
  induction n with
  | zero=>exact ⟨fun _ h=>absurd h (by omega),fun _ h=>absurd h (by omega)⟩
  | succ n ih=>
    refine ⟨fun x hs=>?_,fun xs hs=>?_⟩
    ·cases x <;> simp only [rn] <;> simp at hs
     ·rw [ih.2 _ (by omega),ih.2 _ (by omega)]
     ·rw [ih.2 _ (by omega)]
     ·rw [ih.2 _ (by omega)]
     ·rw [ih.1 _ (by omega)]
    ·cases xs with
     | nil=>rfl
     | cons x xs=>
       simp at hs
       simp only [lU]
       rw [ih.1 _ (by omega),ih.2 _ (by omega)]
 exact ⟨fun x=>(one (sizeOf x+1)).1 x (by omega),fun xs=>(one (sizeOf xs+1)).2 xs (by omega)⟩
section
variable {P:Program} {G:Nat→Option (List DV)} {D:Dk} {N:Nat} {br:Nat→cv} {J0:Nat→Prop} {cw:Nat→Nat→Option Nat} {w0:World}
def KQ (G:Nat→Option (List DV)) (D:Dk) (N:Nat) (br:Nat→cv) (J0:Nat→Prop) (cw:Nat→Nat→Option Nat) (w0:World) (K:tB):Exit→Act→World→Prop
 | .normal,a,w=>∃ s,oq G D N br J0 cw w0 s a w∧K.n s
 | .exit i,a,w=>i≠AG∧∃ s,oq G D N br J0 cw w0 s a w∧K.x i s
 | .ret,a,w=>∃ s,oq G D N br J0 cw w0 s a w∧K.r s
 | .panic ch,a,w=>∃ v s,ch=[{ v:=v,recovered:=false }]∧(D.sU=false→a.defers=D.ds)∧Sx G br J0 cw w0 s.get s.obj a w∧K.x AG (ri v s)
 | _,_,_=>False
theorem oq.bound {s:St} {a:Act} {w:World} (h:oq G D N br J0 cw w0 s a w) {o n b:Nat} (hb:cw o n=some b):o<s.objs.length:=by
 obtain ⟨J,ι,S,E⟩:=h.ex
 have h1:=E.ev.imono o n b hb
 rcases Nat.lt_or_ge o s.objs.length with h2 | h2
 ·exact h2
 ·have:=S.store.rep o
  have hf:s.obj o=.free:=cR h2
  rw [hf] at this
  rw [this n] at h1; cases h1
theorem oq.Vf {s:St} {a:Act} {w:World} (h:oq G D N br J0 cw w0 s a w) (ts:List Nat):oq G D N br J0 cw w0 { s with env:=ts.map fun t=>(t,s.get t) } a w:=by
 obtain ⟨J,ι,S,E⟩:=h.ex
 refine ⟨J,ι,⟨S.store,fun t=>?_,S.size,S.defers,?_,S.lim⟩,E⟩
 rotate_left
 ·show D.ys (bx (ts.map fun t=>(t,s.get t)) YS) _
  rw [jV]
  split
  ·exact S.ys
  ·exact D.top _
 show cQ J w ι (bx (ts.map fun t=>(t,s.get t)) t) _
 rw [jV]
 split
 ·exact S.env t
 ·trivial
theorem oq.keep {s:St} {a:Act} {w:World} (h:oq G D N br J0 cw w0 s a w) {ts:List Nat} {m:Nat} (hk:s.zH ts m) (hm:∀ o n b,cw o n=some b→o<m):oq G D N br J0 cw w0 (s.keep ts m) a w:=by
 obtain ⟨J,ι,S,E⟩:=h.ex
 obtain ⟨h1,h2,h3⟩:=hk
 let ι':Nat→Nat→Option Nat:=fun o n=>if o<m then ι o n else none
 have fU:∀ o n b,o<m→ι ((fun i=>i) o) n=some b→ι' o n=some b:=fun o n b ho hb=>by simp only [ι',if_pos ho]; exact hb
 have Kv:∀ o,(s.keep ts m).obj o=if o<m then s.obj o else .free:=by
  intro o
  show aB (s.objs.take m) o=_
  by_cases ho:o<m
  ·rw [if_pos ho]
   simp only [St.obj,aB,List.getElem?_take_of_lt ho]
  ·rw [if_neg ho,cR (by simp; omega)]
 have hown:∀ o b,((s.keep ts m).obj o).own ι' o b→(s.obj o).own ι o b:=by
  intro o b hb
  rw [Kv] at hb
  by_cases ho:o<m
  ·rw [if_pos ho] at hb
   exact (cv.jN (fun n=>by simp only [ι',if_pos ho])).1 hb
  ·rw [if_neg ho] at hb; exact hb.elim
 refine ⟨J,ι',⟨⟨fun o=>?_,fun o o' b k k'=>S.store.inj o o' b (hown o b k) (hown o' b k'),fun o b k=>S.store.qq o b (hown o b k),S.store.jcell,S.store.wA⟩,fun t=>?_,S.size,S.defers,?_,S.lim⟩,?_,?_⟩
 ·rw [Kv]
  by_cases ho:o<m
  ·rw [if_pos ho]
   have hr:=S.store.rep o
   have hid:∀ ob,s.obj o=.live ob→ei m ob=true:=fun ob hob=>by
    rw [List.all_eq_true] at h2
    have:some ob∈s.objs.take m:=by
     simp only [St.obj,aB] at hob
     split at hob
     ·cases hob
     ·cases hob
     ·rename_i X7 hh
      cases hob
      exact List.mem_of_getElem? (i:=o) (by rw [List.getElem?_take_of_lt ho]; exact hh)
    exact h2 _ this
   have hk:∀ n,ι' o n=ι o n:=fun n=>by simp only [ι',if_pos ho]
   cases hs:s.obj o with
   | free=>rw [hs] at hr; intro n; rw [hk]; exact hr n
   | dead=>trivial
   | live ob=>
     rw [hs] at hr
     have hi:=hid ob hs
     cases ob with
     | box et cells=>
       obtain ⟨⟨b,C,k1,k2,k3⟩,_⟩:=hr
       refine ⟨⟨b,C,by rw [hk]; exact k1,k2,bI.rn (k0:=m) (π:=fun i=>i) fU cells _ (by simpa [ei] using hi) (by rw [I4.2]; exact k3)⟩,trivial⟩
     | mp es=>
       obtain ⟨⟨b,C,c,k1,k2,k3⟩,_⟩:=hr
       refine ⟨⟨b,C,c,by rw [hk]; exact k1,k2,gM.rn (k0:=m) (π:=fun i=>i) fU es _ (by simpa [ei] using hi) ?_⟩,trivial⟩
       rw [show (es.map fun p=>(p.1,rn (fun i=>i) p.2))=es from by simp [I4.1]]; exact k3
     | dat et e rows=>
       obtain ⟨⟨k1,k2⟩,k3⟩:=hr
       exact ⟨⟨by rw [hk]; exact k1,fun b hb=>k2 b (by rw [← hk]; exact hb)⟩,fun n hn=>by rw [hk]; exact k3 n hn⟩
     | kA et e rows=>
       obtain ⟨⟨k1,k2⟩,k3⟩:=hr
       exact ⟨⟨by rw [hk]; exact k1,fun b hb=>k2 b (by rw [← hk]; exact hb)⟩,trivial⟩
  ·rw [if_neg ho]; intro n; simp only [ι',if_neg ho]
 ·show cQ J w ι' (bx (ts.map fun t=>(t,s.get t)) t) _
  rw [jV]
  split
  ·rename_i ht
   rw [List.all_eq_true] at h1
   exact cQ.rn (k0:=m) (π:=fun i=>i) fU _ _ (h1 t ht) (by rw [I4.1]; exact S.env t)
  ·trivial
 ·show D.ys (bx (ts.map fun t=>(t,s.get t)) YS) _
  rw [jV]
  split
  ·exact S.ys
  ·exact D.top _
 ·have hE:=E.ev
  exact ⟨hE.os,hE.tape,hE.output,hE.size,hE.same,hE.shape,hE.jmono,hE.jnew,fun o n b hb=>by simp only [ι',if_pos (hm o n b hb)]; exact hE.imono o n b hb⟩
 ·rintro b ⟨o,hb⟩
  exact E.own b ⟨o,hown o b hb⟩
theorem BK {x:LV} (h:isNil x=true):x=.d (.val (.slice none 0 0)):=by
 unfold isNil at h
 split at h
 ·rfl
 ·cases h
theorem LA.keep {s:St} {ts:List Nat} {m:Nat} (hk:s.zH ts m):LA G m s (s.keep ts m):=fun _ _ _ _ _ _ _ _ hm h=>h.keep hk hm
theorem aJ.EC {J:Nat→Prop} {w:World} {ι:Nat→Nat→Option Nat} {obj:Nat→cv} (S:aJ G J w ι obj) {base:Nat} (hb:obj base=.free) (et:TypeId) (esz:Nat) :
  aJ G J w ι (fun o=>if o=base then .live (.dat et esz []) else obj o)∧Ext obj (fun o=>if o=base then .live (.dat et esz []) else obj o) J J ι ι w w:=by
 have hfree:∀ n,ι base n=none:=by have:=S.rep base; rw [hb] at this; exact this
 exact aJ.qK S base (.live (.dat et esz [])) (Ev.refl (Own ι obj) J ι w) (fun _ _ _=>rfl) (fun _ _ _=>rfl)
  ⟨⟨.inl rfl,fun b hb=>by rw [hfree] at hb; cases hb⟩,fun n _=>hfree n⟩ (fun b hb=>by
    have:ι base 0=some b:=hb
    rw [hfree] at this; cases this)
theorem lE (l:List (Option aD)) (ob:aD):aB (l++[some ob])=fun o=>if o=l.length then .live ob else aB l o:=by
 funext o
 unfold aB
 rcases Nat.lt_trichotomy o l.length with h | h | h
 ·rw [List.getElem?_append_left h,if_neg (by omega)]
 ·subst h; simp
 ·rw [List.getElem?_eq_none (by simp; omega),if_neg (by omega),List.getElem?_eq_none (by omega)]
theorem bI.set {J:Nat→Prop} {w:World} {ι:Nat→Nat→Option Nat} : ∀ {xs:List LV} {vs:List Value} {i:Nat} {x y:LV},bI J w ι xs vs→xs[i]? = some x→(∀ v,cQ J w ι x v→cQ J w ι y v)→bI J w ι (xs.set i y) vs
 | [],[],i,x,y,_,h,_=>by simp at h
 | z::xs,v::vs,0,x,y,h,hx,hy=>by simp at hx; subst hx; exact ⟨h.1,hy v h.2.1,h.2.2⟩
 | z::xs,v::vs,i+1,x,y,h,hx,hy=>⟨h.1,h.2.1,bI.set h.2.2 (by simpa using hx) hy⟩
 | [],_::_,_,_,_,h,_,_=>h.elim
 | _::_,[],_,_,_,h,_,_=>h.elim
theorem oq.ap {s:St} {a:Act} {w:World} (h:oq G D N br J0 cw w0 s a w) (x:Ad):oq G D N br J0 cw w0 (x.ap s) a w:=by
 cases x with
 | t t et esz=>
   simp only [Ad.ap]
   split
   ·rename_i kW
    obtain ⟨J,ι,S,E⟩:=h.ex
    obtain ⟨S1,E1⟩:=aJ.EC S.store (base:=s.objs.length) (cR (Nat.le_refl _)) et esz
    refine ⟨J,ι,⟨?_,fun t'=>?_,S.size,S.defers,?_,S.lim⟩,?_⟩
    ·show aJ G J w ι (aB (s.objs++[some (.dat et esz [])]))
     rw [lE]; exact S1
    ·show cQ J w ι (if t=t' then _ else bx s.env t') _
     split
     ·rename_i ht; subst ht
      have:=S.env t
      rw [BK kW] at this
      exact .inl ⟨rfl,none,this⟩
     ·exact S.env t'
    ·show D.ys (if t=YS then _ else bx s.env YS) _
     split
     ·rename_i ht; subst ht
      exact D.tot _ _ kW S.ys _
     ·exact S.ys
    ·show Ext br (aB (s.objs++[some (.dat et esz [])])) J0 J cw ι w0 w
     rw [lE]; exact E.trans E1
   ·exact h
 | b o col et esz=>
   simp only [Ad.ap]
   split
   ·rename_i bt cells ho
    split
    ·rename_i v hv
     split
     ·rename_i kW
      obtain ⟨J,ι,S,E⟩:=h.ex
      obtain ⟨S1,E1⟩:=aJ.EC S.store (base:=s.objs.length) (cR (Nat.le_refl _)) et esz
      have Yu:=zL ho
      have Kw:(if o=s.objs.length then cv.live (.dat et esz []) else s.obj o)=.live (.box bt cells):=by rw [if_neg (by omega)]; exact ho
      have h0:=S1.rep o
      simp only [Kw] at h0
      obtain ⟨⟨b,C,h1,h2,h3⟩,_⟩:=h0
      have h4:bI J w ι (cells.set col (.sl s.objs.length 0 esz 0 0)) C.toList:=h3.set hv (fun u hu=>by
       rw [BK kW] at hu
       exact .inl ⟨rfl,none,hu⟩)
      obtain ⟨S2,E2⟩:=aJ.qK S1 o (.live (.box bt (cells.set col (.sl s.objs.length 0 esz 0 0)))) (Ev.refl _ J ι w) (fun _ _ _=>rfl) (fun _ _ _=>rfl)
       ⟨⟨b,C,h1,h2,h4⟩,trivial⟩ (fun k hk=>.inl (by simp only [Kw]; exact hk))
      have Kv:aB (s.objs.set o (some (.box bt (cells.set col (.sl s.objs.length 0 esz 0 0))))++[some (.dat et esz [])])=fun q=>if q=o then .live (.box bt (cells.set col (.sl s.objs.length 0 esz 0 0))) else if q=s.objs.length then .live (.dat et esz []) else s.obj q:=by
       rw [lE,List.length_set]
       funext q
       by_cases hq:q=o
       ·subst hq
        rw [if_pos rfl,if_neg (by omega)]
        unfold aB
        rw [List.getElem?_set_self Yu]
       ·rw [if_neg hq]
        by_cases Kq:q=s.objs.length
        ·rw [if_pos Kq,if_pos Kq]
        ·rw [if_neg Kq,if_neg Kq]
         simp only [aB,St.obj,List.getElem?_set_ne (fun e=>hq e.symm)]
      refine ⟨J,ι,⟨?_,S.env,S.size,S.defers,S.ys,S.lim⟩,?_⟩
      ·show aJ G J w ι (aB (_++_))
       rw [Kv]; exact S2
      ·show Ext br (aB (_++_)) J0 J cw ι w0 w
       rw [Kv]; exact (E.trans E1).trans E2
     ·exact h
    ·exact h
   ·exact h
theorem oq.de {a:Act} {w:World} : ∀ (ad:List Ad) {s:St},oq G D N br J0 cw w0 s a w→oq G D N br J0 cw w0 (Dv.de ad s) a w
 | [],_,h=>h
 | x::xs,_,h=>oq.de xs (h.ap x)
end
def CN (w w':World):Prop:=∀ (b:Nat) (x:Obj),w.heap[b]? = some x→x.lG=true→w'.heap[b]? = some x
theorem CN.refl (w:World):CN w w:=fun _ _ h _=>h
theorem CN.trans {w w' w'':World} (h:CN w w') (k:CN w' w''):CN w w'':=fun b x hb hx=>k _ _ (h _ _ hb hx) hx
theorem CN.put {w:World} {l:Nat} {o0:Obj} (o:Obj) (h:w.heap[l]? = some o0) (hc:o0.lG=false):CN w (w.putObj l o):=by
 intro b x hb hx
 by_cases Aj:b=l
 ·subst Aj; rw [h] at hb; cases hb; rw [hc] at hx; cases hx
 ·rw [World.putObj_heap_other Aj]; exact hb
theorem iM {w:World} {o:Obj} {b:Nat} (hb:b<w.heap.size):(w.alloc o).heap[b]? = w.heap[b]?:=by
 show (w.heap.push o)[b]? = _
 rw [Array.getElem?_push,if_neg (Nat.ne_of_lt hb)]
theorem CN.alloc (w:World) (o:Obj):CN w (w.alloc o):=by
 intro b x hb _
 rw [iM (Array.getElem?_eq_some_iff.1 hb).1]; exact hb
theorem CN.shape {w w':World} (h:CN w w') (b:Nat) (hs:(w.shape? b).isSome=true):w'.shape? b=w.shape? b:=by
 unfold World.shape? at hs ⊢
 split at hs
 ·rename_i C t f hb
  rw [h _ _ hb rfl]
 ·cases hs
section
variable {G:Nat→Option (List DV)} {J:Nat→Prop} {w w':World} {ι ι':Nat→Nat→Option Nat} {obj obj':Nat→cv}
theorem CN.j (S:aJ G J w ι obj) (h:CN w w') (b:Nat) (hb:J b):w'.heap[b]? = w.heap[b]?:=by
 obtain ⟨C,t,f,hc⟩:=S.jcell b hb
 rw [hc]; exact h _ _ hc rfl
theorem cQ.cn (S:aJ G J w ι obj) (h:CN w w') (hi:∀ o n b,ι o n=some b→ι' o n=some b) {x:LV} {v:Value} (k:cQ J w ι x v):cQ J w' ι' x v:=
 cQ.mono (fun _ h=>h) (h.j S) hi (fun b hb=>h.shape b hb) x v k
theorem bI.cn (S:aJ G J w ι obj) (h:CN w w') (hi:∀ o n b,ι o n=some b→ι' o n=some b) {x:List LV} {v:List Value} (k:bI J w ι x v):bI J w' ι' x v:=
 bI.mono (fun _ h=>h) (h.j S) hi (fun b hb=>h.shape b hb) x v k
theorem bW.cn (S:aJ G J w ι obj) (h:CN w w') (hi:∀ o n b,ι o n=some b→ι' o n=some b) {x:List LV} {v:List Value} (k:bW J w ι x v):bW J w' ι' x v:=
 bW.mono (fun _ h=>h) (h.j S) hi (fun b hb=>h.shape b hb) x v k
theorem aJ.cn (S:aJ G J w ι obj) (h:CN w w') (hi:∀ o n b,ι o n=some b→ι' o n=some b) (ho:∀ o,obj' o=.dead∨(obj' o=obj o∧∀ n,ι' o n=ι o n)):aJ G J w' ι' obj':=by
 have hown:∀ o b,(obj' o).own ι' o b→(obj o).own ι o b:=by
  intro o b hb
  rcases ho o with h1 | ⟨h1,h2⟩
  ·rw [h1] at hb; exact hb.elim
  ·rw [h1] at hb; exact (cv.jN h2).1 hb
 refine ⟨fun o=>?_,fun o o' b k k'=>S.inj o o' b (hown _ _ k) (hown _ _ k'),fun o b k=>S.qq o b (hown _ _ k),fun b hb=>?_,fun g row hg=>?_⟩
 ·rcases ho o with h1 | ⟨h1,hk⟩
  ·rw [h1]; trivial
  ·rw [h1]
   have hr:=S.rep o
   cases hs:obj o with
   | free=>rw [hs] at hr; intro n; rw [hk]; exact hr n
   | dead=>trivial
   | live ob=>
     rw [hs] at hr
     obtain ⟨hr,hkey⟩:=hr
     cases ob with
     | box et cells=>
       obtain ⟨b,C,h1,h2,h3⟩:=hr
       exact ⟨⟨b,C,by rw [hk]; exact h1,h _ _ h2 rfl,h3.cn S h hi⟩,trivial⟩
     | mp es=>
       obtain ⟨b,C,c,h1,h2,h3⟩:=hr
       exact ⟨⟨b,C,c,by rw [hk]; exact h1,h _ _ h2 rfl,gM.mono (fun _ h=>h) (h.j S) hi (fun b hb=>h.shape b hb) _ _ h3⟩,trivial⟩
     | dat et esz rows=>
       obtain ⟨h1,h2⟩:=hr
       refine ⟨⟨by rw [hk]; exact h1,fun b hb'=>?_⟩,fun n hn=>by rw [hk]; exact hkey n hn⟩
       rw [hk] at hb'
       obtain ⟨⟨C,h3⟩,h4⟩:=h2 b hb'
       exact ⟨⟨C,h _ _ h3 rfl⟩,bC.mono (fun _ h=>h) (h.j S) esz rows b 0 (by rw [h3]; exact h _ _ h3 rfl) h4⟩
     | kA et esz rows=>
       obtain ⟨h1,h2⟩:=hr
       refine ⟨⟨by rw [hk]; exact h1,fun b hb'=>?_⟩,trivial⟩
       rw [hk] at hb'
       obtain ⟨h3,h4⟩:=h2 b hb'
       exact ⟨h3,bC.mono (fun _ h=>h) (h.j S) esz rows b 0 (h.j S b h3) h4⟩
 ·obtain ⟨C,t,f,hc⟩:=S.jcell b hb
  exact ⟨C,t,f,h _ _ hc rfl⟩
 ·obtain ⟨h1,h2,t,h3⟩:=S.wA g row hg
  exact ⟨h1,cU.mono (fun _ h=>h) (h.j S) row g 0 (h.j S g h1) h2,t,by rw [h.shape g (by rw [h3]; rfl)]; exact h3⟩
theorem aJ.put {l:Nat} {o0:Obj} (o:Obj) (S:aJ G J w ι obj) (h:w.heap[l]? = some o0) (hc:o0.lG=false):aJ G J (w.putObj l o) ι obj:=
 S.cn (CN.put o h hc) (fun _ _ _ h=>h) (fun _=>.inr ⟨rfl,fun _=>rfl⟩)
theorem Ext.put {br:Nat→cv} {J0:Nat→Prop} {cw:Nat→Nat→Option Nat} {w0:World} (E:Ext br obj J0 J cw ι w0 w) {l:Nat} (o:Obj) {o0:Obj} (h:w.heap[l]? = some o0) (hc:o0.lG=false) (hl:w0.heap.size≤l) (ho:o.lG=false):Ext br obj J0 J cw ι w0 (w.putObj l o):=by
 have hsz:(w.putObj l o).heap.size=w.heap.size:=World.putObj_size
 refine ⟨⟨E.ev.os,E.ev.tape,E.ev.output,by rw [hsz]; exact E.ev.size,fun b hb hn=>?_,fun b hb=>?_,E.ev.jmono,E.ev.jnew,E.ev.imono⟩,E.own⟩
 ·rw [World.putObj_heap_other (by omega)]; exact E.ev.same b hb hn
 ·rw [← E.ev.shape b hb]
  unfold World.shape?
  rw [World.putObj_heap_other (by omega)]
theorem wH:∀ (l:List (Nat×Value)) (t:Array Value),(l.foldl (fun t (p:Nat×Value)=>t.setIfInBounds p.1 p.2) t).size=t.size
 | [],_=>rfl
 | x::l,t=>by rw [List.foldl_cons,wH l]; simp
theorem y9:∀ (ps:List Nat) (as:List LV) (vs:List Value) (env:List (Nat×LV)) (t:Array Value) (N:Nat),t.size=N→(∀ p∈ps,p<N)→as.length=ps.length→bW J w ι as vs→(∀ q,cQ J w ι (bx env q) (t.getD q Go.undef))→
  ∀ q,cQ J w ι (bx (rX ps as env) q) (((ps.zip vs).foldl (fun t (p:Nat×Value)=>t.setIfInBounds p.1 p.2) t).getD q Go.undef)
 | [],as,vs,env,t,N,ht,hp,hl,hr,he,q=>by
   cases as with
   | nil=>simpa [rX] using he q
   | cons _ _=>simp at hl
 | p::ps,[],vs,env,t,N,ht,hp,hl,hr,he,q=>by simp at hl
 | p::ps,a::as,[],env,t,N,ht,hp,hl,hr,he,q=>hr.elim
 | p::ps,a::as,v::vs,env,t,N,ht,hp,hl,hr,he,q=>by
   simp only [rX,List.zip_cons_cons,List.foldl_cons]
   refine y9 ps as vs _ _ N (by simp [ht]) (fun q hq=>hp q (by simp [hq])) (by simpa using hl) hr.2 (fun q=>?_) q
   have hpN:p<t.size:=by rw [ht]; exact hp p (by simp)
   simp only [bx]
   by_cases hq:p=q
   ·subst hq
    rw [if_pos rfl]
    have:(t.setIfInBounds p v).getD p Go.undef=v:=by simp [Array.getD_eq_getD_getElem?,hpN]
    rw [this]; exact hr.1
   ·rw [if_neg hq]
    have:(t.setIfInBounds p v).getD q Go.undef=t.getD q Go.undef:=by
     simp [Array.getD_eq_getD_getElem?,Array.getElem?_setIfInBounds_ne hq]
    rw [this]; exact he q
end
section
variable {P:Program} {G:Nat→Option (List DV)}
theorem fO {b:Frame} {a:Act} {k:List Item} {cs:List Frame} {w:World} {c:Code} : step P (lone (b.atR a (.code (.scope c)::k)) cs w)=.next (lone (b.atR a (.code c::.inScope c::k)) cs w):=
 step_lone_go (by simp [stepG,stepG.exec,Frame.atR])
theorem vo {b:Frame} {a:Act} {k:List Item} {cs:List Frame} {w:World} {c:Code} : step P (lone (b.atR a (.inScope c::k)) cs w)=.next (lone (b.atR a k) cs w):=
 step_lone_go (by simp [stepG,stepG.exec,Frame.atR])
theorem oP {F:Fence} {n:Nat} {Q:Exit→Act→World→Prop} {a:Act} {w:World} {c:Code} (h:c.wpIn F n P (Exit.noGoto Q) a w):(Code.scope c).wpIn F n P Q a w:=by
 intro b k cs hro hb hr
 have h0:(lone (b.atR a (.code (.scope c)::k)) cs w).fenced P F:=fenced_calm hb hr rfl
 obtain ⟨e,a₁,w₁,hq,He⟩:=h b (.inScope c::k) cs hro hb hr
 cases e with
 | normal=>exact ⟨.normal,a₁,w₁,hq,.head h0 fO (StepsIn.trans He (.one (fenced_calm hb hr rfl) vo))⟩
 | exit id=>
   have hx:exitTo id (.inScope c::k)=exitTo id k:=by simp [exitTo]
   exact ⟨.exit id,a₁,w₁,hq,fun k' hk=>.head h0 fO (He.1 k' (by rw [hx]; exact hk)),
    fun hr' hk=>let ⟨k₁,h1,h2⟩:=He.2 hr' (by rw [hx]; exact hk); ⟨k₁,h1,.head h0 fO h2⟩⟩
 | goto l=>exact hq.elim
 | ret=>exact ⟨_,a₁,w₁,hq,.of_steps (.one h0 fO) He⟩
 | panic ch=>exact ⟨_,a₁,w₁,hq,.of_steps (.one h0 fO) He⟩
 | outgrown=>exact ⟨_,a₁,w₁,hq,.of_steps (.one h0 fO) He⟩
def PR:Option Nat→Code
 | some i=>.exit i
 | none=>.ret
def L2 (l B:Nat) (rc:LoopState→Option Code→Loop) (jm:Option Nat) (v:LV) (w:World):Prop:=
 (v=jK→w.heap[l]? = some (.loop (rc .ready none)))∧(v=jS→w.heap[l]? = some (.loop (rc .done (some (PR jm)))))∧(v≠.top→w.heap[B]? = some (.deferred (some [])))∧isNil v=false
def L3 (l B:Nat) (rc:LoopState→Option Code→Loop) (jm:Option Nat):Dk where
 ds:=[]
 sU:=false
 lo:=0
 ys:=L2 l B rc jm
 keep:=fun v w w' h ⟨h1,h2,h4,h5⟩=>⟨(fun e=>h _ _ (h1 e) rfl),(fun e=>h _ _ (h2 e) rfl),(fun e=>h _ _ (h4 e) rfl),h5⟩
 top:=fun w=>⟨(fun h=>by cases h),(fun h=>by cases h),(fun h=>(h rfl).elim),rfl⟩
 tot:=fun v w h ⟨_,_,_,h5⟩=>by rw [h] at h5; cases h5
def pT (P:Program) (G:Nat→Option (List DV)) (jm:Option Nat) (ps:List Nat) (a b:C) (s:St):YO:=fun as objs ys K'=>ys=jK∧as.head? = some (.yl s.objs.length)∧as.tail.length=ps.length∧vc P G a ⟨rX ps as.tail s.env,objs⟩ ⟨fun s1=>vc P G b s1 ⟨fun s'=>K' jK true s'.objs,fun i s'=>i≠AG∧jm=some i∧K' jS false s'.objs,fun s'=>jm=none∧K' jS false s'.objs,sQ⟩,fun _ _=>False,fun _=>False,sQ⟩
set_option maxHeartbeats 400000 in
theorem Gl {g:Operand} {ps:Array Tmp} {ca cb:Code} {N:Nat} {cg:bR} {xa xb:C} (h1:aI g=some cg) (TF:∀ x∈ps.toList,x<N) {nn:Nat} {D:Dk} {br:Nat→cv} {J0:Nat→Prop} {cw:Nat→Nat→Option Nat} {w0:World} (hmk:D.sU=true) (hlo:D.lo≤w0.heap.size)
  (iha:∀ {ro:Option Nat} {nn:Nat} {D:Dk} {br:Nat→cv} {J0:Nat→Prop} {cw:Nat→Nat→Option Nat} {w0:World} (s:St) (K:tB),vc P G xa s K→oZ P G ro K.y D N br J0 cw w0→∀ a w,oq G D N br J0 cw w0 s a w→ca.wpIn (fz ro) nn P (KQ G D N br J0 cw w0 K) a w)
  (Z_:∀ {ro:Option Nat} {nn:Nat} {D:Dk} {br:Nat→cv} {J0:Nat→Prop} {cw:Nat→Nat→Option Nat} {w0:World} (s:St) (K:tB),vc P G xb s K→oZ P G ro K.y D N br J0 cw w0→∀ a w,oq G D N br J0 cw w0 s a w→cb.wpIn (fz ro) nn P (KQ G D N br J0 cw w0 K) a w)
  {s:St} {K:tB} {k:Nat} {fs cs:List LV} (gY:callee (cg.ev G s.get)=some (k,fs,cs)) (h:∃ (jm:Option Nat) (R:LV→List (Option aD)→Prop),CC P G k (fs++[.yl s.objs.length]++cs) (s.objs++[none]) (pT P G jm ps.toList xa xb s) R∧
    ∀ yv ay,R yv ay→(yv=jK∧K.n ⟨s.env,ay⟩)∨(yv=jS∧match jm with | some i=>i≠AG∧K.x i ⟨s.env,ay⟩ | none=>K.r ⟨s.env,ay⟩)) (a:Act) (w:World) (hA:oq G D N br J0 cw w0 s a w):(Code.rangeFunc g ps ca cb).wpIn (fz none) nn P (KQ G D N br J0 cw w0 K) a w:=by
 obtain ⟨jm,R,⟨hent,hit⟩,hend⟩:=h
 obtain ⟨J,ι,S,E⟩:=hA.ex
 have wj:=aT S.store S.env h1
 obtain ⟨fs',cs',hval,hfs,hcs⟩:∃ fs' cs',a.eval g=.func (.func k) fs' cs'∧bW J w ι fs fs'.toList∧bW J w ι cs cs'.toList:=by
  have e0:cg.ev G (bx s.env)=cg.ev G s.get:=rfl
  rw [← e0] at gY
  change cQ J w ι (cg.ev G (bx s.env)) _ at wj
  generalize cg.ev G (bx s.env)=x at gY wj
  unfold callee at gY
  split at gY
  ·cases gY
   obtain ⟨fs',cs',h1,h2,h3⟩:=wj
   exact ⟨fs',cs',h1,h2.xC,h3.xC⟩
  ·cases gY
   obtain ⟨fs',cs',h1,h2,h3⟩:=wj
   exact ⟨fs',cs',h1,h2,h3⟩
  ·cases gY
 have aaa:=E.ev.size
 refine wpIn_rangeFunc fun fn hfn=>?_
 let rc:LoopState→Option Code→Loop:=fun st pe=>{ state:=st,pending:=pe,fn,tmps:=a.tmps,params:=ps,assign:=ca,body:=cb,defers:=w.heap.size }
 let W1:=(w.alloc (.deferred (some []))).alloc (.loop (rc .ready none))
 have sz1:W1.heap.size=w.heap.size+2:=by simp [W1]
 have hL1:W1.heap[w.heap.size+1]? = some (.loop (rc .ready none)):=by
  have:=World.alloc_heap_new (w.alloc (.deferred (some []))) (.loop (rc .ready none)); rwa [World.size_alloc] at this
 have hD1:W1.heap[w.heap.size]? = some (.deferred (some [])):=(iM (by simp)).trans (World.alloc_heap_new w _)
 have Y4:CN w W1:=(CN.alloc w _).trans (CN.alloc _ _)
 have Wn:∀ b,b<w.heap.size→W1.heap[b]? = w.heap[b]?:=fun b hb=>(iM (by simp; omega)).trans (iM hb)
 let xB:Nat→Nat→Option Nat:=fun o n=>if o=s.objs.length∧n=0 then some (w.heap.size+1) else ι o n
 have hfree:∀ n,ι s.objs.length n=none:=by
  have h0:=S.store.rep s.objs.length
  have hf:s.obj s.objs.length=.free:=cR (Nat.le_refl _)
  rw [hf] at h0; exact h0
 have hi1:∀ o n b,ι o n=some b→xB o n=some b:=fun o n b hb=>by
  simp only [xB]
  rw [if_neg]
  ·exact hb
  ·rintro ⟨rfl,rfl⟩; rw [hfree] at hb; cases hb
 have Sd:∀ o,aB (s.objs++[none]) o=.dead∨(aB (s.objs++[none]) o=s.obj o∧∀ n,xB o n=ι o n):=fun o=>by
  rcases Nat.lt_trichotomy o s.objs.length with ho | ho | ho
  ·refine .inr ⟨?_,fun n=>?_⟩
   ·simp only [aB,St.obj,List.getElem?_append_left ho]
   ·simp only [xB]; rw [if_neg (fun h=>by omega)]
  ·subst ho; left; simp [aB]
  ·refine .inr ⟨?_,fun n=>?_⟩
   ·rw [cR (by simp; omega)]; exact (cR (by omega)).symm
   ·simp only [xB]; rw [if_neg (fun h=>by omega)]
 have S1:aJ G J W1 xB (aB (s.objs++[none])):=S.store.cn Y4 hi1 Sd
 have wk:∀ b,Own xB s.obj b↔Own ι s.obj b:=fun b=>by
  constructor
  ·rintro ⟨o,ho⟩
   by_cases hol:o=s.objs.length
   ·subst hol
    have hf:s.obj s.objs.length=.free:=cR (Nat.le_refl _)
    rw [hf] at ho; exact ho.elim
   ·exact ⟨o,(cv.jN (fun n=>by simp only [xB]; rw [if_neg (fun h=>hol h.1)])).1 ho⟩
  ·rintro ⟨o,ho⟩
   by_cases hol:o=s.objs.length
   ·subst hol
    have hf:s.obj s.objs.length=.free:=cR (Nat.le_refl _)
    rw [hf] at ho; exact ho.elim
   ·exact ⟨o,(cv.jN (fun n=>by simp only [xB]; rw [if_neg (fun h=>hol h.1)])).2 ho⟩
 have E1:Ext s.obj (aB (s.objs++[none])) J J xB xB w W1:=by
  refine ⟨⟨rfl,rfl,rfl,by omega,fun b hb _=>Wn b hb,fun b hb=>?_,fun _ h=>h,fun _ h=>.inl h,fun _ _ _ h=>h⟩,fun b hb=>?_⟩
  ·unfold World.shape?; rw [Wn b hb]
  ·obtain ⟨o,ho⟩:=hb
   rcases Sd o with h1 | ⟨h1,h2⟩
   ·rw [h1] at ho; exact ho.elim
   ·rw [h1] at ho; exact .inl ⟨o,ho⟩
 -- from the X9 UL on
 have back:∀ {o':Nat→cv} {J':Nat→Prop} {ι':Nat→Nat→Option Nat} {w':World},Ext s.obj o' J J' xB ι' w w'→Ext s.obj o' J J' ι ι' w w':=fun e=>
  ⟨⟨e.ev.os,e.ev.tape,e.ev.output,e.ev.size,fun b hb hn=>e.ev.same b hb (fun h=>hn ((wk b).1 h)),e.ev.shape,e.ev.jmono,fun b hb=>(e.ev.jnew b hb).imp id (fun h=>h.imp id (fun h=>(wk b).1 h)),fun o n b hb=>e.ev.imono o n b (hi1 o n b hb)⟩,fun b hb=>(e.own b hb).imp (fun h=>(wk b).1 h) id⟩
 refine ⟨w.heap.size+1,[{ target:=.collected w.heap.size,args:=#[] }],W1,{ target:=.fn (.func k) cs',args:=fs'++#[.func (.yield (w.heap.size+1)) #[] #[]] },W1,k,fs'++#[.func (.yield (w.heap.size+1)) #[] #[]]++cs',W1,run_enterLoop_outer _ _ _ _ _,?_,fun _ _=>trivial,?_,(fun hh=>by cases hh),?_⟩
 ·simp only [resolve,hval,Deferred.ofValue,Sem.run_pure]; simp [Act.eval]
 ·simp only [invoke]; exact oH hent _ _
 have hargs:bW J W1 xB (fs++[.yl s.objs.length]++cs) (fs'++#[Value.func (.yield (w.heap.size+1)) #[] #[]]++cs').toList:=by
  simp only [Array.toList_append]
  have hy1:bW J W1 xB [.yl s.objs.length] [Value.func (.yield (w.heap.size+1)) #[] #[]]:=⟨⟨w.heap.size+1,by simp [xB],rfl⟩,trivial⟩
  exact ((hfs.cn S.store Y4 hi1).append hy1).append (hcs.cn S.store Y4 hi1)
 have VZ:L2 (w.heap.size+1) w.heap.size rc jm jK W1:=⟨(fun _=>hL1),(fun h=>by cases h),(fun _=>hD1),rfl⟩
 have TN:=hit (L3 (w.heap.size+1) w.heap.size rc jm) s.obj J xB w J xB W1 (fs'++#[.func (.yield (w.heap.size+1)) #[] #[]]++cs') rfl rfl S1 hargs E1 VZ
 clear hit
 have Ac:∀ N_1,oZ P G none (pT P G jm ps.toList xa xb s) (L3 (w.heap.size+1) w.heap.size rc jm) N_1 s.obj J xB w:=by
  clear TN
  intro ZY oy as objs ys K' hYv get a2 w2 XK hys y vs fU
  obtain ⟨Yf,ZD,hlen,hv⟩:=hYv
  simp only [List.head?_cons,Option.some.injEq,LV.yl.injEq] at ZD
  subst ZD
  simp only [List.tail_cons] at hlen hv
  obtain ⟨J2,ι2,S2,E2,jD,OP⟩:=fU
  obtain ⟨b,hb,rfl⟩:=jD
  have Aj:b=w.heap.size+1:=by
   have:=E2.ev.imono s.objs.length 0 (w.heap.size+1) (by simp [xB])
   rw [this] at hb; cases hb; rfl
  subst Aj
  refine ⟨_,rfl,fun n2=>?_⟩
  have uz:L2 (w.heap.size+1) w.heap.size rc jm jK w2:=by
   have:=S2.ys
   rw [hys,Yf] at this; exact this
  have ZO:=uz.1 rfl
  have hD2:=uz.2.2.1 (by simp [jK])
  have E2':=back E2
  have hvl:vs.length=ps.size:=by rw [← OP.length]; simpa using hlen
  refine ⟨fn,_,ca,cb,run_yield (P:=P) (args:=vs.toArray) ZO (by simpa using hvl),?_⟩
  refine roundIn_of_wpIn (F:=fz none) trivial ?_
  have Sa:(ps.zip vs.toArray).foldl (fun (tmps:Array Value) (p:Tmp×Value)=>tmps.setIfInBounds p.1 p.2) a.tmps=(ps.toList.zip vs).foldl (fun t (p:Nat×Value)=>t.setIfInBounds p.1 p.2) a.tmps:=by
   rw [← Array.foldl_toList]; simp [Array.toList_zip]
  have hA3:oq G (Dk.plain [] false) N (aB objs) J2 ι2 w2 ⟨rX ps.toList as s.env,objs⟩ ⟨(ps.zip vs.toArray).foldl (fun (tmps:Array Value) (p:Tmp×Value)=>tmps.setIfInBounds p.1 p.2) a.tmps,[]⟩ w2:=by
   refine ⟨J2,ι2,⟨S2.store,fun t=>?_,?_,Marks.plain _ _,trivial,S.lim⟩,Ext.refl ..⟩
   ·rw [Sa]
    exact y9 ps.toList as vs s.env a.tmps N S.size TF (by simpa using hlen) OP (fun q=>(S.env q).ev S.store E2'.ev) t
   ·rw [Sa]; simp only [wH]; exact S.size
  refine wpIn_mono (iha (ro:=some (w.heap.size+1)) _ _ hv oZ.no _ _ hA3) ?_
  rintro e a3 w3 hq
  cases e with
  | normal=>
    obtain ⟨s1,hA4,hvb⟩:=hq
    obtain ⟨J3,Uw,S3,E3⟩:=hA4.ex
    have Zo:=E3.nc S2.store
    have OY:=Zo _ _ ZO rfl
    have Y3:=Zo _ _ hD2 rfl
    refine ⟨_,run_beginRound (P:=P) OY rfl,?_⟩
    have S4:=S3.store.put (.loop { rc .ready none with state:=.busy }) OY rfl
    have hL4:(w3.putObj (w.heap.size+1) (.loop { rc .ready none with state:=.busy })).heap[w.heap.size+1]? = some (.loop (rc .busy none)):=World.putObj_heap_same (Array.getElem?_eq_some_iff.1 OY).1
    have hD4:(w3.putObj (w.heap.size+1) (.loop { rc .ready none with state:=.busy })).heap[w.heap.size]? = some (.deferred (some [])):=(World.putObj_heap_other (by omega)).trans Y3
    have UQ:=CN.put (.loop { rc .ready none with state:=.busy }) OY rfl
    have hA5:oq G (Dk.plain [] false) N s1.obj J3 Uw (w3.putObj (w.heap.size+1) (.loop { rc .ready none with state:=.busy })) s1 a3 (w3.putObj (w.heap.size+1) (.loop { rc .ready none with state:=.busy })):=by
     refine ⟨J3,Uw,⟨S4,fun t=>(S3.env t).cn S3.store UQ (fun _ _ _ h=>h),S3.size,?_,trivial,S3.lim⟩,Ext.refl ..⟩
     have:=S3.defers.none rfl
     rw [this]; exact Marks.plain _ _
    have E4:Ext s.obj s1.obj J J3 xB Uw w (w3.putObj (w.heap.size+1) (.loop { rc .ready none with state:=.busy })):=(E2.trans E3).put _ OY rfl (by omega) rfl
    refine wpIn_mono (Z_ (ro:=some (w.heap.size+1)) _ _ hvb oZ.no a3 _ hA5) ?_
    rintro e a5 w5 hq
    have close:∀ (s5:St) (pe:Option Code) (yv:LV) (bb:Bool),oq G (Dk.plain [] false) N s1.obj J3 Uw (w3.putObj (w.heap.size+1) (.loop { rc .ready none with state:=.busy })) s5 a5 w5→K' yv bb s5.objs→bb=pe.isNone→(∀ (J:Nat→Prop) w ι,cQ J w ι yv Go.undef)→
      (∀ w6:World,w6.heap[w.heap.size+1]? = some (.loop (rc (if pe.isNone then .ready else .done) pe))→w6.heap[w.heap.size]? = some (.deferred (some []))→L2 (w.heap.size+1) w.heap.size rc jm yv w6)→
      ∃ v w6,(Instr.endRound (w.heap.size+1) pe).run P w5=.ok v w6∧(fun (e:Ending) w'=>∃ ys' b ay,e=.returned (.bool b)∧K' ys' b ay∧∀ dst,(∀ d,dst=some d→d<ZY)→At G (L3 (w.heap.size+1) w.heap.size rc jm) ZY s.obj J xB w (fE dst (.bool b) (fun t=>if YS=t then ys' else get t)) (aB ay) (a2.put dst (.bool b)) w') (.returned v) w6:=by
     intro s5 pe yv bb TX hk hbb VW hrecv
     obtain ⟨J5,Zi,S5,E5⟩:=TX.ex
     have Zn:=E5.nc S4
     have WS:=Zn _ _ hL4 rfl
     have hD5:=Zn _ _ hD4 rfl
     have CN5:=CN.put (.loop { rc .busy none with state:=if pe.isNone then .ready else .done,pending:=pe }) WS rfl
     refine ⟨_,_,run_endRound (P:=P) pe WS,yv,bb,s5.objs,by rw [hbb],hk,fun dst hd=>?_⟩
     refine ⟨J5,Zi,⟨S5.store.put _ WS rfl,fun t=>?_,?_,?_,?_,S2.lim⟩,(E4.trans E5).put _ WS rfl (by omega) rfl⟩
     ·have hold:∀ t,cQ J5 (w5.putObj (w.heap.size+1) (.loop { rc .busy none with state:=if pe.isNone then .ready else .done,pending:=pe })) Zi (if YS=t then yv else get t) (a2.tmps.getD t Go.undef):=by
       intro t
       by_cases ht:YS=t
       ·rw [if_pos ht]
        have:a2.tmps.getD t Go.undef=Go.undef:=by
         have h1:=S2.size
         have h2:=S2.lim
         rw [Array.getD_eq_getD_getElem?,Array.getElem?_eq_none (by omega)]; rfl
        rw [this]; exact VW _ _ _
       ·rw [if_neg ht]
        exact ((((S2.env t).ev S2.store E3.ev).cn S3.store UQ (fun _ _ _ h=>h)).ev S4 E5.ev).cn S5.store CN5 (fun _ _ _ h=>h)
      cases dst with
      | none=>simpa [fE,Act.put] using hold t
      | some d=>
        have OV:=hd d rfl
        simp only [fE,Act.put,Option.some.injEq]
        by_cases ht:d=t
        ·subst ht
         rw [if_pos rfl]
         have:(a2.tmps.setIfInBounds d (.bool bb)).getD d Go.undef=.bool bb:=by simp [Array.getD_eq_getD_getElem?,S2.size,OV]
         rw [this]; rfl
        ·rw [if_neg ht]
         have:(a2.tmps.setIfInBounds d (.bool bb)).getD t Go.undef=a2.tmps.getD t Go.undef:=by
          simp [Array.getD_eq_getD_getElem?,Array.getElem?_setIfInBounds_ne ht]
         rw [this]; exact hold t
     ·cases dst <;> simp [Act.put,S2.size]
     ·have h1:=S2.defers.none rfl
      have h2:(a2.put dst (.bool bb)).defers=a2.defers:=by cases dst <;> rfl
      rw [h2,h1]; exact Marks.plain (L3 (w.heap.size+1) w.heap.size rc jm) _
     ·have h2:fE dst (.bool bb) (fun t=>if YS=t then yv else get t) YS=yv:=by
       unfold fE
       rw [if_neg]
       ·simp
       ·intro h
        have h3:=hd YS h
        have:=S2.lim
        omega
      rw [h2]
      exact hrecv _ (World.putObj_heap_same (Array.getElem?_eq_some_iff.1 WS).1) ((World.putObj_heap_other (by omega)).trans hD5)
    cases e with
    | normal=>
      obtain ⟨s5,TX,hk⟩:=hq
      exact close s5 none jK true TX hk rfl (fun _ _ _=>rfl) (fun w6 h1 h2=>⟨(fun _=>h1),(fun h=>by cases h),(fun _=>h2),rfl⟩)
    | exit i=>
      obtain ⟨Sf,s5,TX,_,hjm,hk⟩:=hq
      subst hjm
      exact close s5 (some (.exit i)) jS false TX hk rfl (fun _ _ _=>⟨#[],rfl,trivial⟩) (fun w6 h1 h2=>⟨(fun h=>by cases h),(fun _=>h1),(fun _=>h2),rfl⟩)
    | ret=>
      obtain ⟨s5,TX,hjm,hk⟩:=hq
      subst hjm
      exact close s5 (some .ret) jS false TX hk rfl (fun _ _ _=>⟨#[],rfl,trivial⟩) (fun w6 h1 h2=>⟨(fun h=>by cases h),(fun _=>h1),(fun _=>h2),rfl⟩)
    | goto l=>exact hq.elim
    | panic ch=>
      obtain ⟨v,s',_,_,_,hx,_⟩:=hq
      exact (hx rfl).elim
    | outgrown=>exact hq.elim
  | exit i=>exact hq.2.elim (fun _ h=>h.2)
  | ret=>exact hq.elim (fun _ h=>h.2)
  | goto l=>exact hq.elim
  | panic ch=>
    obtain ⟨v,s',_,_,_,hx⟩:=hq
    exact hx.elim
  | outgrown=>exact hq.elim
 refine nZ.2 (Calls.mono (TN Ac) ?_)
 clear TN Ac
 rintro e w3 ⟨v,rfl,yv,ay,J3,Uw,hR,uz,S3,E3⟩
 have Z0:=back E3
 have fin:∀ (st:LoopState) (pe:Option Code),w3.heap[w.heap.size+1]? = some (.loop (rc st pe))→w3.heap[w.heap.size]? = some (.deferred (some []))→
   oq G D N br J0 cw w0 ⟨s.env,ay⟩ { a with defers:=[{ target:=.collected w.heap.size,args:=#[] }]++a.defers } (w3.putObj (w.heap.size+1) (.loop { rc st pe with state:=.exhausted })):=by
  intro st pe OY Y3
  have UQ:=CN.put (.loop { rc st pe with state:=.exhausted }) OY rfl
  have E4:=Z0.put (.loop { rc st pe with state:=.exhausted }) OY rfl (by omega) rfl
  have nc:iO w (w3.putObj (w.heap.size+1) (.loop { rc st pe with state:=.exhausted })):=E4.nc S.store
  refine ⟨J3,Uw,⟨S3.put _ OY rfl,fun t=>((S.env t).ev S.store Z0.ev).cn S3 UQ (fun _ _ _ h=>h),S.size,?_,D.keep _ _ _ nc S.ys,S.lim⟩,E.trans E4⟩
  obtain ⟨Bs,h1,h2,h3,h4⟩:=S.defers
  refine ⟨w.heap.size::Bs,(fun h=>by rw [hmk] at h; cases h),List.nodup_cons.2 ⟨fun h=>?_,h2⟩,by simp [h3],fun b hb=>?_⟩
  ·have:=(Array.getElem?_eq_some_iff.1 (h4 _ h).2).1
   omega
  ·rcases List.mem_cons.1 hb with rfl | hb
   ·exact ⟨by omega,(World.putObj_heap_other (by omega)).trans Y3⟩
   ·exact ⟨(h4 b hb).1,nc _ _ (h4 b hb).2 rfl⟩
 rcases hend yv ay hR with ⟨rfl,hk⟩ | ⟨rfl,hk⟩
 ·exact ⟨none,_,run_endLoop (P:=P) (uz.1 rfl) (by simp [rc]),_,fin _ _ (uz.1 rfl) (uz.2.2.1 (by simp [jK])),hk⟩
 ·refine ⟨some (PR jm),_,run_endLoop (P:=P) (uz.2.1 rfl) (by simp [rc]),?_⟩
  have hf:=fin _ _ (uz.2.1 rfl) (uz.2.2.1 (by simp [jS]))
  cases jm with
  | none=>exact wpIn_ret ⟨_,hf,hk⟩
  | some i=>exact wpIn_exit ⟨hk.1,_,hf,hk.2⟩
theorem eW:∀ (code:Code) (c:C) {N:Nat},eH P N code=some c→∀ {ro:Option Nat} {nn:Nat} {D:Dk} {br:Nat→cv} {J0:Nat→Prop} {cw:Nat→Nat→Option Nat} {w0:World} (hrf:j7 c=true∨(ro=none∧D.sU=true∧D.lo≤w0.heap.size)) (s:St) (K:tB),vc P G c s K→oZ P G ro K.y D N br J0 cw w0→∀ a w,oq G D N br J0 cw w0 s a w→code.wpIn (fz ro) nn P (KQ G D N br J0 cw w0 K) a w
 | .skip,c,N,hc,ro,nn,D,br,J0,cw,w0,hrf,s,K,h,hY,a,w,hA=>by
   simp only [eH] at hc; cases hc
   exact wpIn_skip ⟨s,hA,h⟩
 | .region UZ ops draw,c,N,hc,ro,nn,D,br,J0,cw,w0,hrf,s,K,h,hY,a,w,hA=>by
   simp only [eH] at hc
   split at hc
   ·rename_i eT xL
    cases hc
    cases draw with
    | false=>
      simp only [Bool.false_eq_true,if_false,vc] at h
      simp only [kD,Bool.false_eq_true,if_false] at xL
      obtain ⟨h1,h2⟩:=kG xL
      exact wpIn_region_list (sH hY (K:=K.n) (fun s a w hA hK=>⟨s,hA,hK⟩) (fun v s a w hd hO hX=>⟨v,s,rfl,hd,hO,hX⟩) _ _ _ _ _ h1 h2 h hA)
    | true=>
      simp only [if_true] at h
      unfold CZ at h
      split at h
      ·rename_i p hp
       split at h
       ·rename_i io mT
        simp only [vc] at h
        exact Lc hY (K:=K.n) (fun s a w hA hK=>⟨s,hA,hK⟩) (fun v s a w hd hO hX=>⟨v,s,rfl,hd,hO,hX⟩) xL mT (List.find?_some hp) h hA
       ·simp only [vc] at h
        exact wL (K:=K.n) (fun s a w hA hK=>⟨s,hA,hK⟩) (fun v s a w hd hO hX=>⟨v,s,rfl,hd,hO,hX⟩) xL h hA
      ·simp only [vc] at h
       exact wL (K:=K.n) (fun s a w hA hK=>⟨s,hA,hK⟩) (fun v s a w hd hO hX=>⟨v,s,rfl,hd,hO,hX⟩) xL h hA
   ·cases hc
 | .seq x y,c,N,hc,ro,nn,D,br,J0,cw,w0,hrf,s,K,h,hY,a,w,hA=>by
   simp only [eH] at hc
   split at hc
   ·rename_i cx cy h1 h2
    cases hc
    have bY:j7 cx=true∨(ro=none∧D.sU=true∧D.lo≤w0.heap.size):=hrf.imp (fun h=>by simp only [j7,Bool.and_eq_true] at h; exact h.1) id
    have jD:j7 cy=true∨(ro=none∧D.sU=true∧D.lo≤w0.heap.size):=hrf.imp (fun h=>by simp only [j7,Bool.and_eq_true] at h; exact h.2) id
    refine wpIn_seq (wpIn_mono (eW x cx h1 bY s _ h hY a w hA) (fun e a' w' hq=>?_))
    cases e with
    | normal=>obtain ⟨s',wv,hk⟩:=hq; exact eW y cy h2 jD s' K hk hY a' w' wv
    | exit i=>exact hq
    | ret=>exact hq
    | goto l=>exact hq.elim
    | panic ch=>exact hq
    | outgrown=>exact hq.elim
   ·cases hc
 | .cond x y z,c,N,hc,ro,nn,D,br,J0,cw,w0,hrf,s,K,h,hY,a,w,hA=>by
   simp only [eH] at hc
   split at hc
   ·rename_i cx cy cz h1 h2 h3
    cases hc
    have jD:j7 cy=true∨(ro=none∧D.sU=true∧D.lo≤w0.heap.size):=hrf.imp (fun h=>by simp only [j7,Bool.and_eq_true] at h; exact h.1) id
    have Zx:j7 cz=true∨(ro=none∧D.sU=true∧D.lo≤w0.heap.size):=hrf.imp (fun h=>by simp only [j7,Bool.and_eq_true] at h; exact h.2) id
    simp only [vc] at h
    split at h
    ·rename_i t ht
     have hv:a.eval x=.bool t:=by
      obtain ⟨J,ι,S,E⟩:=hA.ex
      have hr:=aT S.store S.env h1
      rw [ht] at hr
      exact hr
     exact wpIn_cond_split hv (fun hh=>eW y cy h2 jD s K (by rw [if_pos hh] at h; exact h) hY a w hA) (fun hh=>eW z cz h3 Zx s K (by rw [if_neg (by simp [hh])] at h; exact h) hY a w hA)
    ·rename_i ht
     obtain ⟨t,hv⟩:∃ t,a.eval x=.bool t:=by
      obtain ⟨J,ι,S,E⟩:=hA.ex
      have hr:=aT S.store S.env h1
      rw [ht] at hr
      exact hr
     exact wpIn_cond_split hv (fun hh=>eW y cy h2 jD s K h.1 hY a w hA) (fun hh=>eW z cz h3 Zx s K h.2 hY a w hA)
    ·exact h.elim
   ·cases hc
 | .block i x,c,N,hc,ro,nn,D,br,J0,cw,w0,hrf,s,K,h,hY,a,w,hA=>by
   simp only [eH] at hc
   split at hc
   ·rename_i cx h1
    by_cases Sf:i=AG
    ·rw [if_pos Sf] at hc; cases hc
    rw [if_neg Sf] at hc
    cases hc
    refine wpIn_block (wpIn_mono (eW x cx h1 hrf s _ h hY a w hA) (fun e a' w' hq=>?_))
    cases e with
    | normal=>exact hq
    | exit j=>
      obtain ⟨hjP,s',wv,hk⟩:=hq
      simp only [Exit.inBlock]
      dsimp only at hk
      by_cases hj:j=i
      ·rw [if_pos hj] at hk ⊢; exact ⟨s',wv,hk⟩
      ·rw [if_neg hj] at hk ⊢; exact ⟨hjP,s',wv,hk⟩
    | ret=>exact hq
    | goto l=>exact hq.elim
    | panic ch=>
      obtain ⟨v,s',h1,h2,h3,hk⟩:=hq
      dsimp only at hk
      rw [if_neg (fun e=>Sf e.symm)] at hk
      exact ⟨v,s',h1,h2,h3,hk⟩
    | outgrown=>exact hq.elim
   ·cases hc
 | .loop x,c,N,hc,ro,nn,D,br,J0,cw,w0,hrf,s,K,h,hY,a,w,hA=>by
   simp only [eH] at hc
   split at hc
   ·rename_i cx h1
    cases hc
    simp only [vc] at h
    obtain ⟨ts,I,M,ad,hI,hstep⟩:=h
    replace hA:=hA.de ad
    have hm:∀ o n b,cw o n=some b→o<(de ad s).objs.length:=fun o n b hb=>hA.bound hb
    have key:∀ n k s' a w,k<n→I k s'→oq G D N br J0 cw w0 s' a w→Code.roundsIn (fz ro) nn P x (KQ G D N br J0 cw w0 K) n a w:=by
     intro n
     induction n with
     | zero=>intro k _ _ _ hk; omega
     | succ n ih=>
       intro k s' a w hk hIk wv
       rw [roundsIn_succ]
       refine wpIn_mono (eW x cx h1 hrf s' _ (hstep k s' hIk) hY a w wv) (fun e a' w' hq=>?_)
       cases e with
       | normal=>
         obtain ⟨s'',Y7,j,hj,s3,hIj,himp⟩:=hq
         exact ih j _ a' w' (by omega) hIj (himp _ _ _ _ _ _ _ _ hm Y7)
       | exit i=>exact hq
       | ret=>exact hq
       | goto l=>exact hq.elim
       | panic ch=>exact hq
       | outgrown=>exact hq.elim
    exact wpIn_loop_rounds (M+1) (key (M+1) M _ a w (by omega) hI (hA.Vf ts))
   ·cases hc
 | .exit i,c,N,hc,ro,nn,D,br,J0,cw,w0,hrf,s,K,h,hY,a,w,hA=>by
   simp only [eH] at hc
   by_cases Sf:i=AG
   ·rw [if_pos Sf] at hc; cases hc
   rw [if_neg Sf] at hc
   cases hc
   exact wpIn_exit ⟨Sf,s,hA,h⟩
 | .scope x,c,N,hc,ro,nn,D,br,J0,cw,w0,hrf,s,K,h,hY,a,w,hA=>by
   simp only [eH] at hc
   split at hc
   ·rename_i cx h1
    cases hc
    refine oP (wpIn_mono (eW x cx h1 hrf s K h hY a w hA) (fun e a' w' hq=>?_))
    cases e with
    | normal=>exact hq
    | exit i=>exact hq
    | ret=>exact hq
    | goto l=>exact hq.elim
    | panic ch=>exact hq
    | outgrown=>exact hq.elim
   ·cases hc
 | .ret,c,N,hc,ro,nn,D,br,J0,cw,w0,hrf,s,K,h,hY,a,w,hA=>by
   simp only [eH] at hc; cases hc
   exact wpIn_ret ⟨s,hA,h⟩
 | .label _,c,N,hc,ro,nn,D,br,J0,cw,w0,hrf,s,K,h,hY,a,w,hA=>by
   simp only [eH] at hc; cases hc
   exact wpIn_label ⟨s,hA,h⟩
 | .goto _,c,N,hc,_,_,_,_,_,_,_,_,_,_,_,_,_,_,_=>by simp [eH] at hc
 | .refuse _,c,N,hc,_,_,_,_,_,_,_,_,_,_,_,_,_,_,_=>by simp [eH] at hc
 | .rangeFunc g ps ca cb,c,N,hc,ro,nn,D,br,J0,cw,w0,hrf,s,K,h,hY,a,w,hA=>by
   simp only [eH] at hc
   split at hc
   ·rename_i cg xa xb h1 h2 h3
    split at hc
    ·rename_i hok
     cases hc
     simp only [Bool.and_eq_true,List.all_eq_true,decide_eq_true_eq] at hok
     obtain ⟨⟨hna,hnb⟩,TF⟩:=hok
     obtain ⟨hro,hmk,hlo⟩:ro=none∧D.sU=true∧D.lo≤w0.heap.size:=hrf.resolve_left (by simp [j7])
     subst hro
     simp only [vc] at h
     split at h
     ·rename_i k fs cs gY
      exact Gl h1 TF hmk hlo (fun s K h hY a w hA=>eW ca xa h2 (.inl hna) s K h hY a w hA) (fun s K h hY a w hA=>eW cb xb h3 (.inl hnb) s K h hY a w hA) gY h a w hA
     ·exact h.elim
    ·cases hc
   ·cases hc
end
def RV.of (s:St):RV→Option LV
 | .t n=>some (s.get n)
 | .c1 n=>match s.get n with
   | .ptr o col=>match s.obj o with
     | .live (.box _ cells)=>cells[col]?
     | _=>none
   | _=>none
 | .cn n size=>match s.get n with
   | .ptr o col=>match s.obj o with
     | .live (.box _ cells)=>if ((cells.drop col).take size).length=size then some (.agg ((cells.drop col).take size)) else none
     | _=>none
   | _=>none
def xA.of (s:St):List RV→Option (List LV)
 | []=>some []
 | x::xs=>match x.of s,xA.of s xs with
   | some v,some vs=>some (v::vs)
   | _,_=>none
def aW:List LV→LV
 | [x]=>x
 | xs=>.dP xs
def Aw (P:Program):ResultVar→Option RV
 | .tmp t=>some (.t t)
 | .cell a T=>match lR P T,dA P T with
   | some true,some n=>some (.cn a n)
   | some false,some _=>some (.c1 a)
   | _,_=>none
def oK (P:Program):List ResultVar→Option (List RV)
 | []=>some []
 | x::xs=>match Aw P x,oK P xs with
   | some y,some ys=>some (y::ys)
   | _,_=>none
def aq (P:Program) (fn:Func):Option (Nat×C×List RV):=match fn.body with
 | some code=>match eH P fn.ntmps code,oK P fn.results.toList with
   | some c,some rv=>if fn.ntmps≤YS then some (fn.ntmps,c,rv) else none
   | _,_=>none
 | none=>none
def fM:Nat→List LV→List (Nat×LV)
 | _,[]=>[]
 | k,x::xs=>(k,x)::fM (k+1) xs
def Xs (rv:List RV) (k:Nat) (r:LV) (aF:List aD) (s:St):Prop:=
 ∃ vs ρ Z,xA.of s rv=some vs∧ρ.take k=List.range k∧ρ.Nodup∧(∀ z∈Z,z∉ρ)∧(∀ z∈Z,∃ et e rows,s.obj z=.live (.dat et e rows)∨s.obj z=.live (.kA et e rows))∧aF.length=ρ.length∧
   (∀ (i o:Nat),ρ[i]? = some o→∃ ob,aF[i]? = some ob∧s.obj o=.live (fc (bB ρ 0) ob))∧aF.all (ei ρ.length)=true∧ai s.obj ρ Z (aW vs) r
def xy (rv:List RV) (k:Nat) (r:LV) (aF:List aD) (s:St):Prop:=∃ ad,Xs rv k r aF (de ad s)
def Bf (tmps:Array Value):ResultVar→Sem Value
 | .tmp q=>pure (tmps.getD q Go.undef)
 | .cell p T=>do loadVar T (← asAddr (tmps.getD p Go.undef))
theorem pU (fn:Func) (tmps:Array Value):results fn tmps=(do let vs ← fn.results.mapM (Bf tmps); pure (if h:vs.size=1 then vs[0] else .tuple vs)):=rfl
section
variable {P:Program} {G:Nat→Option (List DV)} {N:Nat} {J:Nat→Prop} {w:World} {ι:Nat→Nat→Option Nat}
theorem RV.sound {s:St} {a:Act} (S:aJ G J w ι s.obj) (he:∀ t,cQ J w ι (s.get t) (a.tmps.getD t Go.undef)) {x:ResultVar} {y:RV} (hc:Aw P x=some y) {r:LV} (hr:y.of s=some r) :
  ∃ v,(Bf a.tmps x).run P w=.ok v w∧cQ J w ι r v:=by
 cases x with
 | tmp q=>
   simp only [Aw] at hc; cases hc
   simp only [RV.of] at hr; cases hr
   exact ⟨_,rfl,he q⟩
 | cell p T=>
   simp only [Aw] at hc
   split at hc
   ·rename_i n ha hs
    cases hc
    simp only [RV.of] at hr
    split at hr
    ·rename_i o col hg
     split at hr
     ·rename_i et cells ho
      split at hr
      ·rename_i hl
       cases hr
       have hp:=he p
       rw [hg] at hp
       obtain ⟨b,hb,hv⟩:=hp
       have h0:=S.rep o
       rw [ho] at h0
       obtain ⟨⟨b',Cc,h1,h2,h3⟩,_⟩:=h0
       rw [hb] at h1; cases h1
       have h4:=(h3.drop col).take n
       have hrun:=zz (P:=P) ha hs (jL h2 col n) (by rw [← h4.length,hl])
       refine ⟨_,?_,⟨_,rfl,by simpa using h4⟩⟩
       simp only [Bf]
       rw [hv]
       simpa [Instr.loadAt,Instr.sureAddr,asAddr] using hrun
      ·cases hr
     ·cases hr
    ·cases hr
   ·rename_i n ha hs
    cases hc
    simp only [RV.of] at hr
    split at hr
    ·rename_i o col hg
     split at hr
     ·rename_i et cells ho
      have hp:=he p
      rw [hg] at hp
      obtain ⟨b,hb,hv⟩:=hp
      have h0:=S.rep o
      rw [ho] at h0
      obtain ⟨⟨b',Cc,h1,h2,h3⟩,_⟩:=h0
      rw [hb] at h1; cases h1
      obtain ⟨u,hu,_,DP⟩:=h3.get hr
      have hrun:=uH (P:=P) (w:=w) ha (b:=b) (o:=col) (v:=u) (by rw [cell_of_row w b col Cc et _ h2]; simpa using hu)
      refine ⟨u,?_,DP⟩
      simp only [Bf]
      rw [hv]
      simpa [Instr.loadAt,Instr.sureAddr,asAddr] using hrun
     ·cases hr
    ·cases hr
   ·cases hc
theorem xA.sound {s:St} {a:Act} (S:aJ G J w ι s.obj) (he:∀ t,cQ J w ι (s.get t) (a.tmps.getD t Go.undef)):∀ {xs:List ResultVar} {ys:List RV},oK P xs=some ys→∀ {rs:List LV},xA.of s ys=some rs→
  ∃ vs,(xs.mapM (Bf a.tmps)).run P w=.ok vs w∧bW J w ι rs vs
 | [],ys,hc,rs,hr=>by
   simp only [oK] at hc; cases hc
   simp only [xA.of] at hr; cases hr
   exact ⟨[],rfl,trivial⟩
 | x::xs,ys,hc,rs,hr=>by
   simp only [oK] at hc
   split at hc
   ·rename_i y ys' h1 h2
    cases hc
    simp only [xA.of] at hr
    split at hr
    ·rename_i v vs h3 h4
     cases hr
     obtain ⟨u,hu,DP⟩:=RV.sound S he h1 h3
     obtain ⟨us,R_,xK⟩:=xA.sound S he h2 h4
     refine ⟨u::us,?_,DP,xK⟩
     rw [List.mapM_cons,Sem.run_bind,hu]
     simp only [Result.andThen_ok,Sem.run_bind,R_,Sem.run_pure]
    ·cases hr
   ·cases hc
theorem mL:∀ (xs:List LV) (vs:List Value) (k t:Nat),bW J w ι xs vs→cQ J w ι (bx (fM k xs) t) (if k≤t then (vs[t-k]?).getD Go.undef else Go.undef)
 | [],[],k,t,_=>trivial
 | x::xs,v::vs,k,t,h=>by
   simp only [fM,bx]
   by_cases hk:k=t
   ·subst hk; simpa using h.1
   ·rw [if_neg hk]
    have:=mL xs vs (k+1) t h.2
    by_cases hlt:k≤t
    ·rw [if_pos (by omega)] at this
     rw [if_pos hlt]
     have e:t-k=(t-(k+1))+1:=by omega
     rw [e]; simpa using this
    ·rw [if_neg (by omega)] at this
     rw [if_neg hlt]; exact this
 | [],_::_,_,_,h=>h.elim
 | _::_,[],_,_,h=>h.elim
theorem rF {n:Nat} {fn:Func} {tmps:Array Value} {R:Ending→World→Prop} {obj br:Nat→cv} {J0:Nat→Prop} {cw:Nat→Nat→Option Nat} {w0:World} {get:Nat→LV}
  (fin:∀ w,aJ G J w ι obj→(∀ t,cQ J w ι (get t) (tmps.getD t Go.undef))→Ext br obj J0 J cw ι w0 w→∃ v,(results fn tmps).run P w=.ok v w∧R (.returned v) w) :
  ∀ (Bs:List Nat) (w:World),Bs.Nodup→(∀ b∈Bs,w0.heap.size≤b∧w.heap[b]? = some (.deferred (some [])))→aJ G J w ι obj→(∀ t,cQ J w ι (get t) (tmps.getD t Go.undef))→Ext br obj J0 J cw ι w0 w→
    LeavesInM (fz none) n P fn tmps R (Bs.map fun b=>{ target:=.collected b,args:=#[] }) .returning w
 | [],w,_,_,S,he,E=>fin w S he E
 | b::Bs,w,hn,hb,S,he,E=>by
   obtain ⟨h1,h2⟩:=hb b (by simp)
   have hn':=List.nodup_cons.1 hn
   have UQ:=CN.put (.deferred none) h2 rfl
   refine ⟨by simp,.inl ⟨b,_,rfl,run_takeDeferred (P:=P) h2,?_⟩⟩
   refine rF fin Bs _ hn'.2 (fun b' hb'=>?_) (S.put _ h2 rfl) (fun t=>(he t).cn S UQ (fun _ _ _ h=>h)) (E.put _ h2 rfl h1 rfl)
   have hne:b'≠b:=fun e=>hn'.1 (e ▸ hb')
   exact ⟨(hb b' (by simp [hb'])).1,(World.putObj_heap_other hne).trans (hb b' (by simp [hb'])).2⟩
/-- A FUNCTION KEEPS ITS CONTRACT, if its text's vc holds. -/
theorem u6 {f:Nat} {fn:Func} {c:C} {rv:List RV} {args:List LV} {aM aF:List aD} {r:LV} (hf:P.funcs[f]? = some fn) (hn:fn.name≠ "runtime.NumGoroutine") (iH:aq P fn=some (N,c,rv)) (hl:args.length≤N)
  (h:vc P G c ⟨fM 0 args,aM.map some⟩ ⟨xy rv aM.length r aF,fun _ _=>False,xy rv aM.length r aF,sQ⟩):bw P G f args aM r aF:=by
 unfold aq at iH
 split at iH
 ·rename_i code hbody
  split at iH
  ·rename_i c' X1 hc Im
   split at iH
   case isFalse=>cases iH
   rename_i hlim
   cases iH
   refine ⟨by simp [mB,hf,hn,hbody],fun J0 cw w0 vs S0 hargs=>?_⟩
   have hvl:vs.size=args.length:=by have:=hargs.length; simpa using this.symm
   refine (nZ (ro:=none) (n:=0)).1 (callsIn_of_wp_marks hf hbody trivial (wpIn_mono (eW (N:=fn.ntmps) (D:=Dk.plain [] true w0.heap.size) (br:=aB (aM.map some)) (J0:=J0) (cw:=cw) (w0:=w0) code c hc (.inr ⟨rfl,rfl,Nat.le_refl _⟩) _ _ h oZ.no _ w0 ⟨J0,cw,⟨S0,fun t=>?_,?_,Marks.plain _ _,trivial,hlim⟩,Ext.refl ..⟩) (fun e a w hq=>?_)))
   ·have h1:=mL args vs.toList 0 t hargs
    simp only [Nat.zero_le,if_true,Nat.sub_zero] at h1
    have h2:(vs++Array.replicate (fn.ntmps-vs.size) Go.undef).getD t Go.undef=(vs.toList[t]?).getD Go.undef:=by
     simp only [Array.getD_eq_getD_getElem?,Array.getElem?_append,Array.getElem?_toList]
     by_cases ht:t<vs.size
     ·rw [if_pos ht]
     ·rw [if_neg ht,Array.getElem?_eq_none (Nat.le_of_not_lt ht),Array.getElem?_replicate]
      split <;> rfl
    rw [h2]; exact h1
   ·simp; omega
   ·have fin:∀ s,oq G (Dk.plain [] true w0.heap.size) fn.ntmps (aB (aM.map some)) J0 cw w0 s a w→xy rv aM.length r aF s→
     LeavesInM (fz none) 0 P fn a.tmps (fun e w'=>∃ v,e=.returned v∧a_ G (aB (aM.map some)) (aB (aF.map some)) J0 cw w0 r v w') a.defers .returning w:=by
     intro s hA hB
     obtain ⟨ad,hB⟩:=hB
     replace hA:=hA.de ad
     generalize de ad s=s at hA hB
     obtain ⟨J,ι,S,E⟩:=hA.ex
     obtain ⟨rs,ρ,Z,yR,hk,hnd,hz,xO,hlen,hob,hid,hR⟩:=hB
     obtain ⟨Bs,_,hBn,hBd,hBm⟩:=S.defers
     have WW:a.defers=Bs.map (fun b=>{ target:=.collected b,args:=#[] }):=by rw [hBd]; simp [Dk.plain]
     rw [WW]
     refine rF (get:=s.get) ?_ Bs w hBn hBm S.store S.env E
     clear hA hBm
     have Xl:=S.env
     have XU:=S.store
     clear S E hBd WW
     intro w XU Xl E
     obtain ⟨us,R_,xK⟩:=xA.sound XU Xl Im yR
     have hm:(fn.results.mapM (Bf a.tmps)).run P w=.ok us.toArray w:=by
      rw [Array.mapM_eq_mapM_toList,Sem.run_map,R_]; rfl
     have hv:∃ v,(results fn a.tmps).run P w=.ok v w∧cQ J w ι (aW rs) v:=by
      refine ⟨if h:us.toArray.size=1 then us.toArray[0] else .tuple us.toArray,?_,?_⟩
      ·rw [pU,Sem.run_bind,hm]
       rfl
      ·have Kj:=xK.length
       cases rs with
       | nil=>
         cases us with
         | nil=>exact ⟨#[],rfl,trivial⟩
         | cons _ _=>simp at Kj
       | cons x xs=>
         cases us with
         | nil=>simp at Kj
         | cons u us=>
           cases xs with
           | nil=>
             cases us with
             | nil=>exact xK.1
             | cons _ _=>simp at Kj
           | cons y ys=>
             cases us with
             | nil=>simp at Kj
             | cons u2 us=>exact ⟨_,by simp,xK⟩
     obtain ⟨v,hv1,Ki⟩:=hv
     refine ⟨v,hv1,v,rfl,?_⟩
     obtain ⟨S',hown⟩:=XU.sub (base:=0) hnd hz hlen hob hid xO
     refine ⟨_,_,S',mK XU _ _ v hR Ki,⟨E.ev.os,E.ev.tape,E.ev.output,E.ev.size,E.ev.same,E.ev.shape,fun b hb=>.inl (E.ev.jmono b hb),fun b hb=>?_,fun o n b hb=>?_⟩,?_⟩
     ·rcases hb with hb | ⟨z,VM,Kh⟩
      ·exact E.ev.jnew b hb
      ·rcases E.own b ⟨z,Kh⟩ with h1 | h1
       ·exact .inr (.inr h1)
       ·exact .inr (.inl h1)
     ·have ho:o<aM.length:=by
       rcases Nat.lt_or_ge o aM.length with h1 | h1
       ·exact h1
       ·have:=S0.rep o
        rw [cR (by simpa using h1)] at this
        rw [this n] at hb; cases hb
      have Yd:ρ[o]? = some o:=by
       have h1:(ρ.take aM.length)[o]? = some o:=by rw [hk]; simp [ho]
       rwa [List.getElem?_take_of_lt ho] at h1
      exact lB Yd (E.ev.imono o n b hb)
     ·rintro b ⟨i,hb⟩
      obtain ⟨o,_,h2⟩:=hown i b hb
      exact E.own b ⟨o,h2⟩
    cases e with
    | normal=>obtain ⟨s,hA,hB⟩:=hq; exact fin s hA hB
    | ret=>obtain ⟨s,hA,hB⟩:=hq; exact fin s hA hB
    | exit i=>obtain ⟨_,s,hA,hB⟩:=hq; exact hB.elim
    | goto l=>exact hq.elim
    | panic ch=>obtain ⟨v,s,h1,h2,h3,hk⟩:=hq; exact hk.elim
    | outgrown=>exact hq.elim
  ·cases iH
 ·cases iH
/-- AN ITERATOR KEEPS ITS CONTRACT, if its text's vc holds with the rounds in the place of yield. -/
theorem Fh {f:Nat} {fn:Func} {c:C} {rv:List RV} {args:List LV} {objs:List (Option aD)} {Y:YO} {R:LV→List (Option aD)→Prop} (hf:P.funcs[f]? = some fn) (hn:fn.name≠ "runtime.NumGoroutine") (iH:aq P fn=some (N,c,rv)) (hl:args.length≤N) (TI:j7 c=true)
  (h:vc P G c ⟨(YS,jK)::fM 0 args,objs⟩ ⟨fun s=>R (s.get YS) s.objs∧rv=[],fun _ _=>False,fun s=>R (s.get YS) s.objs∧rv=[],Y⟩):CC P G f args objs Y R:=by
 unfold aq at iH
 split at iH
 ·rename_i code hbody
  split at iH
  ·rename_i c' X1 hc Im
   split at iH
   case isFalse=>cases iH
   rename_i hlim
   cases iH
   refine ⟨by simp [mB,hf,hn,hbody],fun D br J0 cw w0 J ι w vs hds hmk S0 hargs E0 hys hY=>?_⟩
   have hvl:vs.size=args.length:=by have:=hargs.length; simpa using this.symm
   refine (nZ (ro:=none) (n:=0)).1 (callsIn_of_wp hf hbody trivial (wpIn_mono (eW (N:=fn.ntmps) (D:=D) (br:=br) (J0:=J0) (cw:=cw) (w0:=w0) code c hc (.inl TI) _ _ h (hY _) _ w ⟨J,ι,⟨S0,fun t=>?_,?_,?_,?_,hlim⟩,E0⟩) (fun e a w hq=>?_)))
   ·have hsz:(vs++Array.replicate (fn.ntmps-vs.size) Go.undef).size=fn.ntmps:=by simp; omega
    show cQ J w ι (if YS=t then jK else bx (fM 0 args) t) _
    by_cases ht:YS=t
    ·rw [if_pos ht]
     have:(vs++Array.replicate (fn.ntmps-vs.size) Go.undef).getD t Go.undef=Go.undef:=by
      rw [Array.getD_eq_getD_getElem?,Array.getElem?_eq_none (by omega)]; rfl
     rw [this]; rfl
    rw [if_neg ht]
    have h1:=mL args vs.toList 0 t hargs
    simp only [Nat.zero_le,if_true,Nat.sub_zero] at h1
    have h2:(vs++Array.replicate (fn.ntmps-vs.size) Go.undef).getD t Go.undef=(vs.toList[t]?).getD Go.undef:=by
     simp only [Array.getD_eq_getD_getElem?,Array.getElem?_append,Array.getElem?_toList]
     by_cases ht:t<vs.size
     ·rw [if_pos ht]
     ·rw [if_neg ht,Array.getElem?_eq_none (Nat.le_of_not_lt ht),Array.getElem?_replicate]
      split <;> rfl
    rw [h2]; exact h1
   ·simp; omega
   ·show Marks D [] _
    rw [← hds]; exact Marks.plain _ _
   ·exact hys
   ·have fin:∀ s,oq G D fn.ntmps br J0 cw w0 s a w→R (s.get YS) s.objs∧rv=[]→
     a.defers=[]∧∃ v,(results fn a.tmps).run P w=.ok v w∧(fun (e:Ending) w'=>∃ v,e=.returned v∧∃ yv ay J' ι',R yv ay∧D.ys yv w'∧aJ G J' w' ι' (aB ay)∧Ext br (aB ay) J0 J' cw ι' w0 w') (.returned v) w:=by
     intro s hA hB
     obtain ⟨J,ι,S,E⟩:=hA.ex
     have hd:a.defers=[]:=by rw [S.defers.none hmk,hds]
     refine ⟨hd,?_⟩
     obtain ⟨hR,rfl⟩:=hB
     obtain ⟨us,R_,xK⟩:=xA.sound S.store S.env Im (rs:=[]) rfl
     have hm:(fn.results.mapM (Bf a.tmps)).run P w=.ok us.toArray w:=by
      rw [Array.mapM_eq_mapM_toList,Sem.run_map,R_]; rfl
     refine ⟨if h:us.toArray.size=1 then us.toArray[0] else .tuple us.toArray,?_,_,rfl,_,_,J,ι,hR,S.ys,S.store,E⟩
     rw [pU,Sem.run_bind,hm]
     rfl
    cases e with
    | normal=>obtain ⟨s,hA,hB⟩:=hq; exact fin s hA hB
    | ret=>obtain ⟨s,hA,hB⟩:=hq; exact fin s hA hB
    | exit i=>obtain ⟨_,s,hA,hB⟩:=hq; exact hB.elim
    | goto l=>exact hq.elim
    | panic ch=>obtain ⟨v,s,h1,h2,h3,hk⟩:=hq; exact hk.elim
    | outgrown=>exact hq.elim
  ·cases iH
 ·cases iH
end
end Dv
