/- part of the proof -/
import Derived.Test.YtjabcoodhpefhaaGreatDoorXA
import Derived.Laws.BytesString
import Derived.Laws.IdiomStrings
import Derived.OwnWalk
import Derived.MapKept
import Derived.Laws.LoneSync
import Derived.LoopN
import Derived.OwnWalkIn
import Derived.RangeFuncCalls
import Derived.RangeFuncIn
import Derived.RangeFuncNested
import Derived.RangeFuncBound
import Derived.Scope
import Derived.Below
import Derived.LoopNIn
import Derived.RangeFuncLeaves
set_option linter.all false
set_option maxHeartbeats 8000000
set_option maxRecDepth 1000000
namespace Dv
open Go Bool Int List Nat Go.World
section
variable{op:Op}{fn:Func}{T el o et tx rt kt:TypeId}{e:fN}{n b aJ lo bytes:Nat}{m:M}{X K:Operand}{x y k:bF}{α:Type}{rows:List (List DV)}
def FM:Operand->Operand->Bool
 |.tmp i,.tmp j=>i==j
 |.const (.int k a),.const (.int A b)=>k==A&&a==b
 |_,_=>false
def HA{x y:Operand}(h:FM x y=true)(a:Act):a.eval x=a.eval y:=by
 unfold FM at h;split at h
 .rename_i i j;have:i=j:=by simpa using h
  rw[this]
 .simp only[and_eq_true,beq_iff_eq]at h;rw[h.1,h.2]
 .cases h
def BX(P:Program)(t:TypeId):Bool:=match P.underlying t with
 |some (.int .i64)=>true
 |_=>false
theorem Iv{P:Program}{t:TypeId}(h:BX P t=true):P.underlying t=some (.int .i64):=by
 unfold BX at h;split at h
 .assumption
 .cases h
def jy(P:Program):Op->Option M
 |.slice T x lo hi none=>match aI x,fU lo,fU hi,P.underlying T with
  |some x,some lo,some hi,some (.array n e)=>if dY P e=some 1 then some (.sla n x lo hi)else none
  |_,_,_,_=>none
 |.call ⟨.builtin .copy,args,ts⟩=>match args.toList,ts.toList with
  |[x,y],[tx,ty]=>match aI x,aI y,P.underlying tx with
   |some x,some y,some (.slice e)=>if dY P e=some 1/\RZ P ty=true then some (.cpy x y)else none
   |_,_,_=>none
  |_,_=>none
 |.makeSlice T l c=>match aI l,P.underlying T with
  |some n,some (.slice e)=>match rG P e,zD P e with
   |some z,some (size,bytes)=>if FM l c=true/\z.length=size then some (.CX e size bytes z n)else none
   |_,_=>none
  |_,_=>none
 |.convert S T x=>match aI x,P.underlying S,P.underlying T with
  |some x,some (.slice e),some .string=>match P.underlying e with
   |some (.int .u8)=>some (.b2s x)
   |_=>none
  |some x,some .string,some (.slice e)=>match P.underlying e with
   |some (.int .u8)=>some (.s2b x)
   |_=>none
  |_,_,_=>none
 |.unOp .xor _ x=>match aI x with
  |some x=>some (.cpl x)
  |none=>none
 |.call ⟨.builtin .clear,args,ts⟩=>match args.toList,ts.toList with
  |[x],[tx]=>match aI x,P.underlying tx with
   |some x,some (.slice e)=>match rG P e,dY P e with
    |some z,some n=>if z.length=n then some (.clr n z x)else none
    |_,_=>none
   |_,_=>none
  |_,_=>none
 |.makeMap _ none=>some .mkm
 |.mapUpdate T m k x=>match aI m,aI k,aI x,P.underlying T with
  |some m,some k,some x,some (.map b _)=>if BX P b=true then some (.mup m k x)else none
  |_,_,_,_=>none
 |.insert T m k x=>match aI m,aI k,aI x,P.underlying T with
  |some m,some k,some x,some (.map b _)=>if BX P b=true then some (.mup m k x)else none
  |_,_,_,_=>none
 |.lookup T m k ok=>match aI m,aI k,P.underlying T with
  |some m,some k,some (.map b et)=>match P.info? et with
   |some i=>match i.zero with
    |some z=>if BX P b=true then some (.mlk z ok m k)else none
    |none=>none
   |none=>none
  |_,_,_=>none
 |_=>none
def Cu(P:Program):Op->Option M
 |.call ⟨.value (.func f),args,_⟩=>match P.funcs[f]? with
  |some fn=>if fn.body.isNone=true/\fn.origin = "" then
   (if fn.name = "sync/atomic.LoadInt64" then(match args.toList with
    |[x]=>match aI x with
     |some x=>some (.atl x)
     |none=>none
    |_=>none)
   else if fn.name = "sync/atomic.AddInt64" then(match args.toList with
    |[x,y]=>match aI x,aI y with
     |some x,some y=>some (.ata x y)
     |_,_=>none
    |_=>none)
   else none)else none
  |none=>none
 |_=>none
def oH(P:Program)(op:Op):Option I:=match Cu P op with
 |some m=>some (.more m)
 |none=>match cV P op with
  |some i=>some i
  |none=>match jy P op with
   |some m=>some (.more m)
   |none=>some (.more .stk)
def zG{P:Program}{i:I}(h:oH P op=some i):cV P op=some i\/∃m,i=.more m/\(jy P op=some m\/Cu P op=some m\/m=.stk):=by
 unfold oH at h;split at h
 .rename_i m O;cases h;exact .inr ⟨m,rfl,.inr (.inl O)⟩
 .split at h
  .rename_i j hj;cases h;exact .inl hj
  .split at h
   .rename_i m O;cases h;exact .inr ⟨m,rfl,.inl O⟩
   .cases h;exact .inr ⟨_,rfl,.inr (.inr rfl)⟩
def vi{P:Program}{f:bF}{as:List bF}(h:oH P op=some (.call f as)):cV P op=some (.call f as):=by
 rcases zG h with h|⟨m,h,_⟩
 .exact h
 .cases h
def Uo(h:fn.name = "sync/atomic.AddInt64"):Extern.find fn=some (Extern.Atomic.update (Op.intArith .add) .i64 true):=by unfold Extern.find;rw[h];kernel_rfl
def Qc(h:fn.name = "sync/atomic.LoadInt64"):Extern.find fn=some (Extern.Atomic.loadT (.int .i64)):=by unfold Extern.find;rw[h];kernel_rfl
def Td(h:fn.name = "sync/atomic.AddInt64")(h2:fn.origin = ""):Extern.findNext fn=none:=by unfold Extern.findNext;rw[h2,h];kernel_rfl
def Pj(h:fn.name = "sync/atomic.LoadInt64")(h2:fn.origin = ""):Extern.findNext fn=none:=by unfold Extern.findNext;rw[h2,h];kernel_rfl
section
variable {P:Program} {G:tY} {J:Nat->Prop} {w w':World} {ι:fe} {obj:Nat->bK} {a:Act} {get:Nat->LV} {base:Nat}
def VO{e:TypeId}(m:P.underlying T=some (.array n e))(hs:dY P e=some 1){col l h:Nat}{lo hi:Option Value}(H:BV lo 0 l)(h2:BV hi n h)(k1:l<=h)(k2:h<=n)(w:World) :
  (Instr.sliceAt T (.pointer (some ⟨b,col,none⟩)) lo hi none).run P w=.ok (.slice (some ⟨b,if n=l then col else col+l,none⟩) (h-l) (n-l)) w:=by
 obtain⟨i,v,q⟩:=cH hs;obtain⟨X,c,r,K⟩:=mh (P:=P) (b:=false) (mx:=none) (cap:=n) H h2 (.inl ⟨rfl,rfl⟩) k1 k2 (Nat.le_refl _) (Nat.le_refl _) (.inl rfl) w;have O:X=n:=by omega
 subst O;have U:(Go.sizeOf e).run P w=.ok 1 w:=by simp[Go.sizeOf,typeInfo,v,q]
 simp only[Instr.sliceAt,Sem.run_bind,run_underlying m w,Result.andThen_ok,Instr.sureAddr,Sem.run_pure,K,U]
 split<;>simp[Addr.add_mid]
theorem XP(h:fS G get obj base m=some e):∀p∈e.wr,∃ob,obj p.1=.live ob:=by
 intro p S;cases m<;>simp only[fS]at h<;>(repeat' split at h)<;>(try (cases h;done))<;>cases h<;>first
  |(cases S;done)
  |(simp only[mem_singleton]at S;subst S;exact⟨_,by assumption⟩)
def OK(S:aA G J w ι obj)(c:∀t,cW J w ι (get t) (a.tmps.getD t Go.undef))(Z:aI X=some x){lo hi:Option Operand}{lo' H:Option bF}(k:fU lo=some lo')(hh:fU hi=some H)
    (m:P.underlying T=some (.array n el)) (hs:dY P el=some 1) (A:fS G get obj base (.sla n x lo' H)=some e) :
  ∃v,(Instr.sliceAt T (a.eval X) (lo.map a.eval) (hi.map a.eval) none).run P w=.ok v w/\cW J w ι e.r v/\e.nw=[]/\e.wr=[]:=by
 have B:=aZ S c Z;simp only[fS]at A;split at A
 .rename_i o col y;rw[y]at B;obtain⟨b,V,q⟩:=B;split at A
  .rename_i et cells O;split at A
   .rename_i l h b1 b2;split at A
    .rename_i U;obtain⟨k1,k2,k3⟩:=U;cases A;have K:=VO (P:=P) m hs (b:=b) (col:=col) (mD S c k b1) (mD S c hh b2) k1 k2 w;refine⟨_,by rw[q];exact K,?_,rfl,rfl⟩;have h0:=S.rep o;rw[O]at h0;obtain⟨⟨b',C,m1,m2,m3⟩,_⟩:=h0;rw[V]at m1;cases m1;by_cases u:n=l
     .left;rw[show n-l=0 by omega,show h-l=0 by omega];exact⟨rfl,_,rfl⟩
     .right;refine⟨b,n-l,et,C.size,V,by rw[if_neg u,Nat.mul_one],by omega,by simp[shape?,m2],?_⟩;have:=m3.length;simp at this;omega
    .cases A
   .cases A
  .cases A
 .cases A
def yW{rows news:List (List α)}(H:∀r∈rows,r.length=aJ)(h2:∀r∈news,r.length=aJ):(splice rows lo news).flatten=splice rows.flatten (lo*aJ) news.flatten:=by
 have key:∀(l:List (List α)) (n:Nat),(∀r∈l,r.length=aJ)->(l.take n).flatten=l.flatten.take (n*aJ)/\(l.drop n).flatten=l.flatten.drop (n*aJ):=by
  intro l
  induction l with
  |nil=>intro n _;simp
  |cons r l u=>
   intro n y;have hr:=y r (by simp);cases n with
   |zero=>simp
   |succ n=>obtain⟨A,v⟩:=u n (λx Z=>y x (by simp[Z]));rw[take_succ_cons,drop_succ_cons,flatten_cons,flatten_cons,A,v,Nat.add_mul,Nat.one_mul,take_append,drop_append];rw[show n*aJ+aJ-r.length=n*aJ by omega,take_of_length_le (l:=r) (by omega),drop_eq_nil_of_le (as:=r) (by omega)];simp
 have hlen:news.flatten.length=news.length*aJ:=by
  clear key
  induction news with
  |nil=>simp
  |cons r l u=>have hr:=h2 r (by simp);rw[flatten_cons,length_append,u (λx Z=>h2 x (by simp[Z])),hr,length_cons,Nat.add_mul];omega
 unfold splice;rw[flatten_append,flatten_append,(key rows lo H).1,(key rows (lo+news.length) H).2,hlen,Nat.add_mul]
def aO.setRows(S:aA G J w ι obj){o:Nat}{news:List (List DV)}{vs:List Value}(O:obj o=.live (.dat et aJ rows))
  (h:bG J w news.flatten vs) (h1':∀v∈vs,v.oneCell'=true) (T:∀r∈news,r.length=aJ) (V:lo+news.length<=rows.length) (hne:rows≠[]) :
  ∃b,ι o rows.length=some b/\w.there b (lo*aJ) vs.length/\
   aO G obj (λk=>if k=o then .live (.dat et aJ (splice rows lo news))else obj k) J ι w .undef Go.undef (w.setCells b (lo*aJ) vs):=by
 have h0:=S.rep o;rw[O]at h0;obtain⟨⟨hsome,PU⟩,m⟩:=h0;obtain⟨b,H⟩:=Option.isSome_iff_exists.1 (hsome.resolve_left hne);obtain⟨⟨C,h2⟩,K⟩:=PU b H;have U:Own ι obj b:=⟨o,by rw[O];exact H⟩;have E:Ev (Own ι obj) J J ι ι w (w.setCells b (lo*aJ) vs):=Ev.setCells J w b _ vs U (λ_ _ _ h=>h);obtain⟨ab_,hfl⟩:=K.flat;have hrl:∀r∈rows,r.length=aJ:=λr hr=>by obtain⟨i,hi⟩:=getElem?_of_mem hr;exact(K.get hi).1
 obtain⟨us,u1,u2,u3⟩:=ab_.vals;have PM:us.length=rows.length*aJ:=by rw[<- hfl];exact u1.length.symm
 have hnl:news.flatten.length=news.length*aJ:=by
  have:=yW (rows:=([]:List (List DV))) (news:=news) (lo:=0) (by simp) T;clear this;clear h V
  induction news with
  |nil=>simp
  |cons r l u=>have hr:=T r (by simp);rw[flatten_cons,length_append,u (λx Z=>T x (by simp[Z])),hr,length_cons,Nat.add_mul];omega
 have hvl:vs.length=news.length*aJ:=by rw[<- hnl];exact h.length.symm
 have hroom:lo*aJ+vs.length<=us.length:=by rw[hvl,PM,<- Nat.add_mul];exact mul_le_mul_right _ V
 have Lm:w.there b (lo*aJ) vs.length:=λj hj=>by
  have hj2:lo*aJ+j<us.length:=by omega
  have:=u3 (lo*aJ+j) us[lo*aJ+j] (getElem?_eq_getElem hj2);rw[Nat.zero_add]at this;refine⟨by rw[this];rfl,?_⟩;simp[frozen?,h2]
 have hout:∀x:Addr,x.block=b->(x.off<lo*aJ\/lo*aJ+vs.length<=x.off)->(w.setCells b (lo*aJ) vs).cell? x=w.cell? x:=λx Z hj=>cell?_setCells_out b vs _ w x (λ_ _=>hj)
 have hin:=rangeAt_setCells_same w b (lo*aJ) vs Lm
 have t:bq J (w.setCells b (lo*aJ) vs) aJ (splice rows lo news) b 0:=by
  refine bq.Fy (λr hr=>?_) ?_
  .simp only[splice,mem_append]at hr;rcases hr with (hr|hr)|hr
   .exact hrl r (mem_of_mem_take hr)
   .exact T r hr
   .exact hrl r (mem_of_mem_drop hr)
  .rw [yW hrl T];have X:bx J w ι (splice (rows.flatten.map .d) (lo*aJ) (news.flatten.map .d)) (splice us (lo*aJ) vs):=bx.splice _ (bG.zX u1 u2) (bG.zX h h1');have B:splice (rows.flatten.map LV.d) (lo*aJ) (news.flatten.map LV.d)=(splice rows.flatten (lo*aJ) news.flatten).map .d:=by simp only[splice,map_append,map_take,map_drop,length_map]
   rw[B]at X;have e3:=(X.ev S E).CV;have back:∀{w0:World} (xs:List DV) (ys:List Value),cm J w0 ι (xs.map .d) ys->bG J w0 xs ys:=λ{w0} xs=>by
    induction xs with
    |nil=>intro ys h;cases ys with
     |nil=>trivial
     |cons _ _=>exact h.elim
    |cons x xs u=>intro ys h;cases ys with
     |nil=>exact h.elim
     |cons y ys=>exact⟨h.1,u ys h.2⟩
   refine dV.of (vs:=splice us (lo*aJ) vs) (back _ _ e3) (λv q=>X.one v q) (λj v q=>?_);rw[Nat.zero_add];by_cases hj1:j<lo*aJ
   .rw [hout _ rfl (.inl hj1)];have:=u3 j v (by
     rw[<- q];simp only[splice,append_assoc];rw[getElem?_append_left (by simp;omega),getElem?_take_of_lt hj1])
    rwa [Nat.zero_add]at this
   .by_cases hj2:j<lo*aJ+vs.length
    .have:=hin (j-lo*aJ) v (by
      rw[<- q];simp only[splice];rw[getElem?_append_left (by simp;omega),getElem?_append_right (by simp;omega)];congr 1;simp;omega)
     rwa [show lo*aJ+(j-lo*aJ)=j by omega]at this
    .rw [hout _ rfl (.inr (by show _<=j;omega))];have:=u3 j v (by
      rw[<- q];simp only[splice];rw[getElem?_append_right (by simp;omega),getElem?_drop];congr 1;simp;omega)
     rwa [Nat.zero_add]at this
 obtain⟨C',k1,k2⟩:∃C',(w.setCells b (lo*aJ) vs).heap[b]? = some (.cells C' et (0,0))/\True:=by
  have hs:lo*aJ+vs.length<=C.size\/vs.length=0:=by
   rcases eq_zero_or_pos vs.length with A|A
   .exact .inr A
   .left;have:=(Lm (vs.length-1) (by omega)).1;simp only[cell?,h2]at this;simp at this;omega
  rcases hs with hs|hs
  .obtain ⟨C',k1,_⟩:=fZ vs _ w C h2 hs;exact⟨C',k1,trivial⟩
  .have:vs=[]:=by simpa using hs
   subst this;exact⟨C,h2,trivial⟩
 have Z8:(splice rows lo news).length=rows.length:=LA _ _ _ (by omega);refine⟨b,H,Lm,?_⟩;have c:=aA.jC S o (.live (.dat et aJ (splice rows lo news))) E (λ_ _ _=>rfl) (λk hk T=>heap_setCells_other (λe=>T (by rw[O,e];exact H)) vs _ w)
  ⟨⟨.inr (by rw[Z8];simp[H]),λk hk=>by rw[Z8,H]at hk;cases hk;exact⟨⟨C',k1⟩,t⟩⟩,λn T=>by rw[Z8]at T;exact m n T⟩
  (λk hk=>.inl (by rw[O];simp only[bK.own,ah.own,Z8]at hk ⊢;exact hk))
 exact⟨J,ι,c.1,rfl,c.2⟩
def Qz(S:aA G J w ι obj)(c:∀t,cW J w ι (get t) (a.tmps.getD t Go.undef)){Y:Operand}(Z:aI X=some x)(hy:aI Y=some y){ty:TypeId}(hu:P.underlying tx=some (.slice el))(hs:dY P el=some 1)
  (hty:RZ P ty=true) (A:fS G get obj base (.cpy x y)=some e) :
  ∃v w',(Builtin.copy_ #[tx,ty] rt #[a.eval X,a.eval Y]).run P w=.ok v w'/\aO G obj (bB obj base e) J ι w e.r v w':=by
 have B:=aZ S c Z;have o_:=aZ S c hy;have hk:(∃e',P.underlying ty=some (.slice e'))\/P.underlying ty=some .string:=by
  unfold RZ at hty;split at hty
  .rename_i e' h;exact .inl ⟨_,h⟩
  .rename_i h;exact .inr h
  .cases hty
 simp only[fS]at A;split at A
 .rename_i new rd hsrc;obtain⟨news,hS,hD,hrl⟩:=xY S hk hsrc o_;split at A
  .rename_i o lo len m;rw[m]at B;split at A
   .rename_i et cells O;split at A
    .rename_i U;obtain⟨U,hnl⟩:=U;cases A;have hnews:=hS.newsLen;rw[Nat.mul_one]at hnews;have hfl:(new.flatten.map LV.d).length=new.length:=by rw[length_map,hD.length,hnews]
     obtain⟨b,V,Ri,u⟩:=aO.x_ S (col:=lo) (cs:=new.flatten.map LV.d) (vs:=news) O (hD.zX hS.one) (by rw[hfl];omega);refine⟨.int .i64 new.length,w.setCells b lo news,?_,?_⟩
     .obtain ⟨i,hi',T⟩:=cH hs;have hsz:∀w:World,(Go.sizeOf el).run P w=.ok 1 w:=λw=>by simp[Go.sizeOf,typeInfo,hi',T]
      have hst:=run_storeCells_cells (P:=P) b lo news 0 w (λj hj=>by simpa using(Ri j hj).1) (λj hj=>by simpa using(Ri j hj).2) hS.one;simp only[Nat.add_zero]at hst;rcases B with ⟨hz,sa,q⟩|⟨b',cap,et',C,hb',q,hcap,_,_⟩
      .have hn0:news=[]:=eq_nil_of_length_eq_zero (by omega);have hl0:new.length=0:=by omega
       subst hn0;have hcl:=hS.cells;rw[hl0]at hcl;cases sa with
       |none=>simp[Builtin.copy_,run_underlying hu,q,hS.len,hl0,hsz,hcl,goInt,setCells]
       |some sa=>simp[Builtin.copy_,run_underlying hu,q,hS.len,hl0,hsz,hcl,goInt,storeCells,setCells]
      .rw [V]at hb';cases hb';simp[Builtin.copy_,run_underlying hu,q,hS.len,hsz,hS.cells,goInt,Nat.min_eq_left hnl,hst]
     .have e1:bB obj base { r:=.int new.length,rd:=o::rd,wr:=[(o,.box et (splice cells lo (new.flatten.map .d)))] } = λk=>if k=o then .live (.box et (splice cells lo (new.flatten.map .d)))else obj k:=by
       funext k;simp only[bB,rA,cG]
      rw[e1];obtain⟨J',ι',H,_,K⟩:=u;exact⟨J',ι',H,rfl,K⟩
    .cases A
   .cases A
  .rename_i o n lo len _ m;rw[m]at B;split at A
   .rename_i et rows O;split at A
    .rename_i U;obtain⟨T,U,hnl,hne⟩:=U;subst T;cases A;have hnews:=hS.newsLen;rw[Nat.mul_one]at hnews;obtain⟨b,V,Ri,u⟩:=aO.setRows S (lo:=lo) (news:=new) (vs:=news) O hD hS.one hrl (by omega) hne;rw[Nat.mul_one]at Ri u;refine⟨.int .i64 new.length,w.setCells b lo news,?_,?_⟩
     .obtain ⟨i,hi',T⟩:=cH hs;have hsz:∀w:World,(Go.sizeOf el).run P w=.ok 1 w:=λw=>by simp[Go.sizeOf,typeInfo,hi',T]
      have hst:=run_storeCells_cells (P:=P) b lo news 0 w (λj hj=>by simpa using(Ri j hj).1) (λj hj=>by simpa using(Ri j hj).2) hS.one;simp only[Nat.add_zero]at hst;rcases B with ⟨hz,sa,q⟩|⟨b',cap,et',C,hb',q,hcap,_,_⟩
      .have hn0:news=[]:=eq_nil_of_length_eq_zero (by omega);have hl0:new.length=0:=by omega
       subst hn0;have hcl:=hS.cells;rw[hl0]at hcl;cases sa with
       |none=>simp[Builtin.copy_,run_underlying hu,q,hS.len,hl0,hsz,hcl,goInt,setCells]
       |some sa=>simp[Builtin.copy_,run_underlying hu,q,hS.len,hl0,hsz,hcl,goInt,storeCells,setCells]
      .rw [V]at hb';cases hb';rw[Nat.mul_one]at q;simp[Builtin.copy_,run_underlying hu,q,hS.len,hsz,hS.cells,goInt,Nat.min_eq_left hnl,hst]
     .have e1:bB obj base { r:=.int new.length,rd:=o::rd,wr:=[(o,.dat et 1 (splice rows lo new))] } = λk=>if k=o then .live (.dat et 1 (splice rows lo new))else obj k:=by
       funext k;simp only[bB,rA,cG]
      rw[e1];obtain⟨J',ι',H,_,K⟩:=u;exact⟨J',ι',H,rfl,K⟩
    .cases A
   .cases A
  .cases A
 .cases A
def VP{e:TypeId}{size:Nat}(m:P.underlying T=some (.slice e))(V:zD P e=some (size,bytes)){k:IntKind}(q:n*bytes<=70368744177664)(Z:(n:Int)<=9223372036854775807)(w:World) :
  ∃z:Value,(zeroValue e).run P w=.ok z w/\z.cells.size=size/\(Instr.makeSlice T (.int k n) (.int k n)).run P w=.ok (.slice (some ⟨w.heap.size,0,none⟩) n n) (w.alloc (.cells ((Array.range (n*size)).map ((if n*size=0 then#[]else z.cells)[· % (if n*size=0 then#[]else z.cells).size]!)) e)):=by
 obtain⟨i,z,hi,A,U,o,c,_,y⟩:=nO V;have h:∀w:World,(zeroValue e).run P w=.ok z w:=λw=>by simp[zeroValue,typeInfo,hi,A]
 refine⟨z,h w,by rw[c,U],?_⟩;have b:∀w:World,(Go.sizeOf e).run P w=.ok size w:=λw=>by simp[Go.sizeOf,typeInfo,hi,U]
 have v:IntKind.i64.wrap (n:Int)=n:=by rw[IntKind.wrap_i64];omega
 have t:¬(n:Int)<0:=by omega
 have X:(bytes:Int)*(n:Int)<=70368744177664:=by
  have:((n*bytes:Nat):Int)<=70368744177664:=by omega
  rw[Int.mul_comm,<- natCast_mul];exact this
 have r:¬(281474976710656<(bytes:Int)*n):=by omega
 have u:¬(n:Int)<(n:Int):=by omega
 by_cases h0:n*size=0
 .simp [Instr.makeSlice,run_underlying m,typeInfo,hi,o,asInt,asIntOf,v,t,r,u,b,h0,newRow,askRoom]
 .simp [Instr.makeSlice,run_underlying m,typeInfo,hi,o,asInt,asIntOf,v,t,r,u,b,h0,h,newRow,askRoom]
def Cj{α:Type}(l:List α):∀(n j:Nat),j<n*l.length->((replicate n l).flatten)[j]? = l[j % l.length]?
 |0,j,h=>by simp at h
 |n+1,j,h=>by
  rw[replicate_succ,flatten_cons];by_cases hj:j<l.length
  .rw [getElem?_append_left hj,mod_eq_of_lt hj]
  .have h2:j-l.length<n*l.length:=by rw[Nat.add_mul]at h;omega
   rw[getElem?_append_right (by omega),Cj l n (j-l.length) h2];congr 1;rw[mod_eq_sub_mod (by omega:l.length<=j)]
def IX(l:List α)(n:Nat):(replicate n l).flatten.length=n*l.length:=by
 induction n with
 |zero=>simp
 |succ n u=>rw[replicate_succ,flatten_cons,length_append,u,Nat.add_mul];omega
def uI(J:Nat->Prop)(w:World):∀l:List Value,bG J w (l.map .val) l
 |[]=>trivial
 |v::l=>⟨rfl,uI J w l⟩
def ye{J:Nat->Prop}{w:World}{z:List DV}{vs:List Value}(h:bG J w z vs):∀n,bG J w (replicate n z).flatten (replicate n vs).flatten
 |0=>trivial
 |n+1=>by rw[replicate_succ,replicate_succ,flatten_cons,flatten_cons];exact bG.append h (ye h n)
def Po(S:aA G J w ι obj)(c:∀t,cW J w ι (get t) (a.tmps.getD t Go.undef)){Y:Operand}(Z:aI X=some x)(hXY:FM X Y=true){size:Nat}{z:List DV}(m:P.underlying T=some (.slice el))(hel:zD P el=some (size,bytes))
  (O:rG P el=some z) (hzl:z.length=size) (V:obj base=.free) (A:fS G get obj base (.CX el size bytes z x)=some e) :
  ∃v w',(Instr.makeSlice T (a.eval X) (a.eval Y)).run P w=.ok v w'/\aO G obj (bB obj base e) J ι w e.r v w':=by
 have B:=aZ S c Z;simp only[fS]at A;split at A
 .rename_i k n y;rw[y]at B;have hX:a.eval X=.int k n:=B;split at A
  .rename_i U;obtain⟨k1,k2,k3⟩:=U;cases A;obtain⟨n,rfl⟩:=eq_ofNat_of_zero_le k1;rw[toNat_natCast]at k2;obtain⟨zv,H,h2,K⟩:=VP (P:=P) m hel (k:=k) k2 k3 w;have hzz:z=zv.cells.toList.map .val/\∀u∈zv.cells.toList,u.oneCell'=true:=by
    unfold rG at O;split at O
    .rename_i i hi;split at O
     .rename_i v q;split at O
      .rename_i hall;cases O;have hze:(zeroValue el).run P w=.ok v w:=by simp[zeroValue,typeInfo,hi,q]
       rw[hze]at H;cases H;exact⟨rfl,λu m=>by rw[Array.all_eq_true_iff_forall_mem]at hall;exact hall u (by simpa using m)⟩
      .cases O
     .cases O
    .cases O
   refine⟨_,_,by rw[hX,<- HA hXY a,hX];exact K,?_⟩;have o:zv.cells.toList.length=size:=by rw[Array.length_toList,h2]
   generalize hC:((Array.range (n*size)).map ((if n*size=0 then#[]else zv.cells)[· % (if n*size=0 then#[]else zv.cells).size]!))=C;have hCs:C.size=n*size:=by rw[<- hC];simp
   have:=aO.dat (G:=G) (J:=J) (w:=w) (ι:=ι) S V el size (replicate n z) C w.drawn n (by simp) (by rw[hCs];exact Nat.le_refl _) (λι' E=>by
    refine bq.wm (vs:=(replicate n zv.cells.toList).flatten) (ye (by rw[hzz.1];exact uI _ _ _) n) (λu m=>?_) (λr hr=>by rw[eq_of_mem_replicate hr];exact hzl) (cE { w with drawn:=w.drawn } _) (λj u m=>?_)
    .obtain ⟨l,h,b⟩:=mem_flatten.1 m;rw[eq_of_mem_replicate h]at b;exact hzz.2 u b
    .have hj:j<n*size:=by
      have:=(List.getElem?_eq_some_iff.1 m).1;rw[IX,o]at this;exact this
     rw[Cj _ _ _ (by rw[o];exact hj),o]at m;have hpos:0<size:=Nat.pos_of_ne_zero (λh0=>by rw[h0]at hj;simp at hj);have b:j % size<zv.cells.size:=by rw[h2];exact mod_lt _ hpos
     rw[<- hC];simp[show¬(n*size=0)by omega,h2,hj];rw[Array.getElem?_toList]at m;rw[getElem!_pos zv.cells (j % size) b];rw[Array.getElem?_eq_getElem b]at m;exact(Option.some.inj m))
   simp only[length_replicate]at this;exact this
  .cases A
 .cases A
def OG(S:aA G J w ι obj){y:LV}{v:Value}{new:List (List DV)}{rd:List Nat}(h:bg obj aJ y=some (new,rd))(K:cW J w ι y v)(hs:∀s,y≠.d (.val (.string s))) :
  ∃sa cap,v=.slice sa new.length cap/\(sa=none->new=[]):=by
 cases y with
 |d x=>
  cases x with
  |cM e rows=>
   simp only[bg]at h;split at h
   .cases h;obtain⟨a,n,cap,rfl,T,U,hr⟩:=K;subst T;refine⟨a,cap,rfl,λB=>?_⟩;rcases hr with hr|⟨b,off,V,_⟩
    .exact hr
    .rw [B]at V;cases V
   .cases h
  |val u=>
   have q:v=u:=K;subst q;cases v with
   |slice sa n c=>
    cases sa with
    |some _=>simp[bg]at h
    |none=>
     cases n with
     |succ _=>simp[bg]at h
     |zero=>
      cases c with
      |succ _=>simp[bg]at h
      |zero=>simp[bg]at h;exact⟨none,0,by rw[h.1];rfl,λ_=>h.1⟩
   |string s=>exact absurd rfl (hs s)
   |_=>simp[bg]at h
  |fn f a b=>simp[bg]at h
  |gR t y=>simp[bg]at h
  |agg cs=>simp[bg]at h
 |sl o n e lo len=>
  have hlen:new.length=len:=by
   simp only[bg]at h;split at h
   .split at h
    .rename_i U;cases h;simp;omega
    .cases h
   .split at h
    .rename_i U;cases h;simp;omega
    .cases h
   .split at h
    .rename_i U;split at h
     .rename_i ds m;cases h;rw[length_map,vH m];simp;omega
     .cases h
    .cases h
   .split at h
    .split at h
     .split at h
      .cases h;simp;omega
      .cases h
     .cases h
    .cases h
   .cases h
  rcases K with ⟨A,a,rfl⟩|⟨b,cap,X,C,V,rfl,k,_,_⟩
  .exact ⟨a,0,by rw[hlen,A],λ_=>eq_nil_of_length_eq_zero (by omega)⟩
  .exact ⟨_,cap,by rw[hlen],λh=>by cases h⟩
 |top=>simp[bg]at h
 |ec=>simp[bg]at h
 |ptr o c=>simp[bg]at h
 |rp o n e r c=>simp[bg]at h
 |ip r c=>simp[bg]at h
 |fn f a b=>simp[bg]at h
 |agg cs=>simp[bg]at h
 |cZ cs=>simp[bg]at h
 |gR t y=>simp[bg]at h
 |yl o=>simp[bg]at h
 |mr o=>simp[bg]at h
def xx:∀{rows:List (List DV)} {bs:List UInt8} {vs:List Value},bytesOf rows=some bs->bG J w rows.flatten vs->∃ns:List Int,vs=ns.map (Value.int .u8)/\bs=ns.map λn=>UInt8.ofNat n.toNat
 |[],bs,vs,h,q=>by
  simp only[bytesOf]at h;cases h;cases vs with
  |nil=>exact⟨[],rfl,rfl⟩
  |cons _ _=>exact q.elim
 |r::rows,bs,vs,h,q=>by
  unfold bytesOf at h;split at h
  .cases ‹_::_=[]›
  .rename_i n b k;cases k;split at h
   .rename_i m c;cases h;simp only[flatten_cons,cons_append,nil_append]at q;cases vs with
    |nil=>exact q.elim
    |cons v vs=>obtain⟨H,h2⟩:=q;obtain⟨ns,x,e⟩:=xx c h2;have H:v=.int .u8 n:=H;exact⟨n::ns,by rw[H,x];rfl,by rw[e];rfl⟩
   .cases h
  .cases h
def foldl_push:∀(ns:List Int) (s:ByteArray),ns.foldl (λr n=>r.push (UInt8.ofNat n.toNat)) s=⟨(s.data.toList++ns.map λn=>UInt8.ofNat n.toNat).toArray⟩
 |[],s=>by cases s;simp
 |n::ns,s=>by rw[foldl_cons,foldl_push ns];cases s;simp[ByteArray.push]
def QL(S:aA G J w ι obj)(c:∀t,cW J w ι (get t) (a.tmps.getD t Go.undef))(Z:aI X=some x){K:TypeId}(m:P.underlying T=some (.slice o))(V:P.underlying o=some (.int .u8))(hs:P.underlying K=some .string)
   (A:fS G get obj base (.b2s x)=some e) :
  ∃v,(convert T K (a.eval X)).run P w=.ok v w/\cW J w ι e.r v/\e.nw=[]/\e.wr=[]:=by
 have B:=aZ S c Z;simp only[fS]at A;split at A
 .cases A
 .rename_i hns;split at A
  .rename_i rows rd k;split at A
   .rename_i bs Y0;cases A;obtain⟨news,u,y,_⟩:=xY S (.inl ⟨_,m⟩) k B;obtain⟨sa,cap,q,b⟩:=OG S k B (λs h=>hns s h);obtain⟨ns,H,O⟩:=xx Y0 y;refine⟨.string ⟨bs.toArray⟩,?_,rfl,rfl,rfl⟩;rw[q,run_convert_bytes_string w T K o sa _ cap m V hs];cases sa with
    |none=>have h0:=b rfl;subst h0;simp only[bytesOf]at Y0;cases Y0;simp[Conv.bytesToString];rfl
    |some sa=>
     have U:=u.cells;rw[q,H]at U;have hld:(loadCells sa rows.length).run P w=.ok (ns.map (Value.int .u8)).toArray w:=by simpa[Builtin.firstCells]using U
     rw[run_bytesToString w sa _ cap ns hld,foldl_push,O];rfl
   .cases A
  .cases A
def NX(z:Array Value)(n:Nat):(Builtin.zeroCells z n).toList=(replicate n z.toList).flatten:=by
 apply ext_getElem?;intro j;by_cases hj:j<n*z.size
 .rw [Cj _ _ _ (by simpa using hj),Array.length_toList];have y:0<z.size:=Nat.pos_of_ne_zero (λh0=>by rw[h0]at hj;simp at hj);have O:j % z.size<z.size:=mod_lt _ y;unfold Builtin.zeroCells;simp only[Array.toList_map,Array.toList_range,getElem?_map,getElem?_range hj,Option.map_some];rw[getElem!_pos z (j % z.size) O,Array.getElem?_toList,Array.getElem?_eq_getElem O]
 .rw [getElem?_eq_none (by rw[Array.length_toList,size_zeroCells];omega),getElem?_eq_none (by rw[IX,Array.length_toList];omega)]
def JW{z:List DV}(A:rG P o=some z):∃b:Value,z=b.cells.toList.map .val/\(∀u∈b.cells.toList,u.oneCell'=true)/\∀w:World,(zeroValue o).run P w=.ok b w:=by
 unfold rG at A;split at A
 .rename_i i hi;split at A
  .rename_i v q;split at A
   .rename_i y;cases A;exact⟨v,rfl,λu m=>by rw[Array.all_eq_true_iff_forall_mem]at y;exact y u (by simpa using m),λw=>by simp[zeroValue,typeInfo,hi,q]⟩
   .cases A
  .cases A
 .cases A
def QF(S:aA G J w ι obj)(c:∀t,cW J w ι (get t) (a.tmps.getD t Go.undef))(Z:aI X=some x){z:List DV}(K:P.underlying tx=some (.slice el))(hz:rG P el=some z)(hzl:z.length=n)
   (A:fS G get obj base (.clr n z x)=some e) :
  ∃v w',(Builtin.clear_ #[tx] rt #[a.eval X]).run P w=.ok v w'/\aO G obj (bB obj base e) J ι w e.r v w':=by
 have B:=aZ S c Z;simp only[fS]at A;split at A
 .rename_i o m e0 lo len H;rw[H]at B;split at A
  .rename_i et e' rows O;split at A
   .rename_i U;obtain⟨rfl,rfl,rfl,h,hpos⟩:=U;cases A;obtain⟨zv,hzz,hone,hzr⟩:=JW hz;have hcl:zv.cells.toList.length=e':=by rw[<- hzl,hzz,length_map]
    have hne:rows≠[]:=by intro h0;rw[h0]at h;simp at h;omega
    obtain⟨b,V,Ri,y⟩:=aO.setRows S (lo:=lo) (news:=replicate len z) (vs:=(replicate len zv.cells.toList).flatten) O (ye (by rw[hzz];exact uI _ _ _) len)
     (λu K=>by obtain⟨l,h,hm⟩:=mem_flatten.1 K;rw[eq_of_mem_replicate h]at hm;exact hone u hm) (λr hr=>by rw[eq_of_mem_replicate hr];exact hzl) (by rw[length_replicate];exact h) hne
    refine⟨.tuple #[],w.setCells b (lo*e') (replicate len zv.cells.toList).flatten,?_,?_⟩
    .have hst:=run_storeCells_cells (P:=P) b (lo*e') (replicate len zv.cells.toList).flatten 0 w (λj hj=>by simpa using(Ri j hj).1) (λj hj=>by simpa using(Ri j hj).2) (λu K=>by
      obtain⟨l,h,hm⟩:=mem_flatten.1 K;rw[eq_of_mem_replicate h]at hm;exact hone u hm)
     simp only[Nat.add_zero]at hst;rcases B with ⟨hz0,_⟩|⟨b',cap,et',C,hb',q,hcap,_,_⟩
     .omega
     .rw [V]at hb';cases hb';obtain⟨k,rfl⟩:∃k,len=k+1:=⟨len-1,by omega⟩;simp[Builtin.clear_,run_underlying K,q,hzr,NX,hst]
    .have e1:bB obj base { r:=.undef,rd:=[o],wr:=[(o,.dat et e' (splice rows lo (replicate len z)))] } = λk=>if k=o then .live (.dat et e' (splice rows lo (replicate len z)))else obj k:=by
      funext k;simp only[bB,rA,cG]
     rw[e1];exact y
   .cases A
  .cases A
 .rename_i e0 H;cases A;rw[H]at B;obtain⟨ad,n,cap,q,T,_⟩:=B;have hn0:n=0:=T;subst hn0;have e1:bB obj base { r:=.undef } = obj:=by funext k;simp[bB,rA,cG]
  rw[e1];refine⟨.tuple #[],w,?_,aO.stay S rfl⟩;rw[q];cases ad<;>simp[Builtin.clear_,run_underlying K]
 .cases A
def QM(S:aA G J w ι obj)(h:∀t,cW J w ι (get t) (a.tmps.getD t Go.undef))(Z:aI X=some x)(A:fS G get obj base (.atl x)=some e) :
  ∃k n,a.eval X=.pointer (some k)/\w.cell? k=some (.int .i64 n)/\e.r=.int n/\e.nw=[]/\e.wr=[]:=by
 have B:=aZ S h Z;simp only[fS]at A;split at A
 .rename_i o c y;rw[y]at B;obtain⟨b,V,q⟩:=B;split at A
  .rename_i et cells O;split at A
   .rename_i n U;cases A;have h0:=S.rep o;rw[O]at h0;obtain⟨⟨u,C,K,H,T⟩,_⟩:=h0;rw[V]at K;cases K;obtain⟨v,m,_,hr⟩:=T.get U;have hr:v=.int .i64 n:=hr;subst hr;refine⟨_,n,q,?_,rfl,rfl,rfl⟩;simp only[cell?,H];simpa using m
   .cases A
  .cases A
 .cases A
def QN(S:aA G J w ι obj)(h:∀t,cW J w ι (get t) (a.tmps.getD t Go.undef)){Y:Operand}(Z:aI X=some x)(T:aI Y=some y)(A:fS G get obj base (.ata x y)=some e) :
  ∃ad n d,a.eval X=.pointer (some ad)/\a.eval Y=.int .i64 d/\w.cell? ad=some (.int .i64 n)/\w.frozen? ad=false/\aO G obj (bB obj base e) J ι w e.r (.int .i64 (IntKind.i64.wrap (n+d))) (w.setCell ad (.int .i64 (IntKind.i64.wrap (n+d)))):=by
 have B:=aZ S h Z;have o_:=aZ S h T;simp only[fS]at A;split at A
 .rename_i o c d m TX;rw[m]at B;rw[TX]at o_;obtain⟨b,V,q⟩:=B;have hY:a.eval Y=.int .i64 d:=o_;split at A
  .rename_i et cells O;split at A
   .rename_i n U;cases A;have adU:c<cells.length:=(List.getElem?_eq_some_iff.1 U).1;have h0:=S.rep o;rw[O]at h0;obtain⟨⟨b',C,m1,m2,m3⟩,_⟩:=h0;rw[V]at m1;cases m1;obtain⟨v,Xk,_,hr⟩:=m3.get U;have hr:v=.int .i64 n:=hr;subst hr;obtain⟨b2,hb2,Ri,u⟩:=aO.x_ S (col:=c) (cs:=[.int (IntKind.i64.wrap (n+d))]) (vs:=[.int .i64 (IntKind.i64.wrap (n+d))]) O ⟨rfl,rfl,trivial⟩ (by simp;omega);rw[V]at hb2;cases hb2;refine⟨⟨b,c,none⟩,n,d,q,hY,?_,by simp[frozen?,m2],?_⟩
    .simp only[cell?,m2];simpa using Xk
    .have e1:bB obj base { r:=.int (IntKind.i64.wrap (n+d)),rd:=[o],wr:=[(o,.box et (splice cells c [.int (IntKind.i64.wrap (n+d))]))] } = λk=>if k=o then .live (.box et (splice cells c [.int (IntKind.i64.wrap (n+d))]))else obj k:=by
      funext k;simp only[bB,rA,cG]
     rw[e1];have e2:w.setCell ⟨b,c,none⟩ (.int .i64 (IntKind.i64.wrap (n+d)))=w.setCells b c [.int .i64 (IntKind.i64.wrap (n+d))]:=by simp only[setCells]
     rw[e2];obtain⟨J',ι',H,_,K⟩:=u;exact⟨J',ι',H,rfl,K⟩
   .cases A
  .cases A
 .cases A
def LY(S:aA G J w ι obj)(c:∀t,cW J w ι (get t) (a.tmps.getD t Go.undef))(A:fS G get obj base m=some e){o:Oper}(U:Cu P o.op=some m) :
  cL P o a w (aO G obj (bB obj base e) J ι w e.r):=by
 obtain⟨dst,op,type,pos,after,guard⟩:=o;dsimp only at U;unfold Cu at U;split at U
 .rename_i f args ts;split at U
  .rename_i fn Z;split at U
   .rename_i hfn;obtain⟨V,abV⟩:=hfn;have ex:∀vs:Array Value,args.map a.eval=vs->execOp a.eval { dst:=dst,op:=Op.call { callee:=Callee.value (.func f),args:=args,argTypes:=ts },type:=type,pos:=pos,after:=after,guard:=guard } = callFunc f vs:=by
     intro vs hvs;have ef:a.eval (.func f)=.func (.func f) #[] #[]:=rfl;unfold execOp;simp[resolve,Deferred.ofValue,invoke,ef,hvs]
    split at U
    .rename_i T;split at U
     .rename_i x q;have B:args=#[x]:=by apply Array.ext';simpa using q
      subst B;split at U
      .rename_i K H;cases U;obtain⟨k,n,b,h,hr,h6,h7⟩:=QM S c H A;refine cL.of_run (v:=.int .i64 n) (w':=w) ?_ ?_
       .rw [ex #[a.eval x] (by simp),b];exact run_call_load Z (by rw[T];rfl) V (Pj T abV) .i64 (Qc T) h
       .simp only[bB,h6,h7,rA,cG];exact aO.stay S (by rw[hr];rfl)
      .cases U
     .cases U
    .split at U
     .rename_i T;split at U
      .rename_i x y q;have B:args=#[x,y]:=by apply Array.ext';simpa using q
       subst B;split at U
       .rename_i K y' H h2;cases U;obtain⟨k,n,d,b,X,h,O,u⟩:=QN S c H h2 A;refine cL.of_run ?_ u;rw[ex #[a.eval x,a.eval y] (by simp),b,X];exact run_call_add Z (by rw[T];rfl) V (Td T abV) .i64 (Uo T) h O rfl
       .cases U
      .cases U
     .cases U
   .cases U
  .cases U
 .cases U
def yc:∀(es:List (Int×LV)) (E:List MapEntry) (n:Int) (i:Nat),jR J w ι es E->
  (getM es n=none/\Instr.findNow (.int .i64) (.int .i64 n) E i=some none/\∀y v c,cW J w ι y v->jR J w ι (Dh es n y) (E++[⟨.int .i64 n,v,c⟩]))\/
  ∃y j e,getM es n=some y/\Instr.findNow (.int .i64) (.int .i64 n) E i=some (some (i+j,e.val))/\E[j]? = some e/\e.key=.int .i64 n/\cW J w ι y e.val/\∀y v,cW J w ι y v->jR J w ι (Dh es n y) (E.set j ⟨.int .i64 n,v,e.born⟩)
 |[],[],n,i,_=>.inl ⟨rfl,rfl,λy v c h=>⟨rfl,h,trivial⟩⟩
 |(k,x)::r,e::E,n,i,h=>by
  obtain⟨H,h2,K⟩:=h;by_cases hk:n=k
  .subst hk;refine .inr ⟨x,0,e,by simp[getM],by simp[Instr.findNow,Instr.sameNow,H],rfl,H,h2,λy v B=>?_⟩;simp only[Dh,if_true,set_cons_zero];exact⟨rfl,B,K⟩
  .have V:Instr.findNow (.int .i64) (.int .i64 n) (e::E) i=Instr.findNow (.int .i64) (.int .i64 n) E (i+1):=by
    simp[Instr.findNow,Instr.sameNow,H,show(n==k)=false from beq_eq_false_iff_ne.2 hk]
   rcases yc r E n (i+1) K with ⟨q,o,t⟩|⟨y,j,A,q,o,t,b,m,u⟩
   .refine .inl ⟨by simp[getM,hk,q],by rw[V,o],λy v c B=>?_⟩;simp only[Dh,if_neg hk];exact⟨H,h2,t y v c B⟩
   .refine .inr ⟨y,j+1,A,by simp[getM,hk,q],by rw[V,o];simp;omega,by simpa using t,b,m,λy v B=>?_⟩;simp only[Dh,if_neg hk,set_cons_succ];exact⟨H,h2,u y v B⟩
 |[],_::_,_,_,h=>h.elim
 |_::_,[],_,_,h=>h.elim
def aO.mkm(S:aA G J w ι obj)(V:obj base=.free):aO G obj (λo=>if o=base then .live (.mp [])else obj o) J ι w (.mr base) (.map (some w.heap.size)) (w.alloc (.map #[] 0)):=by
 have x:∀n,ι base n=none:=by have:=S.rep base;rw[V]at this;exact this
 let ι':fe:=λo n=>if o=base then(if n=0 then some w.heap.size else none)else ι o n
 have hi:∀o n b,ι o n=some b->ι' o n=some b:=λo n b K=>by
  by_cases O:o=base
  .subst O;rw[x]at K;cases K
  .simp only[ι',if_neg O];exact K
 have E:Ev (Own ι obj) J J ι ι' w (w.alloc (.map #[] 0)):=Ev.alloc _ _ w w.drawn _ hi;have c:=aA.jC S base (.live (.mp [])) E (λo O n=>by simp only[ι',if_neg O]) (λb q _=>dB w _ b q)
  ⟨⟨w.heap.size,#[],0,by simp[ι'],cE w _,trivial⟩,trivial⟩ (λb K=>by have:ι' base 0=some b:=K;simp[ι']at this;exact .inr (by omega))
 exact⟨J,ι',c.1,⟨w.heap.size,by simp[ι'],rfl⟩,c.2⟩
def aO.R_(S:aA G J w ι obj){o:Nat}{es q:List (Int×LV)}{E E':Array MapEntry}{c c':Nat}(O:obj o=.live (.mp es))(H:ι o 0=some b)(h2:w.heap[b]? = some (.map E c))(K:jR J w ι q E'.toList) :
  aO G obj (λk=>if k=o then .live (.mp q)else obj k) J ι w .undef Go.undef { w with heap:=w.heap.setIfInBounds b (.map E' c') }:=by
 have U:Own ι obj b:=⟨o,by rw[O];exact H⟩;obtain⟨k1,k2⟩:=MapKept.heap_set (o':=.map E' c') h2;have m:Ev (Own ι obj) J J ι ι w { w with heap:=w.heap.setIfInBounds b (.map E' c') }:=⟨rfl,rfl,rfl,by simp,λk _ T=>k2 k (λe=>T (by rw[e];exact U)),λk _=>by
  by_cases e:k=b
  .subst e;simp only[shape?,k1,h2]
  .exact bI (k2 k e),λ_ h=>h,λ_ h=>.inl h,λ_ _ _ h=>h⟩
 have X:=aA.jC S o (.live (.mp q)) m (λ_ _ _=>rfl) (λk _ T=>k2 k (λe=>T (by rw[O,e];exact H)))
  ⟨⟨b,E',c',H,k1,K.ev S m⟩,trivial⟩ (λk hk=>.inl (by rw[O];exact hk))
 exact⟨J,ι,X.1,rfl,X.2⟩
def Eo(S:aA G J w ι obj)(h:∀t,cW J w ι (get t) (a.tmps.getD t Go.undef)){Y:Operand}(Z:aI X=some x)(hk:aI K=some k)(u:aI Y=some y)(m:P.underlying T=some (.map kt et))(hi:BX P kt=true)(A:fS G get obj base (.mup x k y)=some e) :
  ∃w',(Instr.mapUpdate T (a.eval X) (a.eval K) (a.eval Y)).run P w=.ok () w'/\aO G obj (bB obj base e) J ι w e.r Go.undef w':=by
 have B:=aZ S h Z;have hrk:=aZ S h hk;have U:=aZ S h u;have hd:=Iv hi;simp only[fS]at A;split at A
 .rename_i o n H TX;rw[H]at B;rw[TX]at hrk;obtain⟨b,V,hX⟩:=B;have hK:a.eval K=.int .i64 n:=hrk;split at A
  .rename_i es O;cases A;have h0:=S.rep o;rw[O]at h0;obtain⟨⟨b',C,c,m1,m2,m3⟩,_⟩:=h0;rw[V]at m1;cases m1;have v:bB obj base { r:=.undef,rd:=[o],wr:=[(o,.mp (Dh es n (y.ev G get)))] } = λk=>if k=o then .live (.mp (Dh es n (y.ev G get)))else obj k:=by
    funext k;simp only[bB,rA,cG]
   rw[v,hX,hK];have hck:=MapKept.run_checkKey (w:=w) (k:=.int .i64 n) hd (by simp[MapKept.IsKey]) false 9999;rcases yc es C.toList n 0 m3 with ⟨_,q2,q3⟩|⟨_,j,e',_,q2,q3,q4,_,q6⟩
   .refine ⟨_,?_,aO.R_ S O V m2 (E':=C.push ⟨.int .i64 n,a.eval Y,c⟩) (c':=c+1) (by simpa using q3 _ (a.eval Y) c U)⟩;simp[Instr.mapUpdate,run_underlying m,Result.andThen,MapKept.run_getObj_map m2,hck,MapKept.run_findKey hd q2,MapKept.run_setObj_map _ m2]
   .have hj:C[j]? = some e':=by simpa using q3
    obtain⟨key,val,born⟩:=e';dsimp only at q4;subst q4;have hmod:(C.modify j λe=>{ e with key:=.int .i64 n,val:=a.eval Y }).toList=C.toList.set j ⟨.int .i64 n,a.eval Y,born⟩:=by
     apply ext_getElem?;intro i;simp only[Array.getElem?_toList,Array.getElem?_modify,getElem?_set];by_cases hij:j=i
     .subst hij;have q:j<C.size:=(Array.getElem?_eq_some_iff.1 hj).1;have:=(Array.getElem?_eq_some_iff.1 hj).2;simp[q,this]
     .simp [hij]
    refine⟨_,?_,aO.R_ S O V m2 (E':=C.modify j λe=>{ e with key:=.int .i64 n,val:=a.eval Y }) (c':=c) (by rw[hmod];exact q6 _ _ U)⟩;simp[Instr.mapUpdate,run_underlying m,Result.andThen,MapKept.run_getObj_map m2,hck,MapKept.run_findKey hd q2,hj,MapKept.run_keyThatStays (k:=.int .i64 n) (d:=.int .i64) (by simp[MapKept.IsKey]),MapKept.run_setObj_map _ m2]
  .cases A
 .cases A
def Pn(S:aA G J w ι obj)(h:∀t,cW J w ι (get t) (a.tmps.getD t Go.undef))(Z:aI X=some x)(hk:aI K=some k){ok:Bool}{i:TypeInfo}{z:Value}(m:P.underlying T=some (.map kt et))(hi:BX P kt=true)(hin:P.info? et=some i)(q:i.zero=some z)(A:fS G get obj base (.mlk z ok x k)=some e) :
  ∃v,(Instr.lookup T (a.eval X) (a.eval K) ok).run P w=.ok v w/\cW J w ι e.r v/\e.nw=[]/\e.wr=[]:=by
 have B:=aZ S h Z;have hrk:=aZ S h hk;have hd:=Iv hi;have hzr:(zeroValue et).run P w=.ok z w:=by simp[zeroValue,typeInfo,hin,q]
 simp only[fS]at A;split at A
 .rename_i o n H TX;rw[H]at B;rw[TX]at hrk;obtain⟨b,V,hX⟩:=B;have hK:a.eval K=.int .i64 n:=hrk;split at A
  .rename_i es O;have h0:=S.rep o;rw[O]at h0;obtain⟨⟨U,C,c,m1,m2,m3⟩,_⟩:=h0;rw[V]at m1;cases m1;have hck:=λe=>MapKept.run_checkKey (w:=w) (k:=.int .i64 n) hd (by simp[MapKept.IsKey]) e 9999
   rw[hX,hK];rcases yc es C.toList n 0 m3 with ⟨q1,q2,q3⟩|⟨y,j,u,q1,q2,q3,q4,q5,_⟩
   .rw [q1]at A;cases A;refine⟨if ok=true then .tuple #[z,.bool false]else z,?_,?_,rfl,rfl⟩
    .simp [Instr.lookup,run_underlying m,Result.andThen,MapKept.run_getObj_map m2,hck,MapKept.run_findKey hd q2,hzr]
    .cases ok
     .exact rfl
     .exact ⟨_,rfl,rfl,rfl,trivial⟩
   .rw [q1]at A;cases A;refine⟨if ok=true then .tuple #[u.val,.bool true]else u.val,?_,?_,rfl,rfl⟩
    .simp [Instr.lookup,run_underlying m,Result.andThen,MapKept.run_getObj_map m2,hck,MapKept.run_findKey hd q2]
    .cases ok
     .exact q5
     .exact ⟨_,rfl,q5,rfl,trivial⟩
  .cases A
 .cases A
def aO.stand(S:aA G J w ι obj)(n:Nat)(et:TypeId)(f:Nat×Nat)(C:Array Value){cap:Nat}(k:rows.length<=cap)(hr:bq (λb=>J b\/b=w.heap.size) ({ w with drawn:=n }.alloc (.cells C et f)) aJ rows w.heap.size 0) :
  aO G obj obj J ι w (.d (.cM aJ rows)) (.slice (some ⟨w.heap.size,0,none⟩) rows.length cap) ({ w with drawn:=n }.alloc (.cells C et f)):=by
 have c:Ev (Own ι obj) J J ι ι w ({ w with drawn:=n }.alloc (.cells C et f)):=Ev.alloc _ _ w n _ (λ_ _ _ h=>h);have E:Ev (Own ι obj) J (λb=>J b\/b=w.heap.size) ι ι w ({ w with drawn:=n }.alloc (.cells C et f)):=⟨c.os,c.tape,c.output,c.size,c.same,c.shape,λ_ h=>.inl h,λb h=>h.elim .inl (λh=>.inr (.inl (by omega))),c.gu⟩;have m:∀b,b<w.heap.size->({ w with drawn:=n }.alloc (.cells C et f)).heap[b]? = w.heap[b]?:=λb h=>dB { w with drawn:=n } _ b h
 have U:∀o b,(obj o).own ι o b->b<w.heap.size:=λo b h=>by obtain⟨x,Z,_⟩:=jI.uN (S.rep o) h;exact(Array.getElem?_eq_some_iff.1 Z).1
 refine⟨_,ι,⟨λo=>jI.keep S E (λ_=>rfl) (λb h=>m b (U o b h)),S.inj,λo b h hj=>?_,λb hj=>?_,λg row u=>?_⟩,⟨_,_,_,rfl,rfl,k,.inr ⟨_,_,rfl,.inr rfl,hr⟩⟩,⟨E,λb h=>.inl h⟩⟩
 .rcases hj with hj|rfl
  .exact S.pX _ _ h hj
  .exact Nat.lt_irrefl _ (U o _ h)
 .rcases hj with hj|rfl
  .obtain ⟨T,t,O,h⟩:=S.jcell b hj;exact⟨T,t,O,by rw[m b (S.Ey b hj)];exact h⟩
  .exact ⟨C,et,f,cE { w with drawn:=n } _⟩
 .obtain ⟨H,h2,t,K⟩:=S.uV g row u;exact⟨.inl H,dV.ev S E H h2,t,by rw[E.shape g (S.Ey g H)];exact K⟩
def Sg{J:Nat->Prop}{w:World}{l:List UInt8} : ∀{off:Nat},(∀j (h:j<l.length),w.cell? ⟨b,off+j,none⟩=some (.int .u8 (l[j].toNat:Int)))->bq J w 1 (l.map λc=>[DV.val (.int .u8 c.toNat)]) b off:=by
 induction l with
 |nil=>intros;trivial
 |cons c l u=>intro off h;refine⟨rfl,⟨⟨_,h 0 (by simp),rfl,rfl⟩,trivial⟩,u (λj hj=>?_)⟩;have:=h (j+1) (by simpa using hj);rw[show off+(j+1)=off+1+j by omega]at this;simpa using this
def OR(S:aA G J w ι obj)(c:∀t,cW J w ι (get t) (a.tmps.getD t Go.undef))(Z:aI X=some x){h:TypeId}(hs:P.underlying T=some .string)(m:P.underlying h=some (.slice o))(V:P.underlying o=some (.int .u8))
   (A:fS G get obj base (.s2b x)=some e) :
  ∃v w',(convert T h (a.eval X)).run P w=.ok v w'/\aO G obj (bB obj base e) J ι w e.r v w':=by
 have B:=aZ S c Z;simp only[fS]at A;split at A
 .rename_i s y;rw[y]at B;have b:a.eval X=.string s:=B;cases A;refine⟨_,_,by rw[b];exact run_bytes_of_string w T h o s hs m V,?_⟩;have k:s.size<=grownCap w s.size 0 o:=grownCap_ge w _ _ _;have u:=aO.stand (G:=G) (ι:=ι) (obj:=obj) S (w.drawn+1) o ((bytesRow s (grownCap w s.size 0 o)).size,(bytesRow s (grownCap w s.size 0 o)).size+1) (bytesRow s (grownCap w s.size 0 o)) (aJ:=1) (rows:=ZG s) (cap:=grownCap w s.size 0 o) (by simpa[ZG]using k) (Sg λj hj=>?_)
  .rw [show(ZG s).length=s.size by simp[ZG]]at u;simp only[bB,rA,cG];exact u
  .have K:(w.drew.alloc (.cells (bytesRow s (grownCap w s.size 0 o)) o ((bytesRow s (grownCap w s.size 0 o)).size,(bytesRow s (grownCap w s.size 0 o)).size+1))).heap[w.heap.size]? = some _:=cE { w with drawn:=w.drawn+1 } _;have q:j<s.data.size:=by simpa using hj
   show cell? (w.drew.alloc _) _=_;unfold cell?;rw[K];simp only[Nat.zero_add,Option.isSome_none,false_eq_true,if_false];unfold bytesRow;rw[Array.getElem?_append_left (by simpa using q)];simp[q];exact⟨_,Array.getElem?_eq_getElem q,rfl⟩
 .cases A
def LW(S:aA G J w ι obj)(h:∀t,cW J w ι (get t) (a.tmps.getD t Go.undef))(A:fS G get obj base m=some e)(hfree:∀j,j<e.nw.length->obj (base+j)=.free){o:Oper}(U:jy P o.op=some m) :
  cL P o a w (aO G obj (bB obj base e) J ι w e.r):=by
 obtain⟨dst,op,type,pos,after,guard⟩:=o;dsimp only at U;have stay:∀{e:fN} {v:Value},e.nw=[]->e.wr=[]->cW J w ι e.r v->aO G obj (bB obj base e) J ι w e.r v w:=by intro e v H h2 K;simp only[bB,H,h2,rA,cG];exact aO.stay S K
 cases op with
 |slice T x lo hi mx=>
  cases mx with
  |some _=>simp[jy]at U
  |none=>
   simp only[jy]at U;split at U
   .rename_i x' lo' hi' n el H h2 K Z;split at U
    .rename_i hs;cases U;obtain⟨v,q,hr,h6,h7⟩:=OK S h H h2 K Z hs A;exact cL.value (s:=Instr.sliceAt T (a.eval x) (lo.map a.eval) (hi.map a.eval) none) rfl q (stay h6 h7 hr)
    .cases U
   .cases U
 |makeSlice T l c=>
  simp only[jy]at U;split at U
  .rename_i n el H Z;split at U
   .rename_i z size bytes h2 K;split at U
    .rename_i pQ;cases U;have V:obj base=.free:=by
      have hlen:0<e.nw.length:=by
       have hE':=A;simp only[fS]at hE';split at hE'
       .split at hE'
        .cases hE';simp
        .cases hE'
       .cases hE'
      simpa using hfree 0 hlen
     obtain⟨v,w',q,X⟩:=Po S h H pQ.1 Z K h2 pQ.2 V A;exact cL.value (s:=Instr.makeSlice T (a.eval l) (a.eval c)) rfl q X
    .cases U
   .cases U
  .cases U
 |convert S' T x=>
  simp only[jy]at U;split at U
  .rename_i y el H h2 K;split at U
   .rename_i h4;cases U;obtain⟨v,q,hr,h6,h7⟩:=QL S h H h2 h4 K A;exact cL.value (s:=Go.convert S' T (a.eval x)) rfl q (stay h6 h7 hr)
   .cases U
  .rename_i y el H h2 K;split at U
   .rename_i h4;cases U;obtain⟨v,w',q,X⟩:=OR S h H h2 K h4 A;exact cL.value (s:=Go.convert S' T (a.eval x)) rfl q X
   .cases U
  .cases U
 |call c=>
  obtain⟨callee,args,ts⟩:=c;cases callee with
  |value f=>simp[jy]at U
  |invoke r m=>simp[jy]at U
  |builtin b=>
   cases b with
   |copy=>
    simp only[jy]at U;split at U
    .rename_i x y tx ty hargs hT;have ha:args=#[x,y]:=by apply Array.ext';simpa using hargs
     have ht:ts=#[tx,ty]:=by apply Array.ext';simpa using hT
     subst ha ht;split at U
     .rename_i x' y' el H h2 K;split at U
      .rename_i pQ;cases U;obtain⟨v,w',q,X⟩:=Qz (rt:=type) S h H h2 K pQ.1 pQ.2 A;exact cL.value (s:=Builtin.copy_ #[tx,ty] type #[a.eval x,a.eval y]) (by simp[execOp,resolve,invoke,builtin]) q X
      .cases U
     .cases U
    .cases U
   |clear=>
    simp only[jy]at U;split at U
    .rename_i x tx hargs hT;have ha:args=#[x]:=by apply Array.ext';simpa using hargs
     have ht:ts=#[tx]:=by apply Array.ext';simpa using hT
     subst ha ht;split at U
     .rename_i x' el H h2;split at U
      .rename_i z n K h4;split at U
       .rename_i pQ;cases U;obtain⟨v,w',q,X⟩:=QF (rt:=type) S h H h2 K pQ A;exact cL.value (s:=Builtin.clear_ #[tx] type #[a.eval x]) (by simp[execOp,resolve,invoke,builtin]) q X
       .cases U
      .cases U
     .cases U
    .cases U
   |_=>simp[jy]at U
 |unOp u T x=>
  cases u with
  |xor=>
   simp only[jy]at U;split at U
   .rename_i y H;cases U;have B:=aZ S h H;simp only[fS]at A;split at A
    .rename_i k n O;rw[O]at B;have hX:a.eval x=.int k n:=B;cases A;exact cL.value (s:=Op.unary .xor (a.eval x)) rfl (by rw[hX];rfl) (stay rfl rfl rfl)
    .cases A
   .cases U
  |_=>simp[jy]at U
 |makeMap T r=>
  cases r with
  |some _=>simp[jy]at U
  |none=>
   simp only[jy,Option.some.injEq]at U;subst U;simp only[fS,Option.some.injEq]at A;subst A;have V:obj base=.free:=by simpa using hfree 0 (by simp)
   refine cL.value (s:=Instr.makeMap T none) rfl rfl ?_;have e1:bB obj base { r:=.mr base,nw:=[.mp []] } = λo=>if o=base then .live (.mp [])else obj o:=by funext k;simp[bB,rA,cG]
   rw[e1];exact aO.mkm S V
 |mapUpdate T m k x=>
  simp only[jy]at U;split at U
  .rename_i H h2 K h4;split at U
   .rename_i h5;cases U;obtain⟨w',q,X⟩:=Eo S h H h2 K h4 h5 A;refine cL.Ao (w':=w') ?_ X;simp[execOp,q,Result.andThen]
   .cases U
  .cases U
 |insert T m k x=>
  simp only[jy]at U;split at U
  .rename_i H h2 K h4;split at U
   .rename_i h5;cases U;obtain⟨w',q,X⟩:=Eo S h H h2 K h4 h5 A;refine cL.Ao (w':=w') ?_ X;simp[execOp,q,Result.andThen]
   .cases U
  .cases U
 |lookup T m k ok=>
  simp only[jy]at U;split at U
  .rename_i H h2 K;split at U
   .rename_i i h4;split at U
    .rename_i z h5;split at U
     .rename_i h6;cases U;obtain⟨v,q,hr,h7,h8⟩:=Pn S h H h2 K h6 h4 h5 A;exact cL.value (s:=Instr.lookup T (a.eval m) (a.eval k) ok) rfl q (stay h7 h8 hr)
     .cases U
    .cases U
   .cases U
  .cases U
 |_=>simp[jy]at U
def LX(S:aA G J w ι obj)(c:∀t,cW J w ι (get t) (a.tmps.getD t Go.undef)){i:I}(A:de G get obj base i=some e)(x:∀j,j<e.nw.length->obj (base+j)=.free){o:Oper}(U:oH P o.op=some i) :
  cL P o a w (aO G obj (bB obj base e) J ι w e.r):=by
 rcases zG U with h|⟨m,rfl,h⟩
 .exact Qn S c A x h
 .have b:fS G get obj base m=some e:=by simpa only[de]using A
  rcases h with h|h|rfl
  .exact LW S c b x h
  .exact LY S c b h
  .cases b
end
end
section
variable{ro:Option Nat}{n base:Nat}{args:Array Value}{w w':World}{o:Oper}{a:Act}{e:fN}{ob:ah}{G:tY}{J:Nat->Prop}{ι:fe}{obj':Nat->bK}{ds:List Deferred}
def fz(ro:Option Nat):Fence:={ fn:=λ_=>True,depth:=none,alive:=false,round:=ro }
def pV{P:Program}{f:FuncId}{R:Ending->World->Prop} : CallsIn (fz ro) n P f args w R↔Calls P f args w R:=by have:CallsIn (fz ro) n P f args w R=CallsIn Fence.wide n P f args w R:=rfl;rw[this];exact callsIn_wide
def XG{P:Program}{row:String}{R:Value->World->Prop}(h:Rows P row args w R):RowsIn (fz ro) n P row args w R:=by intro b cs _;obtain⟨v,w',H,h2⟩:=h b cs;exact⟨v,w',H,stepsIn_wide.2 h2⟩
def Y6{P:Program}{next:Act->World->Prop}{Q:Exit->Act->World->Prop}(hd:∀c,o.op≠.defer c)(h:o.wp P a w next Q):o.wpIn (fz ro) n P a w next Q:=by
 refine⟨λ_ _=>trivial,?_⟩;rw[Oper.semAt_eq _ _ _ hd];unfold Oper.wp at h;generalize(execOp a.eval o).run P w=r at h;unfold Oper.upon at h;unfold Oper.uponIn;split at h
 .exact h
 .exact h
 .exact h
 .exact ⟨(λK=>by cases K),pV.2 (Calls.mono h (λe w' q=>by cases e<;>exact q))⟩
 .exact ⟨(λK=>by cases K),XG h⟩
 .exact h
 .exact h.elim
structure St where
 env:List (Nat×LV)
 af:List (Option ah)
def aN:List (Nat×LV)->Nat->LV
 |[],_=>.top
 |(k,v)::r,t=>if k=t then v else aN r t
def di(dst:Option Nat)(r:LV)(env:List (Nat×LV)):List (Nat×LV):=match dst with
 |some d=>(d,r)::env
 |none=>env
def St.get(s:St)(t:Nat):LV:=aN s.env t
def St.obj(s:St)(o:Nat):bK:=an s.af o
def CY:List (Nat×ah)->List (Option ah)->List (Option ah)
 |[],l=>l
 |(k,ob)::r,l=>(CY r l).set k (some ob)
def St.app(s:St)(dst:Option Nat)(e:fN):St:={ env:=di dst e.r s.env,af:=CY e.wr s.af++e.nw.map some }
def St.put(s:St)(dst:Option Nat)(r:LV):St:={ s with env:=di dst r s.env }
def callee:LV->Option (Nat×List LV×List LV)
 |.d (.fn (.func k) fs cs)=>some (k,fs.map .d,cs.map .d)
 |.fn (.func k) fs cs=>some (k,fs,cs)
 |_=>none
def nY(P:Program)(G:tY)(get:Nat->LV)(obj:Nat->bK)(base:Nat)(i:I)(e:fN):Prop:=
 match i with
 |.call f args=>match callee (f.ev G get)with
  |some (k,fs,cs)=>bZ P G k (fs++args.map (·.ev G get)++cs) obj base e
  |none=>False
 |i=>de G get obj base i=some e
section
variable {P:Program} {G:tY} {J:Nat->Prop} {w w':World} {ι:fe} {obj:Nat->bK} {a:Act} {get:Nat->LV} {base:Nat}
def cm.append:∀{xs ys:List LV} {vs us:List Value},cm J w ι xs vs->cm J w ι ys us->cm J w ι (xs++ys) (vs++us)
 |[],ys,[],us,_,h=>h
 |x::xs,ys,v::vs,us,h,k=>⟨h.1,cm.append h.2 k⟩
 |[],_,_::_,_,h,_=>h.elim
 |_::_,_,[],_,h,_=>h.elim
def yU(keep:Nat->Bool):∀(l:List (Nat×ah)) (obj:Nat->bK),(l.map (·.1)).Nodup->(∀p∈l,keep p.1=false->obj p.1=.live p.2)->cG (l.filter λp=>keep p.1) obj=cG l obj
 |[],_,_,_=>rfl
 |(k,ob)::r,obj,T,h=>by
  simp only[map_cons,nodup_cons]at T;have u:=yU keep r obj T.2 (λp S=>h p (by simp[S]));cases hk:keep k with
  |true=>rw[filter_cons_of_pos (by simpa using hk)];simp only[cG,u]
  |false=>
   rw[filter_cons_of_neg (by simp[hk]),u];funext o;simp only[cG];split
   .rename_i O;subst O;have V:∀(l:List (Nat×ah)) (o:Nat),o∉l.map (·.1)->cG l obj o=obj o:=by
     intro l
     induction l with
     |nil=>intro o _;rfl
     |cons p l t=>intro o O;obtain⟨a,b⟩:=p;simp only[map_cons,mem_cons,_root_.not_or]at O;simp only[cG];rw[if_neg O.1];exact t o O.2
    rw[V r _ T.1];exact h (o,ob) (by simp) hk
   .rfl
def Gt(obj:Nat->bK):∀(Z:List Nat),∀p∈fA obj Z,p.1∈Z
 |[],p,h=>by cases h
 |z::Z,p,h=>by
  rw[tC]at h;split at h
  .rcases mem_cons.1 h with rfl|h
   .simp
   .exact mem_cons_of_mem _ (Gt obj Z p h)
  .exact mem_cons_of_mem _ (Gt obj Z p h)
def Jv{ρ Z:List Nat}{tmp:Bool}{ai aj:List ah}{r:LV}(T:ρ.Nodup)(A:∀z∈Z,z∉ρ){obj:Nat->bK}
  (O:∀(i o:Nat),ρ[i]? = some o->∃ob,ai[i]? = some ob/\obj o=.live (bP (gz ρ base) ob)) {keep:Nat->Bool} (hk:∀(i o:Nat),ρ[i]? = some o->keep o=false->aj[i]? = ai[i]?) (nw:List ah) :
  bB obj base { r:=rn (gz ρ base) r,rd:=ρ++Z,wr:=((ρ.zip (aj.map (bP (gz ρ base)))).filter λp=>keep p.1)++(if tmp then[]else fA obj Z),nw:=nw } =
   bB obj base { r:=rn (gz ρ base) r,rd:=ρ++Z,wr:=(ρ.zip (aj.map (bP (gz ρ base))))++(if tmp then[]else fA obj Z),nw:=nw }:=by
 unfold bB;dsimp only;have h:∀(l m:List (Nat×ah)) (obj:Nat->bK),cG (l++m) obj=cG l (cG m obj):=by
  intro l m obj
  induction l with
  |nil=>rfl
  |cons p l c=>obtain⟨a,b⟩:=p;simp only[cons_append,cG,c]
 rw[h,h,yU]
 .have sub:∀(ρ:List Nat) (l:List ah),((ρ.zip l).map (·.1)).Sublist ρ:=by
   intro ρ
   induction ρ with
   |nil=>intro l;simp
   |cons a r c=>
    intro l;cases l with
    |nil=>simp
    |cons b l=>simpa using c l
  exact T.sublist (sub _ _)
 .intro p S k;obtain⟨i,hi⟩:=mem_iff_getElem?.1 S;rw[getElem?_zip_eq_some]at hi;obtain⟨H,h2⟩:=hi;have K:=hk i p.1 H k;obtain⟨ob,u,y⟩:=O i p.1 H;rw[getElem?_map,K,u]at h2;simp only[Option.map_some,Option.some.injEq]at h2;have V:∀(l:List (Nat×ah)) (o:Nat),o∉l.map (·.1)->cG l obj o=obj o:=by
   intro l
   induction l with
   |nil=>intro o _;rfl
   |cons p l t=>intro o O;obtain⟨a,b⟩:=p;simp only[map_cons,mem_cons,_root_.not_or]at O;simp only[cG];rw[if_neg O.1];exact t o O.2
  rw[V _ _ ?_,y,<- h2];intro x;obtain⟨q,X,e⟩:=mem_map.1 x;split at X
  .cases X
  .exact A _ (Gt obj Z q X) (e▸mem_of_getElem? H)
def Mg(S:aA G J w ι obj)(h:∀t,cW J w ι (get t) (a.tmps.getD t Go.undef)){f:bF}{args:List bF}(A:nY P G get obj base (.call f args) e)(O:∀j,j<e.nw.length->obj (base+j)=.free)(U:oH P o.op=some (.call f args)) :
  cL P o a w (aO G obj (bB obj base e) J ι w e.r):=by
 replace U:=vi U;obtain⟨dst,op,type,pos,after,guard⟩:=o;dsimp only at U;obtain⟨F,as,ts,rfl,hF,hargs⟩:∃F as ts,op=.call ⟨.value F,as,ts⟩/\aI F=some f/\dJ as.toList=some args:=by
  cases op with
  |call c=>
   obtain⟨callee,as,ts⟩:=c;cases callee with
   |value F=>
    simp only[cV]at U;split at U
    .rename_i f' args' H h2;cases U;exact⟨F,as,ts,rfl,H,h2⟩
    .cases U
   |invoke r m=>simp[cV]at U
   |builtin b=>exfalso;cases b<;>simp only[cV]at U<;>(repeat' split at U)<;>cases U
  |unOp u T x=>exfalso;cases u<;>simp only[cV]at U<;>(try (cases U;done))<;>(repeat' split at U)<;>cases U
  |_=>exfalso;simp only[cV]at U<;>(repeat' split at U)<;>cases U
 simp only[nY]at A;split at A
 .rename_i k fs cs mz;have Lr:=aZ S h hF;have hrA:=tq S h hargs;obtain⟨fs',cs',hval,Xr,hcs⟩:∃fs' cs',a.eval F=.func (.func k) fs' cs'/\cm J w ι fs fs'.toList/\cm J w ι cs cs'.toList:=by
   generalize f.ev G get=x at mz Lr;unfold callee at mz;split at mz
   .cases mz;obtain⟨fs',cs',H,h2,K⟩:=Lr;exact⟨fs',cs',H,h2.CV,K.CV⟩
   .cases mz;obtain⟨fs',cs',H,h2,K⟩:=Lr;exact⟨fs',cs',H,h2,K⟩
   .cases mz
  obtain⟨ρ,Z,tmp,aK,ai,r,aj,keep,hkeep,q,B,LD,V,zY,hid,T8,TM,hle,aay,rfl⟩:=A.ex;obtain⟨hent,LB⟩:=aay;obtain⟨SF,_⟩:=S.sub (base:=base) q B V zY hid (λz B=>(LD z B).up);have Lq:cm J w ι (fs++args.map (·.ev G get)++cs) (fs'++as.map a.eval++cs').toList:=by simp only[Array.toList_append,Array.toList_map];exact(Xr.append hrA).append hcs
  have IF:=LB _ _ w (fs'++as.map a.eval++cs') SF (gB S _ _ _ T8 Lq);have hrun:(execOp a.eval ⟨dst,.call ⟨.value F,as,ts⟩,type,pos,after,guard⟩).run P w=.ok (.enter k (fs'++as.map a.eval++cs')) w:=by simp only[execOp,resolve,Sem.run_bind,hval,Deferred.ofValue,Sem.run_pure,Result.andThen_ok,invoke];exact jM hent _ w
  intro next Q hnext
  unfold Oper.wp;rw[hrun,Oper.upon_enter];refine Calls.mono IF (λe w'' ⟨v,y,X⟩=>?_);subst y;refine hnext v w'' ?_;simp only[length_map,length_drop]at O;rw[Jv q B zY hkeep];exact aO.call S q B V zY hid LD TM hle O X
 .exact A.elim
def UJ(S:aA G J w ι obj)(X:∀t,cW J w ι (get t) (a.tmps.getD t Go.undef)){f:bF}{args:List bF}{p:Value}{k:Nat}{fs cs:List LV}(mz:callee (f.ev G get)=some (k,fs,cs))(A:fE P G k (fs++args.map (·.ev G get)++cs) obj base p e)(O:∀j,j<e.nw.length->obj (base+j)=.free)(U:oH P o.op=some (.call f args))
  (next:Act->World->Prop) (Q:Exit->Act->World->Prop) (hQ:∀w',aO G obj (bB obj base e) J ι w .top Go.undef w'->Q (.panic [{ v:=p,recovered:=false }]) a w'):o.wp P a w next Q:=by
 replace U:=vi U;obtain⟨dst,op,type,pos,after,guard⟩:=o;dsimp only at U;obtain⟨F,as,ts,rfl,hF,hargs⟩:∃F as ts,op=.call ⟨.value F,as,ts⟩/\aI F=some f/\dJ as.toList=some args:=by
  cases op with
  |call c=>
   obtain⟨callee,as,ts⟩:=c;cases callee with
   |value F=>
    simp only[cV]at U;split at U
    .rename_i f' args' H h2;cases U;exact⟨F,as,ts,rfl,H,h2⟩
    .cases U
   |invoke r m=>simp[cV]at U
   |builtin b=>exfalso;cases b<;>simp only[cV]at U<;>(repeat' split at U)<;>cases U
  |unOp u T x=>exfalso;cases u<;>simp only[cV]at U<;>(try (cases U;done))<;>(repeat' split at U)<;>cases U
  |_=>exfalso;simp only[cV]at U<;>(repeat' split at U)<;>cases U
 have Lr:=aZ S X hF;have hrA:=tq S X hargs;obtain⟨fs',cs',hval,Xr,hcs⟩:∃fs' cs',a.eval F=.func (.func k) fs' cs'/\cm J w ι fs fs'.toList/\cm J w ι cs cs'.toList:=by
  generalize f.ev G get=x at mz Lr;unfold callee at mz;split at mz
  .cases mz;obtain⟨fs',cs',H,h2,K⟩:=Lr;exact⟨fs',cs',H,h2.CV,K.CV⟩
  .cases mz;obtain⟨fs',cs',H,h2,K⟩:=Lr;exact⟨fs',cs',H,h2,K⟩
  .cases mz
 obtain⟨ρ,Z,aK,ai,aj,q,hz,LD,V,zY,hid,T8,hle,aay,rfl⟩:=A.ex;obtain⟨hent,LB⟩:=aay;obtain⟨SF,_⟩:=S.sub (base:=base) q hz V zY hid (λz hz=>.inl (LD z hz));have Lq:cm J w ι (fs++args.map (·.ev G get)++cs) (fs'++as.map a.eval++cs').toList:=by simp only[Array.toList_append,Array.toList_map];exact(Xr.append hrA).append hcs
 have IF:=LB _ _ w (fs'++as.map a.eval++cs') SF (gB S _ _ _ T8 Lq);have hrun:(execOp a.eval ⟨dst,.call ⟨.value F,as,ts⟩,type,pos,after,guard⟩).run P w=.ok (.enter k (fs'++as.map a.eval++cs')) w:=by simp only[execOp,resolve,Sem.run_bind,hval,Deferred.ofValue,Sem.run_pure,Result.andThen_ok,invoke];exact jM hent _ w
 unfold Oper.wp;rw[hrun,Oper.upon_enter];refine Calls.mono IF (λe w'' ⟨B,y⟩=>?_);subst B;refine hQ w'' ?_;simp only[length_map,length_drop]at O;have:=aO.call (tmp:=false) S q hz V zY hid (λz hz=>.inl (LD z hz)) (λh=>by cases h) hle O y;simpa[rn]using this
def Mw(S:aA G J w ι obj)(c:∀t,cW J w ι (get t) (a.tmps.getD t Go.undef)){i:I}(A:nY P G get obj base i e)(x:∀j,j<e.nw.length->obj (base+j)=.free)(U:oH P o.op=some i) :
  cL P o a w (aO G obj (bB obj base e) J ι w e.r):=by
 by_cases h:∃f args,i=.call f args
 .obtain ⟨f,args,rfl⟩:=h;exact Mg S c A x U
 .have:nY P G get obj base i e=(de G get obj base i=some e):=by
   cases i<;>first|rfl|(exfalso;exact h ⟨_,_,rfl⟩)
  rw[this]at A;exact LX S c A x U
end
def JO{l:List (Option ah)}{o:Nat}(h:an l o=.live ob):o<l.length:=by
 unfold an at h;split at h
 .cases h
 .cases h
 .rename_i K;exact(List.getElem?_eq_some_iff.1 K).1
def cD{l:List (Option ah)}{o:Nat}(h:l.length<=o):an l o=.free:=by unfold an;rw[getElem?_eq_none h]
def oq:∀(wr:List (Nat×ah)) (l:List (Option ah)),(CY wr l).length=l.length
 |[],_=>rfl
 |(k,ob)::r,l=>by simp only[CY,length_set,oq r l]
def AO:∀(wr:List (Nat×ah)) (l:List (Option ah)),(∀p∈wr,p.1<l.length)->∀o,an (CY wr l) o=cG wr (an l) o
 |[],_,_,_=>rfl
 |(k,ob)::r,l,h,o=>by
  have hk:k<(CY r l).length:=by rw[oq];exact h (k,ob) (by simp)
  simp only[CY,cG];unfold an;by_cases O:o=k
  .subst O;rw[getElem?_set_self hk];simp
  .rw [getElem?_set_ne (λe=>O e.symm),if_neg O];exact AO r l (λp S=>h p (by simp[S])) o
def Ay(l:List (Option ah))(e:fN)(h:∀p∈e.wr,p.1<l.length):an (CY e.wr l++e.nw.map some)=bB (an l) l.length e:=by
 funext o;simp only[bB,nK];have y:=oq e.wr l;by_cases O:l.length<=o
 .rw [if_pos O];have:an (CY e.wr l++e.nw.map some) o=(match e.nw[o-l.length]? with|some ob=>.live ob|none=>.free):=by
   unfold an;rw[getElem?_append_right (by omega),y,getElem?_map];cases e.nw[o-l.length]?<;>rfl
  rw[this];cases e.nw[o-l.length]? with
  |some ob=>rfl
  |none=>show bK.free=cG e.wr (an l) o;rw[<- AO e.wr l h o,cD (by omega)]
 .rw [if_neg O,<- AO e.wr l h o];unfold an;rw[getElem?_append_left (by omega)]
def IT{obj:Nat->bK}{x:LV}{o:Nat}{d:DV}(h:sO obj x=some (o,ob,d)):∃b,obj o=.live b:=by
 unfold sO at h;split at h
 .split at h
  .rename_i O;split at h
   .cases h;exact⟨_,O⟩
   .cases h
  .cases h
 .cases h
theorem vE{get:Nat->LV}{obj:Nat->bK}{i:I}(h:de G get obj base i=some e):∀p∈e.wr,∃ob,obj p.1=.live ob:=by
 intro p S;by_cases O:∃m,i=.more m
 .obtain ⟨m,rfl⟩:=O;exact XP (by simpa only[de]using h) p S
 cases i<;>(try (exfalso;exact O ⟨_,rfl⟩;done))<;>simp only[de,Jw]at h<;>(repeat' split at h)<;>(try (cases h;done))<;>cases h<;>first
  |(cases S;done)
  |(simp only[mem_singleton]at S;subst S;exact⟨_,by assumption⟩)
  |(simp only[mem_singleton]at S;subst S;rename_i V;exact IT V)
theorem tB(obj:Nat->bK):∀(Z:List Nat),∀p∈fA obj Z,∃ob,obj p.1=.live ob
 |[],p,h=>by cases h
 |z::Z,p,h=>by
  rw[tC]at h;split at h
  .rename_i x A;rcases mem_cons.1 h with rfl|h
   .unfold IU at A;split at A
    .exact ⟨_,by assumption⟩
    .exact ⟨_,by assumption⟩
    .cases A
   .exact tB obj Z p h
  .exact tB obj Z p h
def nY.vE{P:Program}{G:tY}{get:Nat->LV}{obj:Nat->bK}{base:Nat}{i:I}{e:fN}(h:nY P G get obj base i e):∀p∈e.wr,∃ob,obj p.1=.live ob:=by
 by_cases hi:∃f args,i=.call f args
 .obtain ⟨f,args,rfl⟩:=hi;simp only[nY]at h;split at h
  .obtain ⟨ρ,Z,tmp,aK,ai,r,aj,keep,V,T,A,v,y,K,hid,c,b,q,H,rfl⟩:=h.ex;intro p S;simp only[mem_append]at S;rcases S with S|S
   .have:p.1∈ρ:=(of_mem_zip (mem_filter.1 S).1).1;obtain⟨i,hi⟩:=mem_iff_getElem?.1 this;obtain⟨ob,_,k⟩:=K i _ hi;exact⟨_,k⟩
   .split at S
    .cases S
    .exact tB obj Z p S
  .exact h.elim
 .have:nY P G get obj base i e=(de G get obj base i=some e):=by
   cases i<;>first|rfl|(exfalso;exact hi ⟨_,_,rfl⟩)
  rw[this]at h;exact Dv.vE h
def fE.vE{P:Program}{f:Nat}{args:List LV}{obj:Nat->bK}{p:Value}(h:fE P G f args obj base p e):∀q∈e.wr,∃ob,obj q.1=.live ob:=by
 obtain⟨ρ,Z,aK,ai,aj,T,A,v,y,K,hid,c,b,H,rfl⟩:=h.ex;intro q X;simp only[mem_append]at X;rcases X with X|X
 .have:q.1∈ρ:=(of_mem_zip X).1;obtain⟨i,hi⟩:=mem_iff_getElem?.1 this;obtain⟨ob,_,k⟩:=K i _ hi;exact⟨_,k⟩
 .exact tB obj Z q X
def lJ(w w':World):Prop:=∀(b:Nat) (ob:Obj),w.heap[b]? = some ob->ob.pO=false->w'.heap[b]? = some ob
def lJ.refl(w:World):lJ w w:=λ_ _ h _=>h
def lJ.trans{c:World}(h:lJ w w')(k:lJ w' c):lJ w c:=λb ob V U=>k b ob (h b ob V U) U
def Ext.nc{G:tY}{J':Nat->Prop}{ι':fe}{obj:Nat->bK}(S:aA G J w ι obj)(E:Ext obj obj' J J' ι ι' w w'):lJ w w':=by
 intro b ob V U;rw[E.ev.same b (Array.getElem?_eq_some_iff.1 V).1 (λO=>?_)]
 .exact V
 .obtain ⟨x,h,Z⟩:=S.uN O;rw[V]at h;cases h;rw[U]at Z;cases Z
def YS:Nat:=4294967294
def isNil:LV->Bool
 |.d (.val (.slice none 0 0))=>true
 |_=>false
structure Dk where
 ds:List Deferred
 CX:Bool
 lo:Nat
 ys:LV->World->Prop
 keep:∀v w w',lJ w w'->ys v w->ys v w'
 top:∀w,ys .top w
 tot:∀v w,isNil v=true->ys v w->∀u,ys u w
def Dk.plain(ds:List Deferred)(mk:Bool)(lo:Nat:=0):Dk:=⟨ds,mk,lo,λ_ _=>True,λ_ _ _ _ _=>trivial,λ_=>trivial,λ_ _ _ _ _=>trivial⟩
def Marks(D:Dk)(ds:List Deferred)(w:World):Prop:=∃o:List Nat,(D.CX=false->o=[])/\o.Nodup/\ds=o.map (λb=>{ target:=.collected b,args:=#[] })++D.ds/\∀b∈o,D.lo<=b/\w.heap[b]? = some (.deferred (some []))
def Marks.keep{D:Dk}(h:Marks D ds w)(k:lJ w w'):Marks D ds w':=by obtain⟨o,H,h2,K,u⟩:=h;exact⟨o,H,h2,K,λb V=>⟨(u b V).1,k b _ (u b V).2 rfl⟩⟩
def Marks.plain(D:Dk)(w:World):Marks D D.ds w:=⟨[],λ_=>rfl,nodup_nil,rfl,λ_ h=>by cases h⟩
def Marks.none{D:Dk}(h:Marks D ds w)(k:D.CX=false):ds=D.ds:=by obtain⟨o,H,h2,K,u⟩:=h;rw[H k]at K;simpa using K
structure Sim(G:tY)(D:Dk)(N:Nat)(J:Nat->Prop)(w:World)(ι:fe)(a:Act)(get:Nat->LV)(obj:Nat->bK):Prop where
 store:aA G J w ι obj
 env:∀t,cW J w ι (get t) (a.tmps.getD t Go.undef)
 size:a.tmps.size=N
 defers:Marks D a.defers w
 ys:D.ys (get YS) w
 lim:N<=YS
def iq(dst:Option Nat)(r:LV)(get:Nat->LV)(t:Nat):LV:=if dst=some t then r else get t
def Ce(dst:Option Nat)(r:LV)(env:List (Nat×LV)):aN (di dst r env)=iq dst r (aN env):=by
 funext t;cases dst with
 |none=>simp[di,iq]
 |some d=>simp[di,aN,iq]
def Sim.step{D:Dk}{N:Nat}{get:Nat->LV}{obj:Nat->bK}(S:Sim G D N J w ι a get obj){dst:Option Nat}(hd:∀d,dst=some d->d<N){r:LV}{v:Value}
  (h:aO G obj obj' J ι w r v w'):∃J' ι',Sim G D N J' w' ι' (a.put dst v) (iq dst r get) obj'/\Ext obj obj' J J' ι ι' w w':=by
 obtain⟨J',ι',m,hr,E⟩:=h;have c:=E.nc S.store;refine⟨J',ι',⟨m,λt=>?_,?_,?_,?_,S.lim⟩,E⟩
 .cases dst with
  |none=>simpa[iq,Act.put]using(S.env t).ev S.store E.ev
  |some d=>
   have b:=hd d rfl;simp only[iq,Act.put,Option.some.injEq];by_cases B:d=t
   .subst B;rw[if_pos rfl];have:(a.tmps.setIfInBounds d v).getD d Go.undef=v:=by simp[Array.getD_eq_getD_getElem?,S.size,b]
    rw[this];exact hr
   .rw [if_neg B];have:(a.tmps.setIfInBounds d v).getD t Go.undef=a.tmps.getD t Go.undef:=by
     simp[Array.getD_eq_getD_getElem?,Array.getElem?_setIfInBounds_ne B]
    rw[this];exact(S.env t).ev S.store E.ev
 .cases dst<;>simp[Act.put,S.size]
 .have H:=S.defers.keep c;cases dst<;>exact H
 .have H:=D.keep _ _ _ c S.ys;have h2:iq dst r get YS=get YS:=by
   unfold iq;rw[if_neg];intro h;have K:=hd YS h;have:=S.lim;omega
  rw[h2];exact H
end
section
variable{D:Nat->Bool}{ro:Option Nat}{nn:Nat}{ops:Array Oper}{g0:Nat->LV}{o0:Nat->bK}{listed:Array Bool}{a:Act}{w:World}(Inv:(Nat->LV)->(Nat->bK)->Act->World->Prop)(lo:Nat)
structure ta where
 tr:List Nat
 td:Option Nat
 r:LV
 rd:List Nat
 ow:List (Nat×ah)
def ta.wr(e:ta):List Nat:=e.ow.map (·.1)
def vF:∀(l:List (Nat×ah)) (obj:Nat->bK) (o:Nat),o∉l.map (·.1)->cG l obj o=obj o
 |[],_,_,_=>rfl
 |(k,ob)::r,obj,o,h=>by simp only[map_cons,mem_cons,_root_.not_or]at h;simp only[cG];rw[if_neg h.1];exact vF r obj o h.2
theorem Fx:∀(l:List (Nat×ah)) (obj obj':Nat->bK) (o:Nat),o∈l.map (·.1)->cG l obj o=cG l obj' o
 |[],_,_,_,h=>by cases h
 |(k,ob)::r,obj,obj',o,h=>by
  simp only[cG];by_cases O:o=k
  .grind
  .rw [if_neg O,if_neg O];exact Fx r obj obj' o (by grind)
section
variable (E:Nat->ta) (g0:Nat->LV) (o0:Nat->bK)
def lE(D:Nat->Bool):Nat->(Nat->LV)×(Nat->bK)
 |0=>(g0,o0)
 |k+1=>if D k then(iq (E k).td (E k).r (lE D k).1,cG (E k).ow (lE D k).2)else lE D k
variable {E g0 o0}
theorem FH{D b:Nat->Bool}{t:Nat} : ∀k,(∀j,j<k->(E j).td=some t->D j=b j)->(lE E g0 o0 D k).1 t=(lE E g0 o0 b k).1 t
 |0,_=>rfl
 |k+1,h=>by
  have u:=FH k (λj hj=>h j (by omega));simp only[lE];by_cases B:(E k).td=some t
  .have:=h k (by omega) B;rw[this];split
   .simp [iq,B]
   .exact u
  .have key:∀D:Nat->Bool,(if D k=true then(iq (E k).td (E k).r (lE E g0 o0 D k).1,cG (E k).ow (lE E g0 o0 D k).2)else lE E g0 o0 D k).1 t=(lE E g0 o0 D k).1 t:=λD=>by
    split
    .simp [iq,B]
    .rfl
   rw[key,key];exact u
theorem Ab{D b:Nat->Bool}{o:Nat} : ∀k,(∀j,j<k->o∈(E j).wr->D j=b j)->(lE E g0 o0 D k).2 o=(lE E g0 o0 b k).2 o
 |0,_=>rfl
 |k+1,h=>by
  have u:=Ab k (λj hj=>h j (by omega));simp only[lE];by_cases B:o∈(E k).wr
  .have:=h k (by omega) B;rw[this];split
   .exact Fx _ _ _ _ B
   .exact u
  .have key:∀D:Nat->Bool,(if D k=true then(iq (E k).td (E k).r (lE E g0 o0 D k).1,cG (E k).ow (lE E g0 o0 D k).2)else lE E g0 o0 D k).2 o=(lE E g0 o0 D k).2 o:=λD=>by
    split
    .exact vF _ _ _ B
    .rfl
   rw[key,key];exact u
theorem DQ{D:Nat->Bool}{t i:Nat}(m:D i=true)(B:(E i).td=some t):∀k,i<k->(∀j,i<j->j<k->(E j).td=some t->D j=false)->(lE E g0 o0 D k).1 t=(E i).r
 |0,h,_=>by omega
 |k+1,h,y=>by
  simp only[lE];by_cases hk:k=i
  .subst hk;rw[if_pos m];simp[iq,B]
  .have u:=DQ m B k (by omega) (λj H h2=>y j H (by omega));by_cases b:(E k).td=some t
   .grind
   .split
    .simpa [iq,b]using u
    .exact u
theorem DP{D:Nat->Bool}{o i:Nat}(m:D i=true)(B:o∈(E i).wr):∀k,i<k->(∀j,i<j->j<k->o∈(E j).wr->D j=false)->∀obj,(lE E g0 o0 D k).2 o=cG (E i).ow obj o
 |0,h,_,_=>by omega
 |k+1,h,y,obj=>by
  simp only[lE];by_cases hk:k=i
  .subst hk;rw[if_pos m];exact Fx _ _ _ _ B
  .have u:=DP m B k (by omega) (λj H h2=>y j H (by omega)) obj;by_cases b:o∈(E k).wr
   .grind
   .split
    .exact (vF _ _ _ b).trans u
    .exact u
def xJ(x y:ta):Prop:=
 (∃t,x.td=some t/\(t∈y.tr\/y.td=some t))\/(∃t,y.td=some t/\t∈x.tr)\/(∃o,o∈x.wr/\(o∈y.rd\/o∈y.wr))\/(∃o,o∈y.wr/\o∈x.rd)
variable {n:Nat} {R:Nat->Nat->Prop} (hR:∀i j,i<j->j<n->xJ (E i) (E j)->R i j)
include hR
theorem xX(m:∀j,j<n->D j=true->∀i,R i j->D i=true){i:Nat}(hi:i<n)(x:D i=false)(v:∀k,R k i->D k=true){t:Nat}(B:t∈(E i).tr\/(E i).td=some t) :
  (lE E g0 o0 D n).1 t=(lE E g0 o0 (λj=>decide (j<i)) n).1 t:=by
 refine FH n (λj hj q=>?_);rcases Nat.lt_trichotomy j i with h|h|h
 .rw [v j (hR j i h hi (.inl ⟨t,q,B⟩))];simp[h]
 .subst h;simp[x]
 .have:D j=false:=by
   cases b:D j with
   |false=>rfl
   |true=>
    have U:xJ (E i) (E j):=by
     rcases B with B|B
     .exact .inr (.inl ⟨t,q,B⟩)
     .exact .inl ⟨t,B,.inr q⟩
    have:=m j hj b i (hR i j h hj U);rw[x]at this;cases this
  rw[this];simp;omega
theorem DO(m:∀j,j<n->D j=true->∀i,R i j->D i=true){i:Nat}(hi:i<n)(x:D i=false)(v:∀k,R k i->D k=true){o:Nat}(O:o∈(E i).rd\/o∈(E i).wr) :
  (lE E g0 o0 D n).2 o=(lE E g0 o0 (λj=>decide (j<i)) n).2 o:=by
 refine Ab n (λj hj c=>?_);rcases Nat.lt_trichotomy j i with h|h|h
 .rw [v j (hR j i h hi (.inr (.inr (.inl ⟨o,c,O⟩))))];simp[h]
 .subst h;simp[x]
 .have:D j=false:=by
   cases b:D j with
   |false=>rfl
   |true=>
    have U:xJ (E i) (E j):=by
     rcases O with O|O
     .exact .inr (.inr (.inr ⟨o,c,O⟩))
     .exact .inr (.inr (.inl ⟨o,O,.inr c⟩))
    have:=m j hj b i (hR i j h hj U);rw[x]at this;cases this
  rw[this];simp;omega
theorem MJ(m:∀j,j<n->D j=true->∀i,R i j->D i=true){i:Nat}(hi:i<n)(x:D i=false) :
  lE E g0 o0 (λj=>D j||j==i) n=(iq (E i).td (E i).r (lE E g0 o0 D n).1,cG (E i).ow (lE E g0 o0 D n).2):=by
 have k:∀j,i<j->j<n->xJ (E i) (E j)->D j=false:=λj h hj U=>by
  cases b:D j with
  |false=>rfl
  |true=>have:=m j hj b i (hR i j h hj U);rw[x]at this;cases this
 refine Prod.ext (funext λt=>?_) (funext λo=>?_)
 .simp only[iq];by_cases B:(E i).td=some t
  .rw [if_pos B];refine DQ (D:=λj=>D j||j==i) (by simp) B n hi (λj H h2 hj=>?_);have:=k j H h2 (.inl ⟨t,B,.inr hj⟩);simp[this];omega
  .rw [if_neg B];refine FH n (λj hj q=>?_);have:j≠i:=λe=>B (e▸q)
   simp[this]
 .show (lE E g0 o0 (λj=>D j||j==i) n).2 o=cG (E i).ow (lE E g0 o0 D n).2 o;by_cases O:o∈(E i).wr
  .refine DP (D:=λj=>D j||j==i) (by simp) O n hi (λj H h2 hj=>?_) _;have:=k j H h2 (.inr (.inr (.inl ⟨o,O,.inr hj⟩)));simp[this];omega
  .rw [vF _ _ _ O];refine Ab n (λj hj c=>?_);have:j≠i:=λe=>O (e▸c)
   simp[this]
end
theorem count_set:∀{l:List Bool} {i:Nat},l[i]? = some false->(l.set i true).count false+1=l.count false:=by grind
theorem Kb{P:Program}{Q:Exit->Act->World->Prop}{E:Nat->ta}{R:Nat->Nat->Prop}(hi:Nat)(hhi:hi<=ops.size)
  (aav:∀i j,i<hi->hi<=j->j<ops.size->R i j)
  (hR:∀i j,i<j->j<ops.size->xJ (E i) (E j)->R i j)
  (hpre:∀j o,ops[j]? = some o->∀i,R i j->∃e∈o.after,Region.binds .any e=true/\(e.on=i\/R i e.on))
  (hback:∀j o,ops[j]? = some o->∀e∈o.after,Region.binds .any e=true->e.on<j)
  (adu:∀i j,R i j->i<ops.size)
  (hstep:∀i g obj,lo<=i->i<hi->(∀t,t∈(E i).tr\/(E i).td=some t->g t=(lE E g0 o0 (λj=>decide (j<i)) ops.size).1 t)->(∀o,o∈(E i).rd\/o∈(E i).wr->obj o=(lE E g0 o0 (λj=>decide (j<i)) ops.size).2 o)->
   ∀a w K,Inv g obj a w->(∀b w',Inv (iq (E i).td (E i).r g) (cG (E i).ow obj) b w'->K b w')->wpOpIn (fz ro) nn P ops Q i K a w)
  (hQ:∀listed a w,listed.size=ops.size->(∀j,listed.getD j false=decide (j<hi))->Inv (lE E g0 o0 (λj=>decide (j<hi)) ops.size).1 (lE E g0 o0 (λj=>decide (j<hi)) ops.size).2 a w->wpAnyIn (fz ro) nn P .any ops Q (listed.toList.count false) listed a w) :
  ∀(fuel:Nat) (listed:Array Bool) (a:Act) (w:World),listed.size=ops.size->listed.toList.count false=fuel->(∀j,listed.getD j false=true->j<hi)->(∀j,j<lo->listed.getD j false=true)->
   (∀j o,ops[j]? = some o->listed.getD j false=true->∀e∈o.after,Region.binds .any e=true->listed.getD e.on false=true)->
   Inv (lE E g0 o0 (λj=>listed.getD j false) ops.size).1 (lE E g0 o0 (λj=>listed.getD j false) ops.size).2 a w->
   wpAnyIn (fz ro) nn P .any ops Q fuel listed a w:=by
 intro fuel
 induction fuel with
 |zero=>
  intro listed a w hls U hlh hlo T hI;have A:∀j,j<ops.size->listed.getD j false=true:=by
   intro j hj;have hjj:j<listed.size:=by omega
   have H:=count_eq_zero.1 U;cases Z:listed[j]with
   |true=>simp_all
   |false=>grind
  have hD:(λj=>listed.getD j false)=λj=>decide (j<hi):=by grind
  rw[hD]at hI;have:=hQ listed a w hls (λj=>congrFun hD j) hI;rw[U]at this;exact this
 |succ fuel u=>
  intro listed a w hls U hlh hlo T hI;by_cases hfull:∀j,j<hi->listed.getD j false=true
  .grind
  .obtain ⟨j0,hj0⟩:=Classical.not_forall.1 hfull;obtain⟨hj0,ab5⟩:j0<hi/\listed.getD j0 false=false:=by grind
   -- closed below
   have S:∀j,j<ops.size->listed.getD j false=true->∀k,R k j->listed.getD k false=true:=by
    intro j
    induction j using Nat.strongRecOn with
    |_ j ihj=>
     intro hj hDj k hk;obtain⟨e,c,V,hek⟩:=hpre j _ (Array.getElem?_eq_getElem hj) k hk;have m:=hback j _ (Array.getElem?_eq_getElem hj) e c V;have hDe:=T j _ (Array.getElem?_eq_getElem hj) hDj e c V;rcases hek with rfl|hek
     .exact hDe
     .grind
   have hrd:∀i o,ops[i]? = some o->(∀e∈o.after,Region.binds .any e=true->listed.getD e.on false=true)->∀k,R k i->listed.getD k false=true:=by grind
   refine⟨λhr=>?_,λi v=>?_⟩
   .exfalso
    have TR:∀j,j<ops.size->listed.getD j false=true:=by
     intro j
     induction j using Nat.strongRecOn with
     |_ j u=>
      intro hj;cases y:listed.getD j false with
      |true=>rfl
      |false=>
       have hjj:j<listed.size:=by omega
       have hmem:j∈Region.ready .any ops listed:=by
        rw[mem_ready];refine⟨?_,ops[j],Array.getElem?_eq_getElem hj,λe c V=>?_⟩
        .grind
        .grind
       rw[hr]at hmem;cases hmem
    rw[TR j0 (by omega)]at ab5;cases ab5
   .rw [mem_ready]at v;obtain⟨hun,o,O,A⟩:=v;have hilt:=(Array.getElem?_eq_some_iff.1 O).1;have hil:i<listed.size:=by omega
    have Y4:listed.getD i false=false:=by grind
    have uU:=hrd i o O A;have adj:i<hi:=by grind
    have ac9:lo<=i:=Nat.le_of_not_lt λh=>by grind
    refine hstep i _ _ ac9 adj (λt B=>xX (D:=λj=>listed.getD j false) hR S hilt Y4 uU B) (λq X=>DO (D:=λj=>listed.getD j false) hR S hilt Y4 uU X) a w _ hI (λb w' zw=>?_);have hset:∀j,(listed.setIfInBounds i true).getD j false=(listed.getD j false||j==i):=by
     intro j;by_cases hj:j=i
     .simp_all
     .rw [getD_set_ne false (λe=>hj e.symm)];simp[hj]
    refine u (listed.setIfInBounds i true) b w' (by grind) ?_ ?_ (λj hj=>by grind) ?_ ?_
    .have Lz:listed.toList[i]? = some false:=by
      simp[hil]at hun;simp[hil,hun]
     have:=count_set Lz;rw[Array.toList_setIfInBounds];omega
    .grind
    .grind
    .have x:(λj=>(listed.setIfInBounds i true).getD j false)=(λj=>listed.getD j false||j==i):=funext hset;rw[x,MJ hR S hilt Y4];exact zw
theorem wpAny_done{P:Program}{Q:Exit->Act->World->Prop}(r:listed.size=ops.size)(m:∀j,listed.getD j false=decide (j<ops.size))(t:Q .normal a w):wpAnyIn (fz ro) nn P .any ops Q (listed.toList.count false) listed a w:=by
 have U:listed.toList.count false=0:=by
  refine count_eq_zero.2 (λu=>?_);obtain⟨i,hi,c⟩:=mem_iff_getElem.1 u;have hi:i<listed.size:=by grind
  have:=m i;rw[show listed.getD i false=listed[i]by simp[hi]]at this;have c:listed[i]=false:=by grind
  rw[c]at this;simp at this;omega
 rw[U];refine⟨?_,t⟩;apply eq_nil_iff_forall_not_mem.2;intro j hj;rw[mem_ready]at hj;obtain⟨H,o,O,_⟩:=hj;have e:=(Array.getElem?_eq_some_iff.1 O).1;have h2:=m j;have b:j<listed.size:=by omega
 simp[b]at H h2;rw[H]at h2;simp at h2;omega
theorem Oe{P:Program}{Q:Exit->Act->World->Prop}{R:Nat->Nat->Prop}{p:Nat}(S:p<ops.size)(aav:∀j,p<j->j<ops.size->R p j)
  (hpre:∀j o,ops[j]? = some o->∀i,R i j->∃e∈o.after,Region.binds .any e=true/\(e.on=i\/R i e.on))
  (t:∀j o,ops[j]? = some o->∀e∈o.after,Region.binds .any e=true->e.on<j)
     (r:listed.size=ops.size) (m:∀j,listed.getD j false=decide (j<p))
  (h:∀K:Act->World->Prop,(∀b w',(∀k:Array Bool,k.size=ops.size->(∀j,k.getD j false=decide (j<p+1))->wpAnyIn (fz ro) nn P .any ops Q (k.toList.count false) k b w')->K b w')->wpOpIn (fz ro) nn P ops Q p K a w):wpAnyIn (fz ro) nn P .any ops Q (listed.toList.count false) listed a w:=by
 have q:∀j,j<ops.size->∀i,R i j->i<j:=by
  intro j
  induction j using Nat.strongRecOn with
  |_ j u=>
   intro hj i hi;obtain⟨e,c,V,X⟩:=hpre j _ (Array.getElem?_eq_getElem hj) i hi;have H:=t j _ (Array.getElem?_eq_getElem hj) e c V;rcases X with rfl|X
   .exact H
   .grind
 have B:p<listed.size:=by omega
 have hpf:listed[p]=false:=by have:=m p;simpa[B]using this
 have Z:listed.toList[p]? = some false:=by grind
 have y:=count_set Z;have U:∀j,(listed.setIfInBounds p true).getD j false=decide (j<p+1):=by
  intro j;by_cases hj:j=p
  .simp_all
  .rw [getD_set_ne false (λe=>hj e.symm),m];simp;omega
 rw[<- Array.toList_setIfInBounds]at y;rw[<- y];have ac2:∀(i:Nat) (o:Oper),ops[i]? = some o->((∀e∈o.after,Region.binds .any e=true->listed.getD e.on false=true)↔∀e∈o.after,Region.binds .any e=true->e.on<p):=λi o _=>by grind
 refine⟨λhr=>?_,λi hi=>?_⟩
 .exfalso;have:p∈Region.ready .any ops listed:=by
   rw[mem_ready];exact⟨by grind,ops[p],Array.getElem?_eq_getElem S,(ac2 p _ (Array.getElem?_eq_getElem S)).2 λe c V=>t p _ (Array.getElem?_eq_getElem S) e c V⟩
  rw[hr]at this;cases this
 .rw [mem_ready]at hi;obtain⟨v,o,O,A⟩:=hi;have T:=(Array.getElem?_eq_some_iff.1 O).1;have hil:i<listed.size:=by omega
  have x:listed.getD i false=false:=by grind
  rw[m]at x;have hip:i=p:=by grind
  subst hip;exact h _ λb w' hk=>hk _ (by grind) U
theorem Od{P:Program}{Q:Exit->Act->World->Prop}{E:Nat->ta}{R:Nat->Nat->Prop}(p:Nat)(S:p<ops.size)
  (hR:∀i j,i<j->j<ops.size->xJ (E i) (E j)->R i j)
  (hpre:∀j o,ops[j]? = some o->∀i,R i j->∃e∈o.after,Region.binds .any e=true/\(e.on=i\/R i e.on))
  (hback:∀j o,ops[j]? = some o->∀e∈o.after,Region.binds .any e=true->e.on<j)
  (adu:∀i j,R i j->i<ops.size)
  (hstep:∀i g obj,lo<=i->i<ops.size->i≠p->¬R p i->(∀t,t∈(E i).tr\/(E i).td=some t->g t=(lE E g0 o0 (λj=>decide (j<i)) ops.size).1 t)->(∀o,o∈(E i).rd\/o∈(E i).wr->obj o=(lE E g0 o0 (λj=>decide (j<i)) ops.size).2 o)->
   ∀a w K,Inv g obj a w->(∀b w',Inv (iq (E i).td (E i).r g) (cG (E i).ow obj) b w'->K b w')->wpOpIn (fz ro) nn P ops Q i K a w)
  (ac5:∀j,j<ops.size->(E j).wr≠[]->R j p/\j<p)
  (aad:∀g obj,(∀t,t∈(E p).tr->g t=(lE E g0 o0 (λj=>decide (j<p)) ops.size).1 t)->obj=(lE E g0 o0 (λj=>decide (j<p)) ops.size).2->∀a w K,Inv g obj a w->wpOpIn (fz ro) nn P ops Q p K a w) :
  ∀(fuel:Nat) (listed:Array Bool) (a:Act) (w:World),listed.size=ops.size->listed.toList.count false=fuel->
   (∀j o,ops[j]? = some o->listed.getD j false=true->∀e∈o.after,Region.binds .any e=true->listed.getD e.on false=true)->
   (∀j,j<lo->listed.getD j false=true)->listed.getD p false=false->Inv (lE E g0 o0 (λj=>listed.getD j false) ops.size).1 (lE E g0 o0 (λj=>listed.getD j false) ops.size).2 a w->
   wpAnyIn (fz ro) nn P .any ops Q fuel listed a w:=by
 have TR:∀listed:Array Bool,listed.size=ops.size->Region.ready .any ops listed=[]->∀j,j<ops.size->listed.getD j false=true:=by
  intro listed hls hr j
  induction j using Nat.strongRecOn with
  |_ j u=>
   intro hj;cases y:listed.getD j false with
   |true=>rfl
   |false=>
    have hjj:j<listed.size:=by omega
    have hmem:j∈Region.ready .any ops listed:=by
     rw[mem_ready];refine⟨?_,ops[j],Array.getElem?_eq_getElem hj,λe c V=>?_⟩
     .grind
     .grind
    rw[hr]at hmem;cases hmem
 intro fuel
 induction fuel with
 |zero=>
  intro listed a w hls U T hlo hDp hI;exfalso;have H:=count_eq_zero.1 U;have hjj:p<listed.size:=by omega
  have:listed[p]=false:=by simp_all
  exact H (by grind)
 |succ fuel u=>
  intro listed a w hls U T hlo hDp hI;refine⟨λhr=>(by grind),λi hi=>?_⟩;rw[mem_ready]at hi;obtain⟨hun,o,O,A⟩:=hi;have hilt:=(Array.getElem?_eq_some_iff.1 O).1;have hil:i<listed.size:=by omega
  have Y4:listed.getD i false=false:=by grind
  have m:∀j,j<ops.size->listed.getD j false=true->∀k,R k j->listed.getD k false=true:=by
   intro j
   induction j using Nat.strongRecOn with
   |_ j ihj=>grind
  have v:∀k,R k i->listed.getD k false=true:=by grind
  by_cases hip:i=p
  .subst hip;refine aad _ _ (λt B=>xX (D:=λj=>listed.getD j false) hR m hilt Y4 v (.inl B)) (funext λo=>?_) a w _ hI;refine Ab _ (λj hj hjo=>?_);obtain⟨H,h2⟩:=ac5 j hj (ne_nil_of_mem hjo);rw[v j H];simp[h2]
  have hRp:¬R p i:=λh=>by grind
  refine hstep i _ _ (Nat.le_of_not_lt λh=>by grind) hilt hip hRp (λt B=>xX (D:=λj=>listed.getD j false) hR m hilt Y4 v B) (λq X=>DO (D:=λj=>listed.getD j false) hR m hilt Y4 v X) a w _ hI (λb w' zw=>?_);have hset:∀j,(listed.setIfInBounds i true).getD j false=(listed.getD j false||j==i):=by
   intro j;by_cases hj:j=i
   .simp_all
   .rw [getD_set_ne false (λe=>hj e.symm)];simp[hj]
  refine u (listed.setIfInBounds i true) b w' (by grind) ?_ ?_ (λj hj=>by grind) (by grind) ?_
  .have Z:listed.toList[i]? = some false:=by
    simp[hil]at hun;simp[hil,hun]
   have:=count_set Z;rw[Array.toList_setIfInBounds];omega
  .grind
  .have x:=funext hset;rw[x,MJ hR m hilt Y4];exact zw
end
section
variable{m:M}{aJ:Nat}{y:LV}{e:fN}
section
variable {P:Program} {G:tY} {get get':Nat->LV} {obj obj':Nat->bK} {base:Nat}
def bF.dA{x:bF}(h:∀t∈x.tmps,get' t=get t):x.ev G get'=x.ev G get:=by
 cases x with
 |t n=>exact h n (by simp[bF.tmps])
 |_=>rfl
def pW:∀{xs:List bF},(∀t∈xs.flatMap bF.tmps,get' t=get t)->xs.map (·.ev G get')=xs.map (·.ev G get)
 |[],_=>rfl
 |x::xs,h=>by simp only[flatMap_cons,mem_append]at h;simp only[map_cons];rw[bF.dA (λt B=>h t (.inl B)),pW (λt B=>h t (.inr B))]
def zB:∀{parts:List (Nat×Nat×bF)} {cells:List LV},(∀t∈parts.flatMap (λp=>p.2.2.tmps),get' t=get t)->uk G get' cells parts=uk G get cells parts
 |[],_,_=>rfl
 |(off,size,x)::o,cells,h=>by
  simp only[flatMap_cons,mem_append]at h;simp only[uk];rw[bF.dA (λt B=>h t (.inl B))];cases(x.ev G get).cells with
  |none=>rfl
  |some cs=>
   dsimp only;split
   .exact zB (λt B=>h t (.inr B))
   .rfl
def zJ{aJ:Nat} : ∀{xs:List bF},(∀t∈xs.flatMap bF.tmps,get' t=get t)->xy G get' aJ xs=xy G get aJ xs
 |[],_=>rfl
 |x::xs,h=>by simp only[flatMap_cons,mem_append]at h;simp only[xy];rw[bF.dA (λt B=>h t (.inl B)),zJ (λt B=>h t (.inr B))]
def vS{aJ:Nat} : ∀{xs:List bF},(∀t∈xs.flatMap bF.tmps,get' t=get t)->rowsOf G get' aJ xs=rowsOf G get aJ xs
 |[],_=>rfl
 |x::xs,h=>by simp only[flatMap_cons,mem_append]at h;simp only[rowsOf];rw[bF.dA (λt B=>h t (.inl B)),vS (λt B=>h t (.inr B))]
def HU:∀{xs:List bF},(∀t∈xs.flatMap bF.tmps,get' t=get t)->Bw G get' xs=Bw G get xs
 |[],_=>rfl
 |[x],h=>by simp only[flatMap_cons,mem_append]at h;simp only[Bw];rw[bF.dA (λt B=>h t (.inl B))]
 |_::_::_,_=>rfl
def kU:∀{o:Option bF},(∀t∈bF.ze o,get' t=get t)->o.map (·.ev G get')=o.map (·.ev G get)
 |none,_=>rfl
 |some x,h=>by simp only[Option.map_some];rw[bF.dA h]
def Uz(h:∀t∈m.tmps,get' t=get t):fS G get' obj base m=fS G get obj base m:=by
 cases m<;>simp only[M.tmps,mem_append]at h<;>simp only[fS]<;>first
  |(rw[bF.dA h];done)
  |(rw[bF.dA (λt B=>h t (.inl B)),bF.dA (λt B=>h t (.inr B))];done)
  |(rw[bF.dA (λt B=>h t (.inl (.inl B))),kU (λt B=>h t (.inl (.inr B))),kU (λt B=>h t (.inr B))];done)
  |(rw[bF.dA (λt B=>h t (.inl (.inl B))),bF.dA (λt B=>h t (.inl (.inr B))),bF.dA (λt B=>h t (.inr B))];done)
def UB{i:I}(h:∀t∈i.tmps,get' t=get t):de G get' obj base i=de G get obj base i:=by
 cases i<;>simp only[I.tmps,mem_append]at h<;>simp only[de]<;>first
  |rfl
  |exact Uz h
  |(rw[bF.dA h];done)
  |(rw[bF.dA (λt B=>h t (.inl B)),bF.dA (λt B=>h t (.inr B))];done)
  |(rw[bF.dA (λt B=>h t (.inl (.inl B))),bF.dA (λt B=>h t (.inl (.inr B))),bF.dA (λt B=>h t (.inr B))];done)
  |(rw[zB h];done)
  |(rw[vS h,zJ h,HU h];done)
  |(rw[pW (λt B=>h t (.inl B)),pW (λt B=>h t (.inr B))];done)
  |(rw[bF.dA (λt B=>h t (.inl (.inl (.inl B)))),kU (λt B=>h t (.inl (.inl (.inr B)))),kU (λt B=>h t (.inl (.inr B))),kU (λt B=>h t (.inr B))];done)
  |(rw[bF.dA (λt B=>h t (.inl (.inl B))),kU (λt B=>h t (.inl (.inr B))),kU (λt B=>h t (.inr B))];done)
theorem lM{new:List (List DV)}{rd:List Nat}(h:bg obj aJ y=some (new,rd))(O:∀o∈rd,obj' o=obj o):bg obj' aJ y=some (new,rd):=by
 cases y with
 |sl o n e lo len=>
  simp only[bg]at h ⊢;have:rd=[o]:=by grind
  subst this;rw[O o (by simp)];exact h
 |d x=>
  have:bg obj' aJ (.d x)=bg obj aJ (.d x):=by
   cases x with
   |val v=>
    cases v with
    |slice a n c=>cases a<;>cases n<;>cases c<;>rfl
    |_=>rfl
   |_=>rfl
  rw[this];exact h
 |_=>exact h
theorem Uy(h:fS G get obj base m=some e)(O:∀o∈e.rd,obj' o=obj o):fS G get obj' base m=some e:=by
 cases m with
 |sla n x lo hi=>
  simp only[fS]at h ⊢;cases Z:x.ev G get with
  |ptr o col=>grind
  |_=>grind
 |cpy x y=>
  simp only[fS]at h ⊢;cases hs:bg obj 1 (y.ev G get)with
  |none=>grind
  |some p=>
   obtain⟨new,rd⟩:=p;rw[hs]at h;dsimp only at h;split at h
   .rename_i o lo len Z;have K:e.rd=o::rd:=by grind
    rw[lM hs (λq X=>O q (by grind))];dsimp only;rw[O o (by simp[K])];exact h
   .rename_i o n lo len b Z;have K:e.rd=o::rd:=by grind
    rw[lM hs (λq X=>O q (by grind))];cases n with
    |zero=>grind
    |succ n=>grind
   .cases h
 |stk=>cases h
 |cpl x=>exact h
 |clr aJ z x=>
  simp only[fS]at h ⊢;cases Z:x.ev G get with
  |sl o n r lo len=>grind
  |d v=>grind
  |_=>grind
 |atl x=>
  simp only[fS]at h ⊢;cases Z:x.ev G get with
  |ptr o col=>grind
  |_=>grind
 |ata x y=>
  simp only[fS]at h ⊢;split at h
  .grind
  .cases h
 |mkm=>exact h
 |mup x k y=>
  simp only[fS]at h ⊢;split at h
  .grind
  .cases h
 |mlk z ok x k=>
  simp only[fS]at h ⊢;split at h
  .grind
  .cases h
 |CX et aJ bytes z n=>exact h
 |s2b x=>exact h
 |b2s x=>
  simp only[fS]at h ⊢;split at h
  .cases h
  .rename_i c;cases hs:bg obj 1 (x.ev G get)with
   |none=>grind
   |some p=>
    obtain⟨rows,rd⟩:=p;rw[hs]at h;dsimp only at h;have K:e.rd=rd:=by grind
    rw[lM hs (λq X=>O q (by grind))];dsimp only;rw[<- h];try (split<;>first|rfl|(rename_i s Z;exact absurd Z (c s)))
theorem LK{x:LV}{o:Nat}{ob:ah}{d:DV}(h:sO obj x=some (o,ob,d))(O:obj' o=obj o):sO obj' x=some (o,ob,d):=by
 unfold sO at h ⊢;split at h
 .grind
 .cases h
def R3{m s:Nat}{new:List LV}(h:A0 obj aJ y=some (new,m,s))(O:obj' s=obj s):A0 obj' aJ y=some (new,m,s)/\bg obj' aJ y=none:=by
 unfold A0 at h;split at h
 .rename_i o n e lo len;split at h
  .rename_i et A v cells K;split at h
   .rename_i U;cases h;rw[K]at O;simp only[A0,bg,O];rw[if_pos U];exact⟨rfl,trivial⟩
   .cases h
  .cases h
 .cases h
theorem UA{i:I}(h:de G get obj base i=some e)(O:∀o∈e.rd,obj' o=obj o):de G get obj' base i=some e:=by
 cases i with
 |Y9 et aJ parts=>
  simp only[de]at h ⊢;cases hr:rowsOf G get aJ parts with
  |some rows=>grind
  |none=>
   rw[hr]at h;dsimp only at h ⊢;cases Z:Bw G get parts with
   |none=>grind
   |some x=>
    rw[Z]at h;dsimp only at h ⊢;split at h
    .rename_i H;rw[if_pos H];split at h
     .rename_i o ob d V;cases h;rw[LK V (O o (by simp))]
     .cases h
    .cases h
 |ld1 x=>
  simp only[de]at h ⊢;cases Z:x.ev G get with
  |ptr o col=>grind
  |rp o n aJ row col=>
   rw[Z]at h;dsimp only at h ⊢;have:e.rd=[o]:=by grind
   rw[O o (by simp[this])];exact h
  |_=>grind
 |Es size x=>
  simp only[de]at h ⊢;cases Z:x.ev G get with
  |ptr o col=>grind
  |rp o n aJ row col=>grind
  |_=>grind
 |st size x y=>
  simp only[de]at h ⊢;cases B:(y.ev G get).cells with
  |none=>grind
  |some cs=>
   rw[B]at h;dsimp only at h ⊢;split at h
   .rename_i k;rw[if_pos k];cases Z:x.ev G get with
    |ptr o col=>grind
    |rp o n aJ row col=>
     rw[Z]at h;dsimp only at h ⊢;have:e.rd=[o]:=by grind
     rw[O o (by simp[this])];exact h
    |_=>grind
   .cases h
 |BU aJ x j=>
  simp only[de]at h ⊢;split at h
  .grind
  .cases h
 |app et aJ bytes x y=>
  simp only[de]at h ⊢;cases hs:bg obj aJ (y.ev G get)with
  |none=>
   rw[hs]at h;dsimp only at h;unfold Jw at h;cases b:A0 obj aJ (y.ev G get)with
   |none=>rw[b]at h;cases h
   |some p=>
    obtain⟨new,m,s⟩:=p;rw[b]at h;dsimp only at h;have c:s∈e.rd:=by(repeat' split at h)<;>(try (cases h;done))<;>cases h<;>simp
    obtain⟨k1,k2⟩:=R3 b (O s c);rw[k2];dsimp only;unfold Jw;rw[k1];dsimp only;cases Z:x.ev G get with
    |sl o n A lo len=>
     rw[Z]at h;dsimp only at h ⊢;have:o∈e.rd:=by(repeat' split at h)<;>(try (cases h;done))<;>cases h<;>simp
     rw[O o this];exact h
    |d z=>
     rw[Z]at h;cases z with
     |val v=>grind
     |_=>exact h
    |_=>rw[Z]at h;exact h
  |some p=>
   obtain⟨new,rd⟩:=p;rw[hs]at h;dsimp only at h;cases Z:x.ev G get with
   |sl o n A lo len=>
    rw[Z]at h;dsimp only at h;have K:e.rd=o::rd:=by grind
    rw[lM hs (λq X=>O q (by grind))];dsimp only;rw[O o (by simp[K])];exact h
   |d z=>
    have r:e.rd=rd:=by grind
    have c:bg obj' aJ (y.ev G get)=some (new,rd):=lM hs (by grind);rw[c];dsimp only;rw[<- h,Z];cases z with
    |val v=>grind
    |_=>rfl
   |_=>grind
 |more m=>exact Uy h O
 |_=>exact h
mutual
def Ju{ρ Z:List Nat}(S:∀z∈Z,obj' z=obj z):∀(x y:LV),aB obj ρ Z x y->aB obj' ρ Z x y:=by
 intro x y h;cases x with
 |sl o n e l k=>
  cases y with
  |d y=>
   cases y with
   |cM A rs=>
    simp only[aB]at h ⊢;refine⟨h.1,?_⟩;have h2:=h.2;have m:o∈Z:=by
     unfold bz at h2;split at h2
     .exact h2.1
     .exact h2.1
     .exact h2.1
     .exact h2.1
     .exact h2.elim
    unfold bz at h2 ⊢;rw[S o m];exact h2
   |_=>simp[aB]at h
  |top=>simp[aB]
  |sl _ _ _ _ _=>simp only[aB]at h ⊢;exact h
  |_=>simp[aB]at h
 |agg xs=>
  cases y with
  |agg ys=>simp only[aB]at h ⊢;exact Nj S xs ys h
  |top=>simp[aB]
  |_=>simp[aB]at h
 |cZ xs=>
  cases y with
  |cZ ys=>simp only[aB]at h ⊢;exact Nj S xs ys h
  |top=>simp[aB]
  |_=>simp[aB]at h
 |fn f a b=>
  cases y with
  |fn O B u=>simp only[aB]at h ⊢;exact⟨h.1,Nj S a B h.2.1,Nj S b u h.2.2⟩
  |top=>simp[aB]
  |_=>simp[aB]at h
 |gR t x=>
  cases y with
  |gR t' y=>simp only[aB]at h ⊢;exact⟨h.1,Ju S x y h.2⟩
  |top=>simp[aB]
  |_=>simp[aB]at h
 |d x=>
  cases y with
  |d y=>simp only[aB]at h ⊢;exact h
  |top=>simp[aB]
  |fn O B u=>cases x<;>first|(simp only[aB]at h ⊢;exact h)|(simp[aB]at h)
  |_=>cases x<;>simp[aB]at h
 |yl o=>cases y<;>first|(simp only[aB]at h ⊢;exact h)|(simp[aB]at h ⊢)
 |mr o=>cases y<;>first|(simp only[aB]at h ⊢;exact h)|(simp[aB]at h ⊢)
 |ptr o c=>cases y<;>first|(simp only[aB]at h ⊢;exact h)|(simp[aB]at h ⊢)
 |rp o n e r c=>cases y<;>first|(simp only[aB]at h ⊢;exact h)|(simp[aB]at h ⊢)
 |ip r c=>cases y<;>first|(simp only[aB]at h ⊢;exact h)|(simp[aB]at h ⊢)
 |top=>cases y<;>first|(simp only[aB]at h ⊢;exact h)|(simp[aB]at h ⊢)
 |ec=>cases y<;>first|(simp only[aB]at h ⊢;done)|(simp only[aB]at h ⊢;exact h)|(simp[aB]at h ⊢)
def Nj{ρ Z:List Nat}(S:∀z∈Z,obj' z=obj z):∀(xs ys:List LV),ay obj ρ Z xs ys->ay obj' ρ Z xs ys
 |[],[],_=>by simp[ay]
 |x::xs,y::ys,h=>by simp only[ay]at h ⊢;exact⟨Ju S x y h.1,Nj S xs ys h.2⟩
 |[],_::_,h=>by simp[ay]at h
 |_::_,[],h=>by simp[ay]at h
end
def uZ:∀{Z:List Nat},(∀z∈Z,obj' z=obj z)->fA obj' Z=fA obj Z
 |[],_=>rfl
 |z::Z,h=>by simp only[fA];rw[h z (by simp),uZ (λy B=>h y (by simp[B]))]
theorem nY.local{i:I}(h:nY P G get obj base i e)(u:∀t∈i.tmps,get' t=get t)(O:∀o∈e.rd,obj' o=obj o):nY P G get' obj' base i e:=by
 by_cases hi:∃f args,i=.call f args
 .obtain ⟨f,args,rfl⟩:=hi;simp only[I.tmps,mem_append]at u;simp only[nY]at h ⊢;rw[bF.dA (λt B=>u t (.inl B)),pW (λt B=>u t (.inr B))];split at h
  .rename_i k fs cs U;obtain⟨ρ,Z,tmp,aK,ai,r,aj,keep,V,T,A,v,y,K,hid,c,b,q,H,rfl⟩:=h.ex;simp only[mem_append]at O;have S:∀z∈Z,obj' z=obj z:=λz A=>O z (.inr A)
   refine⟨⟨ρ,Z,tmp,aK,ai,r,aj,keep,V,T,A,λz A=>by simp_all,y,λi o m=>?_,hid,Nj S _ _ c,b,q,H,by rw[uZ S]⟩⟩;obtain⟨ob,k1,k2⟩:=K i o m;exact⟨ob,k1,by grind⟩
  .exact h.elim
 .have x:∀get obj,nY P G get obj base i e=(de G get obj base i=some e):=λget obj=>by
   cases i<;>first|rfl|(exfalso;exact hi ⟨_,_,rfl⟩)
  rw[x]at h ⊢;rw[UB u];exact UA h O
theorem fE.local{f:Nat}{args b:List LV}{p:Value}(h:fE P G f args obj base p e)(B:b=args)(O:∀o∈e.rd,obj' o=obj o):fE P G f b obj' base p e:=by
 subst B;obtain⟨ρ,Z,aK,ai,aj,T,A,v,y,K,hid,c,q,H,rfl⟩:=h.ex;simp only[mem_append]at O;have S:∀z∈Z,obj' z=obj z:=λz A=>O z (.inr A)
 refine⟨⟨ρ,Z,aK,ai,aj,T,A,λz A=>by grind,y,λi o m=>?_,hid,Nj S _ _ c,q,H,by rw[uZ S]⟩⟩;obtain⟨ob,k1,k2⟩:=K i o m;exact⟨ob,k1,by grind⟩
end
end
section
variable{o:Oper}{a:Act}{w:World}{K:Act->World->Prop}
structure iI where
 pre:List Nat
 rd:List Nat
 wr:List Nat
def er.tr(o:er):List Nat:=o.op.tmps++(match o.guard with|some (g,_)=>[g]|none=>[])
def CW:Nat->List ah->List (Nat×ah)
 |_,[]=>[]
 |k,ob::r=>(k,ob)::CW (k+1) r
def wo:∀(l:List ah) (k:Nat) (obj:Nat->bK),rA k l obj=cG (CW k l) obj
 |[],_,_=>rfl
 |ob::r,k,obj=>by simp only[rA,CW,cG,wo r]
theorem M3:∀(l:List ah) (k j:Nat),j<l.length->k+j∈(CW k l).map (·.1)
 |[],_,_,h=>by simp at h
 |ob::r,k,0,_=>by simp[CW]
 |ob::r,k,j+1,h=>by have:=M3 r (k+1) j (by grind);right;rw[show k+(j+1)=k+1+j by omega];exact this
def fN.owned(base:Nat)(e:fN):List (Nat×ah):=CW base e.nw++e.wr
section
variable (P:Program) (G:tY)
abbrev YO:=List LV->List (Option ah)->LV->(LV->Bool->List (Option ah)->Prop)->Prop
def uP:YO:=λ_ _ _ _=>False
def vcY(Y:YO)(fv:LV)(as:List LV)(dst:Option Nat)(s:St)(K:St->Prop):Prop:=match fv with
 |.yl m=>Y (.yl m::as) s.af (s.get YS) (λys b aC=>K ⟨di dst (.bool b) ((YS,ys)::s.env),aC⟩)
 |_=>False
def G6(Y:YO)(X:Value->fN->St->Prop)(o:er)(s:St)(K:St->fN->Prop):Prop:=
 match o.op with
 |.call f args=>match callee (f.ev G s.get)with
  |some (k,fs,cs)=>(∃e,bZ P G k (fs++args.map (·.ev G s.get)++cs) s.obj s.af.length e/\K (s.app o.dst e) e)\/
   (∃p e,fE P G k (fs++args.map (·.ev G s.get)++cs) s.obj s.af.length p e/\X p e (s.app none e))
  |none=>vcY Y (f.ev G s.get) (args.map (·.ev G s.get)) o.dst s (λA=>K A { r:=.top })
 |i=>match de G s.get s.obj s.af.length i with
  |some e=>K (s.app o.dst e) e
  |none=>False
def Fw(Y:YO)(X:Value->fN->St->Prop)(o:er)(s:St)(K:St->fN->Prop)(c:St->Prop):Prop:=
 match o.guard with
 |none=>G6 P G Y X o s K
 |some (g,T)=>match s.get g with
  |.d (.val (.bool b))=>if b=T then G6 P G Y X o s K else c (s.put o.dst .undef)
  |.d (.val (.tuple _))=>c (s.put o.dst .undef)
  |_=>False
def mY(Y:YO)(X:Value->St->Prop):List er->St->(St->Prop)->Prop
 |[],s,K=>K s
 |o::os,s,K=>Fw P G Y (λp _ A=>X p A) o s (λA _=>mY Y X os A K) (λA=>mY Y X os A K)
def Cz(x y:iI):Bool:=x.wr.any (λo=>y.rd.contains o||y.wr.contains o)||y.wr.any (λo=>x.rd.contains o)
def indep(log:List iI):Bool:=
 (log.all λe=>e.wr.isEmpty)||(List.range log.length).all λj=>match log[j]? with
  |none=>true
  |some y=>(List.range j).all λi=>match log[i]? with
   |none=>true
   |some x=>y.pre.contains i||!Cz x y
def HP(log:List iI)(p:Nat)(pre:List Nat):Bool:=
 (pre.all λi=>decide (i<p))&&(List.range log.length).all λi=>pre.contains i||(match log[i]? with|some x=>x.wr.isEmpty|none=>true)
def rL(p:Nat)(pre:List Nat):List er->St->List iI->Prop
 |[],_,log=>indep log=true/\HP log p pre=true
 |o::os,s,log=>if o.pre.contains p=true then rL p pre os (s.put o.dst .top) (log++[⟨o.pre,[],[]⟩])
  else Fw P G uP (λ_ _ _=>False) o s (λA e=>rL p pre os A (log++[⟨o.pre,e.rd,(e.owned s.af.length).map (·.1)⟩])) (λA=>rL p pre os A (log++[⟨o.pre,[],[]⟩]))
def gD(X:Value->St->Prop):List er->St->List iI->(St->List iI->Prop)->Prop
 |[],s,log,K=>K s log
 |o::os,s,log,K=>Fw P G uP (λp e A=>X p ⟨[],A.af⟩/\rL P G log.length o.pre os (s.put o.dst .top) (log++[⟨o.pre,e.rd,[]⟩])) o s
   (λA e=>gD X os A (log++[⟨o.pre,e.rd,(e.owned s.af.length).map (·.1)⟩]) K) (λA=>gD X os A (log++[⟨o.pre,[],[]⟩]) K)
end
theorem B4{log:List iI}(h:indep log=true){i j:Nat}{x y:iI}(hi:log[i]? = some x)(hj:log[j]? = some y)(q:i<j)(U:Cz x y=true):i∈y.pre:=by
 unfold indep at h;rw[or_eq_true]at h;rcases h with h|h
 .rw [all_eq_true]at h;have H:=h x (mem_of_getElem? hi);have h2:=h y (mem_of_getElem? hj);simp at H h2;simp[Cz,H,h2]at U
 .grind
def I8(N:Nat):Option Nat->Bool
 |none=>true
 |some d=>decide (d<N)
def xu(N:Nat)(ops:Array Oper):Option (Nat×Bool)->Option (Option (Nat×Bool))
 |none=>some none
 |some (j,T)=>match ops[j]? with
  |some b=>match b.dst with
   |some t=>if t<N then some (some (t,T))else none
   |none=>none
  |none=>none
def ic(P:Program)(N:Nat)(ops:Array Oper)(o:Oper)(pre:List Nat):Option er:=
 if I8 N o.dst then(match oH P o.op,xu N ops o.guard with
  |some i,some g=>some ⟨o.dst,i,g,pre⟩
  |_,_=>none)else none
def tF(P:Program)(N:Nat)(ops:Array Oper):List Oper->List (List Nat)->Option (List er)
 |[],_=>some []
 |o::os,ps=>match ic P N ops o (ps.headD []),tF P N ops os ps.tail with
  |some x,some xs=>some (x::xs)
  |_,_=>none
theorem oG{P:Program}{N:Nat}{ops:Array Oper} : ∀{os:List Oper} {ps:List (List Nat)} {gh:List er},tF P N ops os ps=some gh->gh.length=os.length/\∀(i:Nat) (o:Oper),os[i]? = some o->∃io,gh[i]? = some io/\ic P N ops o io.pre=some io
 |[],ps,gh,h=>by simp only[tF]at h;cases h;exact⟨rfl,λi o h=>by simp at h⟩
 |o::os,ps,gh,h=>by
  simp only[tF]at h;split at h
  .rename_i x xs H h2;cases h;obtain⟨k1,k2⟩:=oG h2;refine⟨by simp[k1],λi o' hi=>?_⟩;cases i with
   |zero=>
    simp at hi;subst hi;refine⟨x,by simp,?_⟩;have:x.pre=ps.headD []:=by
     unfold ic at H;split at H
     .grind
     .cases H
    rw[this];exact H
   |succ i=>grind
  .cases h
def direct(o:Oper):List Nat:=(o.after.toList.filter (Region.binds .any ·)).map (·.on)
def aaP(xs ys:List Nat):List Nat:=xs.foldl (λb x=>if b.contains x then b else b++[x]) ys
def ZL(ops:List Oper):List (List Nat):=
 ops.foldl (λb o=>b++[(direct o).foldl (λs k=>aaP (k::b.getD k []) s) []]) []
def L9(x y:er):Bool:=match x.dst with
 |some t=>y.tr.contains t||y.dst==some t
 |none=>false
def GC(x y:er):Bool:=match y.dst with
 |some t=>x.tr.contains t
 |none=>false
def SV(ops:List Oper)(gh:List er):Bool:=
 (List.range ops.length).all λj=>match ops[j]?,gh[j]? with
  |some o,some io=>((direct o).all λk=>decide (k<j))&&
   (io.pre.all λi=>decide (i<ops.length)&&(direct o).any λk=>k==i||(match gh[k]? with|some z=>z.pre.contains i|none=>false))&&
   ((List.range j).all λi=>match gh[i]? with|some x=>io.pre.contains i||!(L9 x io||GC x io)|none=>false)
  |_,_=>false
def qV(P:Program)(N:Nat)(ops:Array Oper)(e:Bool):Option (List er):=
 if e then(match tF P N ops ops.toList (ZL ops.toList)with
  |some gh=>if P.follows .mixedOrders&&SV ops.toList gh then some gh else none
  |none=>none)
 else tF P N ops ops.toList []
def eS(o:er)(s:St):Option Bool:=match o.guard with
 |none=>some true
 |some (g,T)=>match s.get g with
  |.d (.val (.bool b))=>some (b==T)
  |.d (.val (.tuple _))=>some false
  |_=>none
def um(o:er)(base:Nat)(e:fN):ta:={ tr:=o.tr,td:=o.dst,r:=e.r,rd:=e.rd,ow:=e.owned base }
def w8(o:er):ta:={ tr:=o.tr,td:=o.dst,r:=.undef,rd:=[],ow:=[] }
def uu(P:Program)(G:tY)(o:er)(s:St)(ev:ta)(A:St):Prop:=
 (eS o s=some true/\∃e,nY P G s.get s.obj s.af.length o.op e/\ev=um o s.af.length e/\A=s.app o.dst e)\/
 (eS o s=some false/\ev=w8 o/\A=s.put o.dst .undef)
section
variable {P:Program} {G:tY}
def JL(P:Program)(G:tY)(o:er)(s:St)(p:Value)(e:fN):Prop:=
 eS o s=some true/\∃f args k fs cs,o.op=.call f args/\callee (f.ev G s.get)=some (k,fs,cs)/\fE P G k (fs++args.map (·.ev G s.get)++cs) s.obj s.af.length p e
def YAt(G:tY)(Y:YO)(o:er)(s:St)(K:St->Prop):Prop:=
 eS o s=some true/\∃f args m,o.op=.call f args/\f.ev G s.get=.yl m/\Y (.yl m::args.map (·.ev G s.get)) s.af (s.get YS) (λys b aC=>K ⟨di o.dst (.bool b) ((YS,ys)::s.env),aC⟩)
theorem Vv{Y:YO}{X:Value->fN->St->Prop}{o:er}{s:St}{K:St->fN->Prop}(h:G6 P G Y X o s K):(∃e,nY P G s.get s.obj s.af.length o.op e/\K (s.app o.dst e) e)\/
  (∃p e,(∃f args k fs cs,o.op=.call f args/\callee (f.ev G s.get)=some (k,fs,cs)/\fE P G k (fs++args.map (·.ev G s.get)++cs) s.obj s.af.length p e)/\X p e (s.app none e))\/
  (∃f args m,o.op=.call f args/\f.ev G s.get=.yl m/\Y (.yl m::args.map (·.ev G s.get)) s.af (s.get YS) (λys b aC=>K ⟨di o.dst (.bool b) ((YS,ys)::s.env),aC⟩ { r:=.top })):=by
 unfold G6 at h;split at h
 .rename_i f args u;split at h
  .rename_i k fs cs U;rcases h with ⟨e,H,h2⟩|⟨p,e,H,h2⟩
   .refine .inl ⟨e,?_,h2⟩;rw[u];simp only[nY,U];exact H
   .grind
  .unfold vcY at h;split at h
   .grind
   .grind
 .rename_i i q;split at h
  .rename_i e c;refine .inl ⟨e,?_,h⟩;revert q c;cases o.op<;>intro q c<;>first|exact c|(exfalso;exact q _ _ rfl)
  .grind
theorem DH{Y:YO}{X:Value->fN->St->Prop}{o:er}{s:St}{K:St->fN->Prop}{c:St->Prop}(h:Fw P G Y X o s K c) :
  (eS o s=some true/\∃e,nY P G s.get s.obj s.af.length o.op e/\K (s.app o.dst e) e)\/(eS o s=some false/\c (s.put o.dst .undef))\/(∃p e,JL P G o s p e/\X p e (s.app none e))\/YAt G Y o s (λA=>K A { r:=.top }):=by
 have key:∀{s:St},eS o s=some true->G6 P G Y X o s K->(eS o s=some true/\∃e,nY P G s.get s.obj s.af.length o.op e/\K (s.app o.dst e) e)\/(eS o s=some false/\c (s.put o.dst .undef))\/(∃p e,JL P G o s p e/\X p e (s.app none e))\/YAt G Y o s (λA=>K A { r:=.top }):=λy h=>by
  rcases Vv h with h|⟨p,e,H,h2⟩|h
  .grind
  .exact .inr (.inr (.inl ⟨p,e,⟨y,H⟩,h2⟩))
  .exact .inr (.inr (.inr ⟨y,h⟩))
 unfold Fw at h;split at h
 .rename_i u;exact key (by unfold eS;rw[u]) h
 .rename_i g T u;split at h
  .rename_i b V;by_cases k:b=T
   .rw [if_pos k]at h;exact key (by unfold eS;rw[u];simp[V,k]) h
   .rw [if_neg k]at h;exact .inr (.inl ⟨by unfold eS;rw[u];simp[V,k],h⟩)
  .rename_i v V;exact .inr (.inl ⟨by unfold eS;rw[u];simp[V],h⟩)
  .grind
theorem G3{X:Value->fN->St->Prop}{o:er}{s:St}{K:St->fN->Prop}{c:St->Prop}(h:Fw P G uP X o s K c) :
  (eS o s=some true/\∃e,nY P G s.get s.obj s.af.length o.op e/\K (s.app o.dst e) e)\/(eS o s=some false/\c (s.put o.dst .undef))\/(∃p e,JL P G o s p e/\X p e (s.app none e)):=by
 rcases DH h with h|h|h|⟨_,f,args,m,_,_,h⟩
 .grind
 .grind
 .grind
 .exact h.elim
def St.XC(s:St)(dst:Option Nat)(e:fN):(s.app dst e).get=iq dst e.r s.get:=Ce dst e.r s.env
def St.Gr(s:St)(dst:Option Nat)(r:LV):(s.put dst r).get=iq dst r s.get:=Ce dst r s.env
def St.Wr{s:St}{o:er}{e:fN}(h:nY P G s.get s.obj s.af.length o.op e):(s.app o.dst e).obj=cG (e.owned s.af.length) s.obj:=by
 have y:∀p∈e.wr,p.1<s.af.length:=λp S=>by obtain⟨ob,K⟩:=h.vE p S;exact JO K
 funext q;show an (CY e.wr s.af++e.nw.map some) q=_;rw[Ay s.af e y];simp only[bB,fN.owned,jJ,wo];rfl
def uu.next{o:er}{s A:St}{ev:ta}(h:uu P G o s ev A):A.get=iq ev.td ev.r s.get/\A.obj=cG ev.ow s.obj:=by
 rcases h with ⟨_,e,c,rfl,rfl⟩|⟨_,rfl,rfl⟩
 .exact ⟨St.XC ..,St.Wr c⟩
 .exact ⟨St.Gr ..,rfl⟩
def Nu(o:er):ta:={ tr:=o.tr,td:=o.dst,r:=.top,rd:=[],ow:=[] }
def LR(o:er)(e:fN):ta:={ tr:=o.tr,td:=o.dst,r:=.top,rd:=e.rd,ow:=[] }
def JK(P:Program)(G:tY)(p:Nat)(o:er)(s:St)(ev:ta)(A:St):Prop:=
 (p∈o.pre/\ev=Nu o/\A=s.put o.dst .top)\/(p∉o.pre/\uu P G o s ev A)
def JK.next{p:Nat}{o:er}{s A:St}{ev:ta}(h:JK P G p o s ev A):A.get=iq ev.td ev.r s.get/\A.obj=cG ev.ow s.obj:=by
 rcases h with ⟨_,rfl,rfl⟩|⟨_,h⟩
 .exact ⟨St.Gr ..,rfl⟩
 .exact h.next
def acN(P:Program)(G:tY)(p:Nat)(pre:List Nat)(os:List er)(s:St)(log:List iI):Prop:=
 ∃(k:Nat->St) (es:Nat->ta) (b:List iI),k 0=s/\(∀(i:Nat) (o:er),os[i]? = some o->JK P G p o (k i) (es i) (k (i+1)))/\(indep b=true/\HP b p pre=true)/\
  b.length=log.length+os.length/\(∀(i:Nat) (o:er),os[i]? = some o->b[log.length+i]? = some ⟨o.pre,(es i).rd,(es i).wr⟩)/\(∀i,i<log.length->b[i]? = log[i]?)
theorem DG{p:Nat}{pre:List Nat} : ∀(os:List er) (s:St) (log:List iI),rL P G p pre os s log->acN P G p pre os s log
 |[],s,log,h=>⟨λ_=>s,λ_=>w8 ⟨none,.mv (.t 0),none,[]⟩,log,rfl,λi o hi=>by simp at hi,h,by simp,λi o hi=>by simp at hi,λ_ _=>rfl⟩
 |o::os,s,log,h=>by
  have cons:∀(s1:St) (ev:ta),JK P G p o s ev s1->rL P G p pre os s1 (log++[⟨o.pre,ev.rd,ev.wr⟩])->acN P G p pre (o::os) s log:=λs1 ev x hk=>by
   obtain⟨k,es,b,h0,hs,A,hlen,q,m⟩:=DG os _ _ hk;refine⟨λi=>match i with|0=>s|i+1=>k i,λi=>match i with|0=>ev|i+1=>es i,b,rfl,λi o' hi=>?_,A,?_,λi o' hi=>?_,λi hi=>?_⟩
   .grind
   .grind
   .grind
   .grind
  simp only[rL]at h;split at h
  .rename_i S;exact cons _ (Nu o) (.inl ⟨by grind,rfl,rfl⟩) h
  .rename_i S;have S:p∉o.pre:=by grind
   rcases G3 h with ⟨y,e,c,hk⟩|⟨y,hk⟩|⟨_,_,_,hk⟩
   .exact cons _ (um o s.af.length e) (.inr ⟨S,.inl ⟨y,e,c,rfl,rfl⟩⟩) hk
   .exact cons _ (w8 o) (.inr ⟨S,.inr ⟨y,rfl,rfl⟩⟩) hk
   .grind
def ru(P:Program)(G:tY)(X:Value->St->Prop)(p i:Nat)(o:er)(s:St)(ev:ta)(A:St):Prop:=
 if i<p then uu P G o s ev A else if i=p then(∃v e,JL P G o s v e/\X v ⟨[],(s.app none e).af⟩/\ev=LR o e/\A=s.put o.dst .top)else JK P G p o s ev A
def ru.next{X:Value->St->Prop}{p i:Nat}{o:er}{s A:St}{ev:ta}(h:ru P G X p i o s ev A):A.get=iq ev.td ev.r s.get/\A.obj=cG ev.ow s.obj:=by
 unfold ru at h;split at h
 .exact h.next
 .split at h
  .obtain ⟨_,_,_,_,rfl,rfl⟩:=h;exact⟨St.Gr ..,rfl⟩
  .exact h.next
def ru.tr{X:Value->St->Prop}{p i:Nat}{o:er}{s A:St}{ev:ta}(h:ru P G X p i o s ev A):ev.tr=o.tr/\ev.td=o.dst:=by
 have hR:∀{ev:ta},uu P G o s ev A->ev.tr=o.tr/\ev.td=o.dst:=λh=>by rcases h with ⟨_,e,_,H,_⟩|⟨_,H,_⟩<;>rw[H]<;>exact⟨rfl,rfl⟩
 unfold ru at h;split at h
 .exact hR h
 .split at h
  .obtain ⟨_,_,_,_,rfl,rfl⟩:=h;exact⟨rfl,rfl⟩
  .rcases h with ⟨_,rfl,_⟩|⟨_,h⟩
   .exact ⟨rfl,rfl⟩
   .exact hR h
def acM(P:Program)(G:tY)(K:St->List iI->Prop)(os:List er)(s:St)(log:List iI):Prop:=
 ∃(k:Nat->St) (es:Nat->ta) (b:List iI),k 0=s/\(∀(i:Nat) (o:er),os[i]? = some o->uu P G o (k i) (es i) (k (i+1)))/\K (k os.length) b/\
  b.length=log.length+os.length/\(∀(i:Nat) (o:er),os[i]? = some o->b[log.length+i]? = some ⟨o.pre,(es i).rd,(es i).wr⟩)/\(∀i,i<log.length->b[i]? = log[i]?)
def acL(P:Program)(G:tY)(X:Value->St->Prop)(os:List er)(s:St)(log:List iI):Prop:=
 ∃(p:Nat) (op:er) (k:Nat->St) (es:Nat->ta) (b:List iI),log.length<=p/\os[p-log.length]? = some op/\k 0=s/\(∀(i:Nat) (o:er),os[i]? = some o->ru P G X p (log.length+i) o (k i) (es i) (k (i+1)))/\(indep b=true/\HP b p op.pre=true)/\
  b.length=log.length+os.length/\(∀(i:Nat) (o:er),os[i]? = some o->b[log.length+i]? = some ⟨o.pre,(es i).rd,(es i).wr⟩)/\(∀i,i<log.length->b[i]? = log[i]?)
theorem AH{X:Value->St->Prop}{K:St->List iI->Prop} : ∀(os:List er) (s:St) (log:List iI),gD P G X os s log K->acM P G K os s log\/acL P G X os s log
 |[],s,log,h=>.inl ⟨λ_=>s,λ_=>w8 ⟨none,.mv (.t 0),none,[]⟩,log,rfl,λi o hi=>by simp at hi,h,by simp,λi o hi=>by simp at hi,λ_ _=>rfl⟩
 |o::os,s,log,h=>by
  have cons:∀(s1:St) (ev:ta),uu P G o s ev s1->gD P G X os s1 (log++[⟨o.pre,ev.rd,ev.wr⟩]) K->acM P G K (o::os) s log\/acL P G X (o::os) s log:=λs1 ev x hk=>by
   rcases AH os _ _ hk with ⟨k,es,b,h0,hs,A,hlen,q,m⟩|⟨p,op,k,es,b,B,u,h0,hs,A,hlen,q,m⟩
   .refine .inl ⟨λi=>match i with|0=>s|i+1=>k i,λi=>match i with|0=>ev|i+1=>es i,b,rfl,λi o' hi=>?_,A,?_,λi o' hi=>?_,λi hi=>?_⟩
    .grind
    .grind
    .grind
    .grind
   .simp at B u hs hlen q;refine .inr ⟨p,op,λi=>match i with|0=>s|i+1=>k i,λi=>match i with|0=>ev|i+1=>es i,b,by omega,?_,rfl,λi o' hi=>?_,A,?_,λi o' hi=>?_,λi hi=>?_⟩
    .grind
    .cases i with
     |zero=>simp at hi;subst hi;unfold ru;rw[if_pos (by omega)];rw[<- h0]at x;exact x
     |succ i=>grind
    .grind
    .grind
    .grind
  rcases G3 h with ⟨y,e,c,hk⟩|⟨y,hk⟩|⟨v,e,r,T,hk⟩
  .exact cons _ (um o s.af.length e) (.inl ⟨y,e,c,rfl,rfl⟩) hk
  .exact cons _ (w8 o) (.inr ⟨y,rfl,rfl⟩) hk
  .obtain ⟨k,es,b,h0,hs,A,hlen,q,m⟩:=DG os _ _ hk;simp at hs hlen q;refine .inr ⟨log.length,o,λi=>match i with|0=>s|i+1=>k i,λi=>match i with|0=>LR o e|i+1=>es i,b,Nat.le_refl _,by simp,rfl,λi o' hi=>?_,A,?_,λi o' hi=>?_,λi hi=>?_⟩
   .cases i with
    |zero=>simp at hi;subst hi;unfold ru;rw[if_neg (by omega),if_pos (by omega)];exact⟨v,e,r,T,rfl,h0⟩
    |succ i=>have:=hs i o' (by grind);unfold ru;rw[if_neg (by omega),if_neg (by omega)];exact this
   .grind
   .cases i with
    |zero=>simp at hi;subst hi;rw[Nat.add_zero,m _ (by simp)];simp[LR,ta.wr]
    |succ i=>grind
   .grind
end
structure At(G:tY)(D:Dk)(N:Nat)(aX:Nat->bK)(J0:Nat->Prop)(bR:fe)(w0:World)(get:Nat->LV)(obj:Nat->bK)(a:Act)(w:World):Prop where
 mk::
 ex:∃J ι,Sim G D N J w ι a get obj/\Ext aX obj J0 J bR ι w0 w
section
variable {P:Program} {G:tY} {D:Dk} {N:Nat} {aX:Nat->bK} {J0:Nat->Prop} {bR:fe} {w0:World} {ops:Array Oper} {Q:Exit->Act->World->Prop} {ro:Option Nat} {nn:Nat}
def xm{i:I}(h:oH P o.op=some i)(hs:i≠.more .stk)(c:Call):o.op≠.defer c:=by
 intro U;rw[U]at h;have:oH P (.defer c)=some (.more .stk):=by have H:Cu P (.defer c)=none:=rfl;simp only[oH,H,cV,jy]
 exact hs (Option.some.inj h).symm
def nY.aby{get:Nat->LV}{obj:Nat->bK}{base:Nat}{i:I}{e:fN}(h:nY P G get obj base i e):i≠.more .stk:=by rintro rfl;simp[nY,de,fS]at h
def At.drew{get:Nat->LV}{obj:Nat->bK}{n:Nat}(h:At G D N aX J0 bR w0 get obj a w):At G D N aX J0 bR w0 get obj a { w with drawn:=n }:=by obtain⟨J,ι,S,E⟩:=h.ex;have m:Ext obj obj J J ι ι w { w with drawn:=n }:=⟨⟨rfl,rfl,rfl,Nat.le_refl _,λ_ _ _=>rfl,λ_ _=>rfl,λ_ h=>h,λ_ h=>.inl h,λ_ _ _ h=>h⟩,λ_ h=>.inl h⟩;refine⟨J,ι,⟨⟨λo=>jI.keep S.store m.ev (λ_=>rfl) (λ_ _=>rfl),S.store.inj,S.store.pX,S.store.jcell,λg row u=>?_⟩,λt=>(S.env t).ev S.store m.ev,S.size,S.defers.keep (m.nc S.store),D.keep _ _ _ (m.nc S.store) S.ys,S.lim⟩,E.trans m⟩;obtain⟨H,h2,K⟩:=S.store.uV g row u;exact⟨H,h2.ev S.store m.ev H,K⟩
theorem FW{io:er}(U:ic P N ops o io.pre=some io){s:St}{ev:ta}{Z:St}(hst:uu P G io s ev Z){get:Nat->LV}{obj:Nat->bK}
  (hg:∀t,t∈ev.tr\/ev.td=some t->get t=s.get t) (O:∀q,q∈ev.rd\/q∈ev.wr->obj q=s.obj q) (u:At G D N aX J0 bR w0 get obj a w)
  (hK:∀k w',At G D N aX J0 bR w0 (iq ev.td ev.r get) (cG ev.ow obj) k w'->K k w') :
  if Region.wanted o (yielded ops a.tmps)then o.wpIn (fz ro) nn P a w K Q else(∀f,o.about P w a.eval=some f->(fz ro).fn f)/\K (a.put o.dst Go.undef) w:=by
 obtain⟨J,ι,S,E⟩:=u.ex;obtain⟨T0,i,g,hi,hgd,m⟩:I8 N o.dst=true/\∃i g,oH P o.op=some i/\xu N ops o.guard=some g/\io=⟨o.dst,i,g,io.pre⟩:=by
  unfold ic at U;split at U
  .grind
  .cases U
 have hdN:∀d,o.dst=some d->d<N:=λd hd=>by rw[hd]at T0;simpa[I8]using T0
 have Xp:io.dst=o.dst:=by rw[m]
 have Gp:io.op=i:=by rw[m]
 have Lw:io.guard=g:=by rw[m]
 have htr:ev.tr=io.tr:=by rcases hst with ⟨_,e,_,rfl,_⟩|⟨_,rfl,_⟩<;>rfl
 have htd:ev.td=o.dst:=by rcases hst with ⟨_,e,_,rfl,_⟩|⟨_,rfl,_⟩<;>exact Xp
 have EC:∀b,eS io s=some b->Region.wanted o (yielded ops a.tmps)=b:=by
  intro b V;unfold eS at V;rw[Lw]at V;cases PR:o.guard with
  |none=>rw[PR]at hgd;simp only[xu]at hgd;cases hgd;simp only[Region.wanted,PR];exact Option.some.inj V
  |some p=>
   obtain⟨j,T⟩:=p;rw[PR]at hgd;simp only[xu]at hgd;split at hgd
   .rename_i oj TT;split at hgd
    .rename_i t B;split at hgd
     .rename_i htN;cases hgd;dsimp only at V;have hgt:=hg t (.inl (by rw[htr];simp[er.tr,Lw]));have wQ:=S.env t;rw[hgt]at wQ;have h:a.tmps[t]? = some (a.tmps.getD t Go.undef):=by
       have:t<a.tmps.size:=by rw[S.size];exact htN
       simp[this]
      simp only[Region.wanted,PR,yielded,TT,Option.bind_some,B,h];split at V
      .rename_i b' y;rw[y]at wQ;have:a.tmps.getD t Go.undef=.bool b':=wQ;rw[this];have:=Option.some.inj V;rw[<- this];cases b'<;>cases T<;>rfl
      .rename_i v A;rw[A]at wQ;have:a.tmps.getD t Go.undef=.tuple v:=wQ;rw[this];have:=Option.some.inj V;rw[<- this];rfl
      .cases V
     .cases hgd
    .cases hgd
   .cases hgd
 rcases hst with ⟨hw,e,c,rfl,rfl⟩|⟨hw,rfl,rfl⟩
 .rw [EC true hw,if_pos rfl];have he':=c.local (λt B=>hg t (.inl (by simp[um,er.tr,B]))) (λq X=>O q (.inl X));have x:∀j,j<e.nw.length->obj (s.af.length+j)=.free:=λj hj=>by
   rw[O _ (.inr (by simp only[um,ta.wr,fN.owned,map_append,mem_append];exact .inl (M3 _ _ _ hj)))];exact cD (by omega)
  rw[Gp]at he';refine Y6 (xm hi he'.aby) (Mw S.store S.env he' x hi K Q (λv w' hAf=>hK _ _ ?_));obtain⟨J',ι',S',E'⟩:=S.step (dst:=o.dst) hdN hAf;refine⟨J',ι',?_,?_⟩
  .have H:(um io s.af.length e).td=o.dst:=Xp;rw[H];have e2:cG (um io s.af.length e).ow obj=bB obj s.af.length e:=by
    simp only[um,fN.owned,jJ,bB,wo]
   rw[e2];exact S'
  .have e2:cG (um io s.af.length e).ow obj=bB obj s.af.length e:=by
    simp only[um,fN.owned,jJ,bB,wo]
   rw[e2];exact E.trans E'
 .rw [EC false hw];refine⟨λ_ _=>trivial,hK _ _ ?_⟩;obtain⟨J',ι',S',E'⟩:=S.step (dst:=o.dst) hdN (aO.stay S.store (r:=.undef) (v:=Go.undef) rfl);exact⟨J',ι',by rw[htd];exact S',E.trans E'⟩
def Ye(G:tY)(aX:Nat->bK)(J0:Nat->Prop)(bR:fe)(w0:World)(get:Nat->LV)(obj:Nat->bK)(a:Act)(w:World):Prop:=∃J ι,aA G J w ι obj/\Ext aX obj J0 J bR ι w0 w/\∀t,cW J w ι (get t) (a.tmps.getD t Go.undef)
theorem SL{io:er}(U:ic P N ops o io.pre=some io){s:St}{v:Value}{e:fN}(r:JL P G io s v e){get:Nat->LV}{obj:Nat->bK}
  (hg:∀t,t∈io.tr->get t=s.get t) (O:obj=s.obj) (u:At G D N aX J0 bR w0 get obj a w) (K:Act->World->Prop)
  (hX:(D.CX=false->a.defers=D.ds)->∀w',Ye G aX J0 bR w0 get (s.app none e).obj a w'->Q (.panic [{ v:=v,recovered:=false }]) a w'):Region.wanted o (yielded ops a.tmps)=true/\o.wpIn (fz ro) nn P a w K Q:=by
 obtain⟨J,ι,S,E⟩:=u.ex;obtain⟨i,g,hi,hgd,Dp⟩:∃i g,oH P o.op=some i/\xu N ops o.guard=some g/\io=⟨o.dst,i,g,io.pre⟩:=by
  unfold ic at U;split at U
  .grind
  .cases U
 have Gp:io.op=i:=by rw[Dp]
 have Lw:io.guard=g:=by rw[Dp]
 have EC:∀b,eS io s=some b->Region.wanted o (yielded ops a.tmps)=b:=by
  intro b V;unfold eS at V;rw[Lw]at V;cases PR:o.guard with
  |none=>rw[PR]at hgd;simp only[xu]at hgd;cases hgd;simp only[Region.wanted,PR];exact Option.some.inj V
  |some p=>
   obtain⟨j,T⟩:=p;rw[PR]at hgd;simp only[xu]at hgd;split at hgd
   .rename_i oj TT;split at hgd
    .rename_i t B;split at hgd
     .rename_i htN;cases hgd;dsimp only at V;have hgt:=hg t (by simp[er.tr,Lw]);have wQ:=S.env t;rw[hgt]at wQ;have h:a.tmps[t]? = some (a.tmps.getD t Go.undef):=by
       have:t<a.tmps.size:=by rw[S.size];exact htN
       simp[this]
      simp only[Region.wanted,PR,yielded,TT,Option.bind_some,B,h];split at V
      .rename_i b' X;rw[X]at wQ;have:a.tmps.getD t Go.undef=.bool b':=wQ;rw[this];have:=Option.some.inj V;rw[<- this];cases b'<;>cases T<;>rfl
      .rename_i v A;rw[A]at wQ;have:a.tmps.getD t Go.undef=.tuple v:=wQ;rw[this];have:=Option.some.inj V;rw[<- this];rfl
      .cases V
     .cases hgd
    .cases hgd
   .cases hgd
 obtain⟨hw,f,args,k,fs,cs,hop,c,hcp⟩:=r;refine⟨EC true hw,?_⟩;rw[Gp]at hop;subst hop;have Z:f.ev G get=f.ev G s.get:=bF.dA (λt B=>hg t (by simp[er.tr,Gp,I.tmps,B]));have m:args.map (·.ev G get)=args.map (·.ev G s.get):=pW (λt B=>hg t (by simp only[er.tr,Gp,I.tmps,mem_append];exact .inl (.inr B)));have y:∀p∈e.wr,p.1<s.af.length:=λp r=>by obtain⟨ob,x⟩:=hcp.vE p r;exact JO x
 refine Y6 (xm hi (by simp)) (UJ S.store S.env (by rw[Z];exact c) (hcp.local (by rw[m]) (λq _=>by rw[O])) (λj _=>?_) hi K Q (λw' hAf=>hX S.defers.none w' ?_))
 .rw [O];exact cD (by omega)
 .obtain ⟨J',ι',S',_,E'⟩:=hAf;have H:(s.app none e).obj=bB obj s.af.length e:=by
   rw[O];exact Ay s.af e y
  rw[H];exact⟨J',ι',S',E.trans E',λt=>(S.env t).ev S.store E'.ev⟩
def pE(P:Program)(G:tY)(ro:Option Nat)(Y:YO)(D:Dk)(N:Nat)(aX:Nat->bK)(J0:Nat->Prop)(bR:fe)(w0:World):Prop:=
 ∀m args af ys U,Y (.yl m::args) af ys U->∀get a w,At G D N aX J0 bR w0 get (an af) a w->get YS=ys->∀(y:Value) (vs:List Value),(∃J ι,Sim G D N J w ι a get (an af)/\Ext aX (an af) J0 J bR ι w0 w/\cW J w ι (.yl m) y/\cm J w ι args vs)->
  ∃l,y=.func (.yield l) #[] #[]/\∀nn,YieldAt (fz ro) nn P l vs.toArray w (λe w'=>∃o b aC,e=.returned (.bool b)/\U o b aC/\∀dst,(∀d,dst=some d->d<N)->At G D N aX J0 bR w0 (iq dst (.bool b) (λt=>if YS=t then o else get t)) (an aC) (a.put dst (.bool b)) w')
def pE.no{D:Dk}{N:Nat}{aX:Nat->bK}{J0:Nat->Prop}{bR:fe}{w0:World} : pE P G ro uP D N aX J0 bR w0:=λ_ _ _ _ _ h=>h.elim
theorem SK{Y:YO}(hY:pE P G ro Y D N aX J0 bR w0){io:er}(U:ic P N ops o io.pre=some io){s:St}{K0:St->Prop}(hst:YAt G Y io s K0)(X:At G D N aX J0 bR w0 s.get s.obj a w)
  (hK:∀A a' w',K0 A->At G D N aX J0 bR w0 A.get A.obj a' w'->K a' w'):Region.wanted o (yielded ops a.tmps)=true/\o.wpIn (fz ro) nn P a w K Q:=by
 obtain⟨hw,f,args,oy,hop,y,hY0⟩:=hst;obtain⟨J,ι,S,E⟩:=X.ex;obtain⟨T0,i,g,hi,hgd,Dp⟩:I8 N o.dst=true/\∃i g,oH P o.op=some i/\xu N ops o.guard=some g/\io=⟨o.dst,i,g,io.pre⟩:=by
  unfold ic at U;split at U
  .grind
  .cases U
 have hdN:∀d,o.dst=some d->d<N:=λd hd=>by rw[hd]at T0;simpa[I8]using T0
 have Xp:io.dst=o.dst:=by rw[Dp]
 have Gp:io.op=i:=by rw[Dp]
 have Lw:io.guard=g:=by rw[Dp]
 have EC:Region.wanted o (yielded ops a.tmps)=true:=by
  have V:=hw;unfold eS at V;rw[Lw]at V;cases PR:o.guard with
  |none=>simp only[Region.wanted,PR]
  |some p=>
   obtain⟨j,O⟩:=p;rw[PR]at hgd;simp only[xu]at hgd;split at hgd
   .rename_i oj TT;split at hgd
    .rename_i t B;split at hgd
     .rename_i htN;cases hgd;dsimp only at V;have wQ:=S.env t;have H:a.tmps[t]? = some (a.tmps.getD t Go.undef):=by
       have:t<a.tmps.size:=by rw[S.size];exact htN
       simp[this]
      simp only[Region.wanted,PR,yielded,TT,Option.bind_some,B,H];split at V
      .rename_i b' v;rw[v]at wQ;have:a.tmps.getD t Go.undef=.bool b':=wQ;rw[this];have:=Option.some.inj V;revert this;cases b'<;>cases O<;>simp
      .grind
      .cases V
     .cases hgd
    .cases hgd
   .cases hgd
 refine⟨EC,?_⟩;rw[Gp]at hop;subst hop;replace hi:=vi hi;obtain⟨dst,op,type,pos,after,guard⟩:=o;obtain⟨F,as,ts,rfl,hF,q⟩:∃F as ts,op=.call ⟨.value F,as,ts⟩/\aI F=some f/\dJ as.toList=some args:=by
  cases op with
  |call c=>
   obtain⟨callee,as,ts⟩:=c;cases callee with
   |value F=>
    simp only[cV]at hi;split at hi
    .grind
    .cases hi
   |invoke r m=>simp[cV]at hi
   |builtin b=>cases b<;>simp only[cV]at hi<;>(repeat' split at hi)<;>cases hi
  |unOp u T x=>exfalso;cases u<;>simp only[cV]at hi<;>(try (cases hi;done))<;>(repeat' split at hi)<;>cases hi
  |_=>simp only[cV]at hi<;>(repeat' split at hi)<;>cases hi
 have Lr:=aZ S.store S.env hF;have hrA:=tq S.store S.env q;rw[y]at Lr;obtain⟨l,Z6,Lp⟩:=hY _ _ _ _ _ hY0 s.get a w X rfl (a.eval F) (as.toList.map a.eval) ⟨J,ι,S,E,Lr,hrA⟩;obtain⟨fn,tmps,assign,body,Z,hR⟩:=Lp (nn-1);refine⟨λ_ _=>trivial,?_⟩;rw[Oper.semAt_eq _ _ _ (λc h=>by cases h)];have hex:(execOp a.eval ⟨dst,.call ⟨.value F,as,ts⟩,type,pos,after,guard⟩).run P w=.ok (.round l fn tmps assign body) w:=by
  have e1:as.map a.eval=(as.toList.map a.eval).toArray:=by grind
  simp only[execOp,resolve,Sem.run_bind,Z6,Deferred.ofValue,Sem.run_pure,Result.andThen_ok,invoke,callFunc,e1];simpa using Z
 rw[hex,Oper.uponIn_round];refine⟨(λhh=>by cases hh),hR.mono (λe w' k=>?_)⟩;obtain⟨ys',b,aC,rfl,hk,hat⟩:=k;refine hK _ _ _ hk ?_;have:=hat dst hdN;have e2:(St.get ⟨di io.dst (.bool b) ((YS,ys')::s.env),aC⟩)=iq dst (.bool b) (λt=>if YS=t then ys' else s.get t):=by show aN _=_;rw[Ce,Xp];rfl
 rw[e2];exact this
def Eh{Y:YO}(k:pE P G ro Y D N aX J0 bR w0){X:Value->fN->St->Prop}(T:∀v e s a w,(D.CX=false->a.defers=D.ds)->Ye G aX J0 bR w0 s.get s.obj a w->X v e s->Q (.panic [{ v:=v,recovered:=false }]) a w)
   {io:er} (h2:ic P N ops o io.pre=some io) {s:St} {K:St->fN->Prop} {h:St->Prop} (q:Fw P G Y X io s K h) (u:At G D N aX J0 bR w0 s.get s.obj a w) {U:Act->World->Prop}
  (H:∀A e b w',K A e->At G D N aX J0 bR w0 A.get A.obj b w'->U b w') (h0:∀A b w',h A->At G D N aX J0 bR w0 A.get A.obj b w'->U b w') :
  if Region.wanted o (yielded ops a.tmps)then o.wpIn (fz ro) nn P a w U Q else(∀f,o.about P w a.eval=some f->(fz ro).fn f)/\U (a.put o.dst Go.undef) w:=by
 have t:∀A ev,uu P G io s ev A->(∀b w',At G D N aX J0 bR w0 A.get A.obj b w'->U b w')->if Region.wanted o (yielded ops a.tmps)then o.wpIn (fz ro) nn P a w U Q else(∀f,o.about P w a.eval=some f->(fz ro).fn f)/\U (a.put o.dst Go.undef) w:=by intro A ev x O;obtain⟨hn1,hn2⟩:=x.next;refine FW h2 x (λ_ _=>rfl) (λ_ _=>rfl) u (λb w' V=>O b w' ?_);rw[<- hn1,<- hn2]at V;exact V
 rcases DH q with ⟨y,e,c,hk⟩|⟨y,hk⟩|⟨v,e,S,hk⟩|B
 .exact t _ _ (.inl ⟨y,e,c,rfl,rfl⟩) (λb w'=>H _ _ b w' hk)
 .exact t _ _ (.inr ⟨y,rfl,rfl⟩) (λb w'=>h0 _ b w' hk)
 .obtain ⟨m,r⟩:=SL (Q:=Q) h2 S (λ_ _=>rfl) rfl u U (λhd w' Z=>T v _ _ a w' hd Z hk);rw[m,if_pos rfl];exact r
 .obtain ⟨m,r⟩:=SK (Q:=Q) k h2 B u (λA b w' hk V=>H _ _ _ _ hk V);rw[m,if_pos rfl];exact r
theorem ya{Y:YO}(k:pE P G ro Y D N aX J0 bR w0){X:Value->St->Prop}{K:St->Prop}(t:∀s a w,At G D N aX J0 bR w0 s.get s.obj a w->K s->Q .normal a w)(T:∀v s a w,(D.CX=false->a.defers=D.ds)->Ye G aX J0 bR w0 s.get s.obj a w->X v s->Q (.panic [{ v:=v,recovered:=false }]) a w) :
  ∀(os:List Oper) (gh:List er) (s:St) (a:Act) (w:World),gh.length=os.length->(∀(i:Nat) (o:Oper),os[i]? = some o->∃io,gh[i]? = some io/\ic P N ops o io.pre=some io)->mY P G Y X gh s K->
   At G D N aX J0 bR w0 s.get s.obj a w->wpListIn (fz ro) nn P ops Q os a w
 |[],gh,s,a,w,y,U,q,u=>by
  cases gh with
  |nil=>exact t s a w u q
  |cons _ _=>simp at y
 |o::os,[],s,a,w,y,U,q,u=>by simp at y
 |o::os,io::gh,s,a,w,y,U,q,u=>by
  obtain⟨r,H,h2⟩:=U 0 o (by simp);simp at H;subst H;refine wpListIn_step (λe h=>?_);have c:∀A b w',mY P G Y X gh A K->At G D N aX J0 bR w0 A.get A.obj b w'->e b w':=λA b w' O V=>h _ _ (ya k t T os gh A b w' (by grind) (λi o' hi=>by simpa using U (i+1) o' (by grind)) O V)
  exact Eh k (λv _ s a w H h2 m=>T v s a w H h2 m) h2 q u (λA _=>c A) c
structure Ord(P:Program)(N:Nat)(ops:Array Oper)(gh:List er):Prop where
 mix:P.follows .mixedOrders=true
 len:gh.length=ops.size
 at_:∀i,i<ops.size->∃o io,ops[i]? = some o/\gh[i]? = some io/\ic P N ops o io.pre=some io
 dr:∀j o io,ops[j]? = some o->gh[j]? = some io->(∀k∈direct o,k<j)/\(∀i∈io.pre,i<ops.size/\∃k∈direct o,k=i\/∃z,gh[k]? = some z/\i∈z.pre)/\
   (∀i x,i<j->gh[i]? = some x->i∈io.pre\/(L9 x io=false/\GC x io=false))
def Vj(gh:List er)(i j:Nat):Prop:=∃io,gh[j]? = some io/\i∈io.pre
theorem Ord.of{gh:List er}(U:qV P N ops true=some gh):Ord P N ops gh:=by
 simp only[qV,if_true]at U;split at U
 .rename_i k b;split at U
  .rename_i y;cases U;rw[and_eq_true]at y;obtain⟨h,e⟩:=y;obtain⟨hlen,Z⟩:=oG b;unfold SV at e;rw[all_eq_true]at e;refine⟨h,hlen,λi hi=>?_,λj o io c q=>?_⟩
   .obtain ⟨io,k1,k2⟩:=Z i ops[i] (by simp);exact⟨ops[i],io,Array.getElem?_eq_getElem hi,k1,k2⟩
   .grind
  .cases U
 .cases U
def Ord.pre{gh:List er}(h:Ord P N ops gh)(j:Nat)(o:Oper)(O:ops[j]? = some o)(i:Nat)(q:Vj gh i j):∃e∈o.after,Region.binds .any e=true/\(e.on=i\/Vj gh i e.on):=by obtain⟨io,m,b⟩:=q;obtain⟨_,h2,_⟩:=h.dr j o io O m;obtain⟨_,k,hk,K⟩:=h2 i b;simp only[direct,mem_map,mem_filter,Array.mem_toList_iff]at hk;obtain⟨e,⟨c,V⟩,X⟩:=hk;refine⟨e,c,V,?_⟩;rw[X];exact K.imp id (λ⟨z,A,r⟩=>⟨z,A,r⟩)
def Ord.back{gh:List er}(h:Ord P N ops gh)(j:Nat)(o:Oper)(O:ops[j]? = some o)(e:Edge)(c:e∈o.after)(V:Region.binds .any e=true):e.on<j:=by obtain⟨_,io,_,m,_⟩:=h.at_ j (Array.getElem?_eq_some_iff.1 O).1;obtain⟨H,_,_⟩:=h.dr j o io O m;refine H e.on ?_;simp only[direct,mem_map,mem_filter,Array.mem_toList_iff];exact⟨e,⟨c,V⟩,rfl⟩
def Ord.lt{gh:List er}(h:Ord P N ops gh)(i j:Nat)(q:Vj gh i j):i<ops.size:=by
 obtain⟨io,m,b⟩:=q;have hj:j<ops.size:=by rw[<- h.len];exact(List.getElem?_eq_some_iff.1 m).1
 obtain⟨o,r,O,c,_⟩:=h.at_ j hj;obtain⟨_,h2,_⟩:=h.dr j o io O m;exact(h2 i b).1
def Ur:ta:={ tr:=[],td:=none,r:=.top,rd:=[],ow:=[] }
theorem Cp{X:Value->St->Prop}{K:St->Prop}{gh:List er}(O:Ord P N ops gh){lo hi:Nat}(hlh:lo<=hi)(hhi:hi<=ops.size)(aav:∀i j,i<hi->hi<=j->j<ops.size->Vj gh i j){sg:List er}(Z8:sg.length=hi-lo)
  (hsg:∀i io x,gh[lo+i]? = some io->sg[i]? = some x->x.dst=io.dst/\x.op=io.op/\x.guard=io.guard/\∀k∈x.pre,lo+k∈io.pre)
  (hQ:∀s a w listed,At G D N aX J0 bR w0 s.get s.obj a w->K s->listed.size=ops.size->(∀j,listed.getD j false=decide (j<hi))->wpAnyIn (fz ro) nn P .any ops Q (listed.toList.count false) listed a w)
  (hX:∀v s a w,(D.CX=false->a.defers=D.ds)->Ye G aX J0 bR w0 s.get s.obj a w->X v s->Q (.panic [{ v:=v,recovered:=false }]) a w) {s:St} (A:gD P G X sg s [] (λs log=>indep log=true/\K s))
  (u:At G D N aX J0 bR w0 s.get s.obj a w) {listed:Array Bool} (hls:listed.size=ops.size) (hD:∀j,listed.getD j false=decide (j<lo)):wpAnyIn (fz ro) nn P .any ops Q (listed.toList.count false) listed a w:=by
 have PN:∀i,lo<=i->i<hi->∃o io x,ops[i]? = some o/\gh[i]? = some io/\sg[i-lo]? = some x/\ic P N ops o x.pre=some x/\x.dst=io.dst/\x.tr=io.tr/\∀k∈x.pre,lo+k∈io.pre:=by
  intro i H h2;obtain⟨o,io,b,Dp,wR⟩:=O.at_ i (by omega);have Z:=getElem?_eq_getElem (l:=sg) (i:=i-lo) (by omega);obtain⟨q1,q2,q3,q4⟩:=hsg (i-lo) io _ (by grind) Z;refine⟨o,io,_,b,Dp,Z,?_,q1,by unfold er.tr;rw[q2,q3],q4⟩;generalize sg[i-lo]=x at *;obtain⟨xd,xo,xg,xp⟩:=x;obtain⟨d,op,g,pr⟩:=io;subst q1 q2 q3;unfold ic at wR ⊢;split at wR
  .rename_i hd;rw[if_pos hd];split at wR
   .grind
   .cases wR
  .cases wR
 let E:(Nat->ta)->Nat->ta:=λes i=>if lo<=i/\i<hi then es (i-lo)else Ur
 have IG:∀es i,lo<=i->i<hi->E es i=es (i-lo):=λes i H h2=>by grind
 have Nr:∀es i,¬(lo<=i/\i<hi)->E es i=Ur:=λes i h=>by grind
 have T1:∀(es:Nat->ta) (La:List iI),(∀(i:Nat) (x:er),sg[i]? = some x->(es i).tr=x.tr/\(es i).td=x.dst)->indep La=true->(∀(i:Nat) (x:er),sg[i]? = some x->La[i]? = some ⟨x.pre,(es i).rd,(es i).wr⟩)->
   ∀i j,i<j->j<ops.size->xJ (E es i) (E es j)->Vj gh i j:=by
  intro es La ED PS Gm i j hij hj hcl;by_cases hi1:lo<=i/\i<hi;case neg=>rw[Nr es i hi1]at hcl;simp[xJ,Ur,ta.wr]at hcl
  by_cases hj1:lo<=j/\j<hi;case neg=>rw[Nr es j hj1]at hcl;simp[xJ,Ur,ta.wr]at hcl
  rw[IG es i hi1.1 hi1.2,IG es j hj1.1 hj1.2]at hcl;obtain⟨oi,ioi,x,_,adi,Z,_,dxi,txi,_⟩:=PN i hi1.1 hi1.2;obtain⟨oj,ioj,y,TT,ab6,hy,_,dyj,tyj,hpj⟩:=PN j hj1.1 hj1.2;refine⟨ioj,ab6,?_⟩;obtain⟨_,_,m⟩:=O.dr j oj ioj TT ab6;rcases m i ioi hij adi with h|⟨U,hT'⟩
  .exact h
  .obtain ⟨tx,dx⟩:=ED _ x Z;obtain⟨ty,dy⟩:=ED _ y hy;have hlx:=Gm _ x Z;have hly:=Gm _ y hy;rw[txi]at tx;rw[dxi]at dx;rw[tyj]at ty;rw[dyj]at dy;have hin:i-lo∈y.pre->i∈ioj.pre:=λh=>by grind
   rcases hcl with ⟨t,H,h2⟩|⟨t,H,h2⟩|⟨q,H,h2⟩|⟨q,H,h2⟩
   .exfalso;rw[dx]at H;rw[ty,dy]at h2;simp only[L9,H,or_eq_false_iff]at U;rcases h2 with h2|h2
    .grind
    .grind
   .exfalso;rw[dy]at H;rw[tx]at h2;simp[GC,H,h2]at hT'
   .refine hin (B4 PS hlx hly (by omega) ?_);simp only[Cz,or_eq_true,any_eq_true,contains_iff_mem];exact .inl ⟨q,H,h2⟩
   .refine hin (B4 PS hlx hly (by omega) ?_);simp only[Cz,or_eq_true,any_eq_true,contains_iff_mem];exact .inr ⟨q,H,h2⟩
 have aat:∀(es:Nat->ta) (ss:Nat->St),ss 0=s->(∀(i:Nat) (x:er),sg[i]? = some x->(ss (i+1)).get=iq (es i).td (es i).r (ss i).get/\(ss (i+1)).obj=cG (es i).ow (ss i).obj)->∀k,k<=ops.size->lE (E es) s.get s.obj (λ_=>true) k=((ss (min k hi-lo)).get,(ss (min k hi-lo)).obj):=by
  intro es ss h0 hnx k
  induction k with
  |zero=>intro _;simp only[lE,Nat.zero_min,Nat.zero_sub,h0]
  |succ k ih=>
   intro hk;simp only[lE,if_true,ih (by omega)];by_cases hin:lo<=k/\k<hi
   .grind
   .rw [Nr es k hin,show min (k+1) hi-lo=min k hi-lo by omega];refine Prod.ext (funext λt=>?_) rfl;simp[iq,Ur]
 have wT:∀(es:Nat->ta) (ss:Nat->St),ss 0=s->(∀(i:Nat) (x:er),sg[i]? = some x->(ss (i+1)).get=iq (es i).td (es i).r (ss i).get/\(ss (i+1)).obj=cG (es i).ow (ss i).obj)->∀i,i<=ops.size->lE (E es) s.get s.obj (λj=>decide (j<i)) ops.size=((ss (min i hi-lo)).get,(ss (min i hi-lo)).obj):=by
  intro es ss h0 hnx i hi;rw[<- aat es ss h0 hnx i hi];have H:∀k,i<=k->lE (E es) s.get s.obj (λj=>decide (j<i)) k=lE (E es) s.get s.obj (λj=>decide (j<i)) i:=by
   intro k
   induction k with
   |zero=>grind
   |succ k ih=>
    intro h;by_cases hki:i=k+1
    .grind
    .rw [<- ih (by omega)];simp only[lE];rw[if_neg (by grind)]
  have h2:∀k,k<=i->lE (E es) s.get s.obj (λj=>decide (j<i)) k=lE (E es) s.get s.obj (λ_=>true) k:=by
   intro k
   induction k with
   |zero=>intro _;rfl
   |succ k ih=>intro h;simp only[lE,ih (by omega),if_true];rw[if_pos (by grind)]
  rw[H _ hi,h2 _ (Nat.le_refl _)]
 have hI0:∀(es:Nat->ta) (ss:Nat->St),ss 0=s->(∀(i:Nat) (x:er),sg[i]? = some x->(ss (i+1)).get=iq (es i).td (es i).r (ss i).get/\(ss (i+1)).obj=cG (es i).ow (ss i).obj)->At G D N aX J0 bR w0 (lE (E es) s.get s.obj (λj=>listed.getD j false) ops.size).1 (lE (E es) s.get s.obj (λj=>listed.getD j false) ops.size).2 a w:=by intro es ss h0 hnx;rw[show(λj=>listed.getD j false)=λj=>decide (j<lo)from funext hD,wT es ss h0 hnx lo (by omega),show min lo hi-lo=0 by omega,h0];exact u
 have acg:∀(j:Nat) (o:Oper),ops[j]? = some o->listed.getD j false=true->∀e∈o.after,Region.binds .any e=true->listed.getD e.on false=true:=λj o b hj e c V=>by have:=O.back j o b e c V;rw[hD]at hj ⊢;simp at hj ⊢;omega
 have hlo:∀j,j<lo->listed.getD j false=true:=λj hj=>by grind
 rcases AH sg s [] A with ⟨ss,es,La,h0,hst,⟨PS,hK⟩,Lu,Gm,_⟩|⟨p,op,ss,es,La,_,Xm,h0,hst,⟨PS,aac⟩,Lu,Gm,_⟩
 .simp at Gm;have ED:∀(i:Nat) (o:er),sg[i]? = some o->(es i).tr=o.tr/\(es i).td=o.dst:=by
   intro i o hi;rcases hst i o hi with ⟨_,e,_,H,_⟩|⟨_,H,_⟩<;>rw[H]<;>exact⟨rfl,rfl⟩
  have hnx:=λ(i:Nat) (x:er) Z=>(hst i x Z).next
  refine Kb (E:=E es) (g0:=s.get) (o0:=s.obj) (R:=Vj gh) (λg obj a w=>At G D N aX J0 bR w0 g obj a w) lo hi hhi aav (T1 es La ED PS Gm) O.pre O.back O.lt ?_ ?_ _ listed a w hls rfl (λj hj=>?_) hlo acg (hI0 es ss h0 hnx)
  .intro i g obj Lt acO hg b a w K' JR Ub;obtain⟨o,io,x,hoi,Dp,Z,wR,_⟩:=PN i Lt acO;rw[wT es ss h0 hnx i (by omega),show min i hi-lo=i-lo by omega,IG es i Lt acO]at hg b;rw[IG es i Lt acO]at Ub;have:=FW (ro:=ro) (nn:=nn) (ops:=ops) (Q:=Q) wR (hst _ x Z) hg b JR Ub;unfold wpOpIn;simp only[hoi];exact this
  .intro listed a w hls hD hI;rw[wT es ss h0 hnx hi hhi,show min hi hi-lo=sg.length by omega]at hI;exact hQ _ a w listed hI hK hls hD
  .grind
 .rw [length_nil,Nat.sub_zero]at Xm;simp at Gm hst Lu;have hpl:=(List.getElem?_eq_some_iff.1 Xm).1;have hlp:lo+p<hi:=by omega
  have ED:∀(i:Nat) (o:er),sg[i]? = some o->(es i).tr=o.tr/\(es i).td=o.dst:=λi o hi=>(hst i o hi).tr
  have hnx:=λ(i:Nat) (x:er) Z=>(hst i x Z).next
  obtain⟨op0,iop,x0,ac7,Gp,hx0,adq,_,_,abR⟩:=PN (lo+p) (by omega) hlp;rw[show lo+p-lo=p by omega,Xm]at hx0;cases hx0;refine Od (E:=E es) (g0:=s.get) (o0:=s.obj) (R:=Vj gh) (λg obj a w=>At G D N aX J0 bR w0 g obj a w) lo (lo+p) (by omega) (T1 es La ED PS Gm) O.pre O.back O.lt ?_ ?_ ?_ _ listed a w hls rfl acg hlo (by grind) (hI0 es ss h0 hnx)
  .intro i g obj Lt adT hip hRp hg b a w K' JR Ub;have acO:i<hi:=by grind
   obtain⟨o,io,x,hoi,Dp,Z,wR,_,_,hpx⟩:=PN i Lt acO;rw[wT es ss h0 hnx i (by omega),show min i hi-lo=i-lo by omega,IG es i Lt acO]at hg b;rw[IG es i Lt acO]at Ub;have hstep:uu P G x (ss (i-lo)) (es (i-lo)) (ss (i-lo+1)):=by
    have H:=hst _ x Z;unfold ru at H;by_cases S:i-lo<p
    .grind
    .rw [if_neg S,if_neg (by omega)]at H;rcases H with ⟨h2,_⟩|⟨_,h2⟩
     .exact absurd ⟨io,Dp,hpx p h2⟩ hRp
     .exact h2
   have:=FW (ro:=ro) (nn:=nn) (ops:=ops) (Q:=Q) wR hstep hg b JR Ub;unfold wpOpIn;simp only[hoi];exact this
  .intro j hj hne;by_cases hin:lo<=j/\j<hi;case neg=>rw[Nr es j hin]at hne;exact absurd rfl hne
   rw[IG es j hin.1 hin.2]at hne;obtain⟨_,_,y,_,_,hy,_⟩:=PN j hin.1 hin.2;have hly:=Gm _ y hy;unfold HP at aac;rw[and_eq_true,all_eq_true,all_eq_true]at aac;obtain⟨k1,k2⟩:=aac;have k3:=k2 (j-lo) (by grind);rw[hly]at k3;simp at k3;have k4:=k3.resolve_right hne;have k5:=k1 _ k4;simp at k5;have:=abR _ k4;rw[show lo+(j-lo)=j by omega]at this;exact⟨⟨iop,Gp,this⟩,by omega⟩
  .intro g obj hg b a w K' JR;rw[wT es ss h0 hnx (lo+p) (by omega),show min (lo+p) hi-lo=p by omega]at hg b;rw[IG es (lo+p) (by omega) hlp,show lo+p-lo=p by omega]at hg;have H:=hst p op Xm;unfold ru at H;rw[if_neg (by omega),if_pos rfl]at H;obtain⟨v,e,aad,hXv,B,_⟩:=H;obtain⟨m,h4⟩:=SL (ops:=ops) (Q:=Q) adq aad (λt T=>hg t (by grind)) b JR K' (λhd w' ⟨J,ι,H,h2,_⟩=>hX v ⟨[],_⟩ a w' hd ⟨J,ι,H,h2,λ_=>trivial⟩ hXv);unfold wpOpIn;simp only[ac7];rw[if_pos m];exact h4
theorem Cq{X:Value->St->Prop}{K:St->Prop}(t:∀s a w,At G D N aX J0 bR w0 s.get s.obj a w->K s->Q .normal a w)(T:∀v s a w,(D.CX=false->a.defers=D.ds)->Ye G aX J0 bR w0 s.get s.obj a w->X v s->Q (.panic [{ v:=v,recovered:=false }]) a w){gh:List er}(U:qV P N ops true=some gh){s:St}(q:gD P G X gh s [] (λs log=>indep log=true/\K s))
  (u:At G D N aX J0 bR w0 s.get s.obj a w):P.follows .mixedOrders=true/\wpAnyIn (fz ro) nn P .any ops Q ops.size (Array.replicate ops.size false) a { w with drawn:=w.drawn+1 }:=by
 have O:=Ord.of U;refine⟨O.mix,?_⟩;have y:(Array.replicate ops.size false).toList.count false=ops.size:=by simp
 have:=Cp (ro:=ro) (nn:=nn) (hi:=ops.size) (lo:=0) (a:=a) (w:={ w with drawn:=w.drawn+1 }) (s:=s) O (zero_le _) (Nat.le_refl _) (λi j _ H h2=>absurd h2 (by omega)) (by rw[O.len];rfl) (λi io x H h2=>by grind) (λs a w listed H h2 m r=>wpAny_done m r (t s a w H h2)) T q u.drew (listed:=Array.replicate ops.size false) (by simp) (λj=>by by_cases h:j<ops.size<;>simp[h]);rw[y]at this;exact this
def UN(gh:List er)(p:Nat):Bool:=(match gh[p]? with
 |some io=>(match io.op with | .call (.t _) _=>true|_=>false)&&(List.range p).all (io.pre.contains ·)
 |none=>false)&&(List.range gh.length).all λj=>decide (j<=p)||(match gh[j]? with|some z=>(List.range (p+1)).all (z.pre.contains ·)|none=>true)
def aaF(gh:List er):Option Nat:=(List.range gh.length).find? (UN gh)
def FJ(m:Nat)(io:er):er:={ io with pre:=(io.pre.filter (decide <| m<=·)).map (· - m) }
theorem UC{Y:YO}(y:pE P G ro Y D N aX J0 bR w0){X:Value->St->Prop}{K:St->Prop}(hQ:∀s a w,At G D N aX J0 bR w0 s.get s.obj a w->K s->Q .normal a w)(T:∀v s a w,(D.CX=false->a.defers=D.ds)->Ye G aX J0 bR w0 s.get s.obj a w->X v s->Q (.panic [{ v:=v,recovered:=false }]) a w){gh:List er}(U:qV P N ops true=some gh){p:Nat}{io:er}(S:gh[p]? = some io)(V:UN gh p=true){s:St}
  (q:gD P G X (gh.take p) s [] (λs log=>indep log=true/\mY P G Y X [io] s (λs=>gD P G X ((gh.drop (p+1)).map (FJ (p+1))) s [] (λs log=>indep log=true/\K s))))
  (u:At G D N aX J0 bR w0 s.get s.obj a w) {rid:Nat} : (Code.region rid ops true).wpIn (fz ro) nn P Q a w:=by
 have O:=Ord.of U;have hpl:=(List.getElem?_eq_some_iff.1 S).1;have hps:p<ops.size:=by rw[<- O.len];exact hpl
 unfold UN at V;rw[S,and_eq_true,and_eq_true,all_eq_true,all_eq_true]at V;obtain⟨⟨_,hb1⟩,hb2⟩:=V;have hA1:∀i,i<p->Vj gh i p:=λi hi=>⟨io,S,by simp_all⟩
 have Ud:∀i j,i<=p->p<j->j<ops.size->Vj gh i j:=λi j hi hj hjs=>by obtain⟨_,z,_,A,_⟩:=O.at_ j hjs;have H:=hb2 j (by grind);rw[A,show decide (j<=p)=false by grind,Bool.false_or,all_eq_true]at H;exact⟨z,A,by simpa using H i (by grind)⟩
 have Xu:(Array.replicate ops.size false).toList.count false=ops.size:=by simp
 have h:=Cp (ro:=ro) (nn:=nn) (hi:=p) (lo:=0) (a:=a) (w:={ w with drawn:=w.drawn+1 }) (s:=s) O (zero_le _) (by omega) (λi j H h2 m=>by
   rcases Nat.lt_or_ge p j with h|h
   .grind
   .obtain rfl:j=p:=by omega
    exact hA1 i H) (by grind) (λi io x H h2=>by
   rw[Nat.zero_add]at H;rw[getElem?_take]at h2;split at h2
   .grind
   .cases h2) (λs a w listed H h2 m r=>?_) T q u.drew (listed:=Array.replicate ops.size false) (by simp) (λj=>by by_cases h:j<ops.size<;>simp[h])
 .rw [Xu]at h;exact wpIn_region_any O.mix h
 .refine Oe (R:=Vj gh) hps (λj hj hjs=>Ud p j (Nat.le_refl _) hj hjs) O.pre O.back m r (λe Ub=>?_);obtain⟨o,io',b,ab7,c⟩:=O.at_ p hps;rw[S]at ab7;cases ab7;have hnext:∀Z B w',gD P G X ((gh.drop (p+1)).map (FJ (p+1))) Z [] (λs log=>indep log=true/\K s)->At G D N aX J0 bR w0 Z.get Z.obj B w'->e B w':=λZ B w' hv' t=>Ub _ _ λacQ h5 h6=>by
   refine Cp (hi:=ops.size) (lo:=p+1) (s:=Z) O (by omega) (Nat.le_refl _) (λi j _ H h2=>absurd h2 (by omega)) (by simp[O.len]) (λi io x H h2=>?_) (λs a w listed H h2 m r=>wpAny_done m r (hQ s a w H h2)) T hv' t h5 h6;rw[getElem?_map,getElem?_drop,H]at h2;cases h2;refine⟨rfl,rfl,rfl,λk hk=>?_⟩;simp only[FJ,mem_map,mem_filter,decide_eq_true_eq]at hk;obtain⟨k0,⟨hk0,YW⟩,rfl⟩:=hk;rwa [show p+1+(k0-(p+1))=k0 by omega]
  have:=Eh (ro:=ro) (nn:=nn) (ops:=ops) (Q:=Q) y (λv _ s a w H h2 m=>T v s a w H h2 m) c h2 H (λZ _=>hnext Z) hnext;unfold wpOpIn;simp only[b];exact this
def Co{X:Value->St->Prop}{K:St->Prop}(t:∀s a w,At G D N aX J0 bR w0 s.get s.obj a w->K s->Q .normal a w)(T:∀v s a w,(D.CX=false->a.defers=D.ds)->Ye G aX J0 bR w0 s.get s.obj a w->X v s->Q (.panic [{ v:=v,recovered:=false }]) a w){gh:List er}(U:qV P N ops true=some gh){s:St}(q:gD P G X gh s [] (λs log=>indep log=true/\K s))
  (u:At G D N aX J0 bR w0 s.get s.obj a w) {b:Nat} : (Code.region b ops true).wpIn (fz ro) nn P Q a w:=
 have h:=Cq t T U q u
 wpIn_region_any h.1 h.2
end
end
section
variable{a:Act}{w w' w0:World}{n base:Nat}{x args:List LV}{J:Nat->Prop}{ι:fe}{o0:Obj}{v:List Value}{aX:Nat->bK}{k:List Item}{cs:List Frame}{c:Code}{r:LV}{fn:Func}{ai aj:List ah}
inductive C where
 |skip
 |mj (ops:List er)
 |mK (ops:List er)
 |seq (a b:C)
 |cond (c:bF) (a b:C)
 |block (i:Nat) (b:C)
 |loop (b:C)
 |exit (i:Nat)
 |ret
 |scope (b:C)
 |rfn (g:bF) (ps:List Nat) (a b:C)
inductive RV where
 |t (n:Nat)
 |c1 (n:Nat)
 |cn (n size:Nat)
structure CT where
 n:St->Prop
 x:Nat->St->Prop
 r:St->Prop
 y:YO
 b:Option Nat
def TE:Nat:=4294967295
def lF(v:Value)(s:St):St:=⟨(TE,.d (.val v))::s.env,s.af⟩
def St.keep(s:St)(ts:List Nat)(m:Nat):St:={ env:=ts.map λt=>(t,s.get t),af:=s.af.take m }
def SU(m:Nat):Option ah->Bool
 |some ob=>aP m ob
 |none=>true
def St.FX(s:St)(ts:List Nat)(m:Nat):Prop:=(ts.all λt=>bV m (s.get t))=true/\((s.af.take m).all (SU m))=true/\m<=s.af.length
inductive Ad where
 |t (q:Nat) (et:TypeId) (aJ:Nat)
 |b (o col:Nat) (et:TypeId) (aJ:Nat)
 |l (o col:Nat) (et:TypeId) (aJ:Nat)
 |nb (et:TypeId)
 |ab (L p B z:Nat)
def X4(s:St)(L p B z:Nat):Option (TypeId×List (List DV)×List (List (List DV))×TypeId×Nat×Nat×List LV×Nat×Nat):=
 match s.obj z,s.obj B,s.obj L with
 |.live (.dat et 1 rows),.live (.l_ X bs),.live (.lr lt le e cells)=>match cells[p]? with
  |some (.sl b n 1 lo len)=>if b=z/\n=rows.length/\et=X/\rows≠[]then some (et,rows,bs,lt,le,e,cells,lo,len)else none
  |_=>none
 |_,_,_=>none
def Ad.ap(s:St):Ad->St
 |.l o col et aJ=>match s.obj o with
  |.live (.box c cells)=>match cells[col]? with
   |some v=>if isNil v=true then⟨s.env,s.af.set o (some (.box c (cells.set col (.sl s.af.length 0 aJ 0 0))))++[some (.lr et aJ 0 [])]⟩else s
   |none=>s
  |_=>s
 |.nb et=>⟨s.env,s.af++[some (.l_ et [])]⟩
 |.ab L p B z=>match X4 s L p B z with
  |some (et,rows,bs,lt,le,e,cells,lo,len)=>⟨s.env,((s.af.set B (some (.l_ et (bs++[rows])))).set z none).set L (some (.lr lt le e (cells.set p (.sl B bs.length 1 lo len))))⟩
  |none=>s
 |.t q et aJ=>if isNil (s.get q)=true then⟨(q,.sl s.af.length 0 aJ 0 0)::s.env,s.af++[some (.dat et aJ [])]⟩else s
 |.b o col et aJ=>match s.obj o with
  |.live (.box c cells)=>match cells[col]? with
   |some v=>if isNil v=true then⟨s.env,s.af.set o (some (.box c (cells.set col (.sl s.af.length 0 aJ 0 0))))++[some (.dat et aJ [])]⟩else s
   |none=>s
  |_=>s
def bQ:List Ad->St->St
 |[],s=>s
 |x::xs,s=>bQ xs (x.ap s)
def mF(G:tY)(D:Dk)(N:Nat)(aX:Nat->bK)(J0:Nat->Prop)(bR:fe)(w0:World)(s:St)(a:Act)(w:World):Prop:=At G D N aX J0 bR w0 s.get s.obj a w
def JV(G:tY)(m:Nat)(s A:St):Prop:=∀(D:Dk) (N:Nat) (aX:Nat->bK) (J0:Nat->Prop) (bR:fe) (w0:World) (a:Act) (w:World),(∀o n b,bR o n=some b->o<m)->mF G D N aX J0 bR w0 s a w->mF G D N aX J0 bR w0 A a w
def JV.le{G:tY}{m X:Nat}{s A:St}(h:m<=X)(k:JV G X s A):JV G m s A:=λD N aX J0 bR w0 a w O u=>k D N aX J0 bR w0 a w (λo n b V=>Nat.lt_of_lt_of_le (O o n b V) h) u
def CE:Option Nat->Nat->Nat
 |none,m=>m
 |some B,m=>min B m
def XZ(b:Option Nat)(m:Nat):CE b m<=m:=by
 cases b with
 |none=>exact Nat.le_refl _
 |some B=>exact Nat.min_le_right B m
def Mx(b:Option Nat)(bR:fe):Prop:=∀B,b=some B->∀o n x,bR o n=some x->o<B
def Mx.no(bR:fe):Mx none bR:=λ_ h=>by cases h
def Mx.lt{b:Option Nat}{bR:fe}(h:Mx b bR){m:Nat}(O:∀o n x,bR o n=some x->o<m):∀o n x,bR o n=some x->o<CE b m:=by
 cases b with
 |none=>exact O
 |some B=>exactλo n x Z=>Nat.lt_min.2 ⟨h B rfl o n x Z,O o n x Z⟩
def mq:LV:=.d (.val Go.undef)
def pN:LV:=.cZ []
def zL:List Nat->List LV->List (Nat×LV)->List (Nat×LV)
 |p::ps,a::as,env=>zL ps as ((p,a)::env)
 |_,_,env=>env
def lW:C->Bool
 |.seq a b=>lW a&&lW b
 |.cond _ a b=>lW a&&lW b
 |.block _ b=>lW b
 |.loop b=>lW b
 |.scope b=>lW b
 |.rfn ..=>false
 |_=>true
def U5(P:Program)(G:tY)(k:Nat)(args:List LV)(af:List (Option ah))(Y:YO)(R:LV->List (Option ah)->Prop):Prop:=
 lH P k=true/\∀(D:Dk) (aX:Nat->bK) (J0:Nat->Prop) (bR:fe) (w0:World) (J:Nat->Prop) (ι:fe) (w:World) (vs:Array Value),D.ds=[]->D.CX=false->
  aA G J w ι (an af)->cm J w ι args vs.toList->Ext aX (an af) J0 J bR ι w0 w->D.ys mq w->(∀N,pE P G none Y D N aX J0 bR w0)->
  Calls P k vs w (λe w'=>∃v,e=.returned v/\∃o aC J' ι',R o aC/\D.ys o w'/\aA G J' w' ι' (an aC)/\Ext aX (an aC) J0 J' bR ι' w0 w')
section
variable (P:Program) (G:tY)
def vc:C->St->CT->Prop
 |.skip,s,K=>K.n s
 |.mj ops,s,K=>mY P G K.y (λv A=>K.x TE (lF v A)) ops s K.n
 |.mK ops,s,K=>gD P G (λv A=>K.x TE (lF v A)) ops s [] (λs log=>indep log=true/\K.n s)
 |.seq a b,s,K=>vc a s { K with n:=λA=>vc b A K }
 |.cond c a b,s,K=>match c.ev G s.get with
  |.d (.val (.bool t))=>if t=true then vc a s K else vc b s K
  |.ec=>vc a s K/\vc b s K
  |_=>False
 |.block i b,s,K=>vc b s { K with x:=λj A=>if j=i then K.n A else K.x j A }
 |.loop b,s,K=>∃(ts:List Nat) (I:Nat->St->Prop) (N:Nat) (q:List Ad),I N { (bQ q s)with env:=ts.map λt=>(t,(bQ q s).get t) }/\
  ∀k A,I k A->vc b A { K with n:=λh=>∃j,j<k/\∃e,I j e/\JV G (CE K.b (bQ q s).af.length) h e }
 |.exit i,s,K=>K.x i s
 |.ret,s,K=>K.r s
 |.scope b,s,K=>vc b s K
 |.rfn g ps a b,s,K=>match callee (g.ev G s.get)with
  |some (k,fs,cs)=>∃(S:Option Nat) (R:LV->List (Option ah)->Prop),U5 P G k (fs++[.yl s.af.length]++cs) (s.af++[none])
   (λas af ys U=>ys=mq/\as.head? = some (.yl s.af.length)/\as.tail.length=ps.length/\vc a ⟨zL ps as.tail s.env,af⟩ ⟨λs1=>vc b s1 ⟨λA=>U mq true A.af,λi A=>i≠TE/\S=some i/\U pN false A.af,λA=>S=none/\U pN false A.af,uP,none⟩,λ_ _=>False,λ_=>False,uP,none⟩) R/\
   ∀o aC,R o aC->(o=mq/\K.n ⟨s.env,aC⟩)\/(o=pN/\match S with|some i=>i≠TE/\K.x i ⟨s.env,aC⟩|none=>K.r ⟨s.env,aC⟩)
  |none=>False
end
def Ky(gh:List er):C:=match aaF gh with
 |some p=>match gh[p]? with
  |some io=>.seq (.mK (gh.take p)) (.seq (.mj [io]) (.mK ((gh.drop (p+1)).map (FJ (p+1)))))
  |none=>.mK gh
 |none=>.mK gh
def dW(P:Program)(N:Nat):Code->Option C
 |.skip=>some .skip
 |.region _ ops e=>match qV P N ops e with
  |some gh=>some (if e then Ky gh else .mj gh)
  |none=>none
 |.seq a b=>match dW P N a,dW P N b with|some a,some b=>some (.seq a b)|_,_=>none
 |.cond c a b=>match aI c,dW P N a,dW P N b with|some c,some a,some b=>some (.cond c a b)|_,_,_=>none
 |.block i b=>match dW P N b with|some b=>if i=TE then none else some (.block i b)|none=>none
 |.loop b=>match dW P N b with|some b=>some (.loop b)|none=>none
 |.exit i=>if i=TE then none else some (.exit i)
 |.scope b=>match dW P N b with|some b=>some (.scope b)|none=>none
 |.ret=>some .ret
 |.label _=>some .skip
 |.rangeFunc g ps a b=>match aI g,dW P N a,dW P N b with
  |some g,some a,some b=>if(lW a&&lW b&&ps.toList.all λp=>decide (p<N))=true then some (.rfn g ps.toList a b)else none
  |_,_,_=>none
 |_=>none
theorem sL(f:Nat->LV):∀(ts:List Nat) (t:Nat),aN (ts.map λt=>(t,f t)) t=if t∈ts then f t else .top
 |[],t=>by simp[aN]
 |x::ts,t=>by
  simp only[map_cons,aN,mem_cons,sL f ts t];by_cases h:x=t
  .grind
  .grind
theorem MP:(∀x:LV,rn (λi=>i) x=x)/\(∀xs:List LV,kC (λi=>i) xs=xs):=by
 have one:∀n,(∀x:LV,sizeOf x<n->rn (λi=>i) x=x)/\(∀xs:List LV,sizeOf xs<n->kC (λi=>i) xs=xs):=by
  intro n
  induction n with
  |zero=>grind
  |succ n u=>
   refine⟨λx hs=>?_,λxs hs=>?_⟩
   .cases x<;>simp only[rn]<;>simp at hs
    .grind
    .grind
    .grind
    .grind
   .cases xs with
    |nil=>rfl
    |cons x xs=>simp at hs;simp only[kC];rw[u.1 _ (by omega),u.2 _ (by omega)]
 exact⟨λx=>(one (sizeOf x+1)).1 x (by omega),λxs=>(one (sizeOf xs+1)).2 xs (by omega)⟩
section
variable {P:Program} {G:tY} {D:Dk} {N:Nat} {aX:Nat->bK} {J0:Nat->Prop} {bR:fe} {w0:World}
def KQ(G:tY)(D:Dk)(N:Nat)(aX:Nat->bK)(J0:Nat->Prop)(bR:fe)(w0:World)(K:CT):Exit->Act->World->Prop
 |.normal,a,w=>∃s,mF G D N aX J0 bR w0 s a w/\K.n s
 |.exit i,a,w=>i≠TE/\∃s,mF G D N aX J0 bR w0 s a w/\K.x i s
 |.ret,a,w=>∃s,mF G D N aX J0 bR w0 s a w/\K.r s
 |.panic q,a,w=>∃v s,q=[{ v:=v,recovered:=false }]/\(D.CX=false->a.defers=D.ds)/\Ye G aX J0 bR w0 s.get s.obj a w/\K.x TE (lF v s)
 |_,_,_=>False
def mF.bound{s:St}(h:mF G D N aX J0 bR w0 s a w){o b:Nat}(V:bR o n=some b):o<s.af.length:=by
 obtain⟨J,ι,S,E⟩:=h.ex;have H:=E.ev.gu o n b V;rcases Nat.lt_or_ge o s.af.length with h2|h2
 .exact h2
 .have:=S.store.rep o;have Z:s.obj o=.free:=cD h2;rw[Z]at this;rw[this n]at H;cases H
def mF.abB{s:St}(h:mF G D N aX J0 bR w0 s a w)(ts:List Nat):mF G D N aX J0 bR w0 { s with env:=ts.map λt=>(t,s.get t) } a w:=by
 obtain⟨J,ι,S,E⟩:=h.ex;refine⟨J,ι,⟨S.store,λt=>?_,S.size,S.defers,?_,S.lim⟩,E⟩;rotate_left
 .show D.ys (aN (ts.map λt=>(t,s.get t)) YS) _;rw[sL];split
  .exact S.ys
  .exact D.top _
 show cW J w ι (aN (ts.map λt=>(t,s.get t)) t) _;rw[sL];split
 .exact S.env t
 .trivial
theorem mF.keep{s:St}{a:Act}{w:World}(h:mF G D N aX J0 bR w0 s a w){ts:List Nat}{m:Nat}(hk:s.FX ts m)(q:∀o n b,bR o n=some b->o<m):mF G D N aX J0 bR w0 (s.keep ts m) a w:=by
 obtain⟨J,ι,S,E⟩:=h.ex;obtain⟨H,h2,K⟩:=hk
 let ι':fe:=λo n=>if o<m then ι o n else none
 have r:∀o n b,o<m->ι ((λi=>i) o) n=some b->ι' o n=some b:=λo n b O V=>by grind
 have rE:∀o,(s.keep ts m).obj o=if o<m then s.obj o else .free:=by
  intro o;show an (s.af.take m) o=_;by_cases O:o<m
  .rw [if_pos O];simp only[St.obj,an,getElem?_take_of_lt O]
  .rw [if_neg O,cD (by grind)]
 have U:∀o b,((s.keep ts m).obj o).own ι' o b->(s.obj o).own ι o b:=by
  intro o b V;rw[rE]at V;by_cases O:o<m
  .rw [if_pos O]at V;exact(bK.lU (λn=>by grind)).1 V
  .rw [if_neg O]at V;exact V.elim
 refine⟨J,ι',⟨⟨λo=>?_,λo o' b k Z=>S.store.inj o o' b (U o b k) (U o' b Z),λo b k=>S.store.pX o b (U o b k),S.store.jcell,S.store.uV⟩,λt=>?_,S.size,S.defers,?_,S.lim⟩,?_,?_⟩
 .rw [rE];by_cases O:o<m
  .rw [if_pos O];have hr:=S.store.rep o;have hid:∀ob,s.obj o=.live ob->aP m ob=true:=λob x=>by
    rw[all_eq_true]at h2;have:some ob∈s.af.take m:=by
     simp only[St.obj,an]at x;split at x
     .cases x
     .cases x
     .rename_i ob' hh;cases x;exact mem_of_getElem? (i:=o) (by grind)
    exact h2 _ this
   have hk:∀n,ι' o n=ι o n:=λn=>by grind
   cases hs:s.obj o with
   |free=>rw[hs]at hr;intro n;rw[hk];exact hr n
   |dead=>trivial
   |live ob=>
    rw[hs]at hr;have hi:=hid ob hs;cases ob with
    |box et cells=>obtain⟨⟨b,C,k1,k2,k3⟩,_⟩:=hr;refine⟨⟨b,C,by grind,k2,bx.rn (k0:=m) (π:=λi=>i) r cells _ (by simpa[aP]using hi) (by rw[MP.2];exact k3)⟩,trivial⟩
    |mp es=>obtain⟨⟨b,C,c,k1,k2,k3⟩,_⟩:=hr;refine⟨⟨b,C,c,by grind,k2,jR.rn (k0:=m) (π:=λi=>i) r es _ (by simpa[aP]using hi) ?_⟩,trivial⟩;rw[show(es.map λp=>(p.1,rn (λi=>i) p.2))=es from by simp[MP.1]];exact k3
    |l_ et bs=>obtain⟨⟨H,h2⟩,y⟩:=hr;refine⟨⟨λk rows hr=>?_,λk Z b=>by grind⟩,λn T=>by grind⟩;obtain⟨b,C,K,u⟩:=H k rows hr;exact⟨b,C,by grind,u⟩
    |lr et e v cells=>
     obtain⟨⟨X,e2⟩|⟨b,C,k1,k2,k0,k3⟩,y⟩:=hr
     .exact ⟨.inl ⟨X,by grind⟩,λn T=>by grind⟩
     exact⟨.inr ⟨b,C,by grind,k2,k0,bx.rn (k0:=m) (π:=λi=>i) r cells _ (by simpa[aP]using hi) (by rw[MP.2];exact k3)⟩,λn T=>by grind⟩
    |dat et e rows=>obtain⟨⟨k1,k2⟩,k3⟩:=hr;exact⟨⟨by grind,λb V=>k2 b (by grind)⟩,λn T=>by grind⟩
    |k9 et e rows=>obtain⟨⟨k1,k2⟩,k3⟩:=hr;exact⟨⟨by grind,λb V=>k2 b (by grind)⟩,trivial⟩
  .rw [if_neg O];intro n;simp only[ι',if_neg O]
 .show cW J w ι' (aN (ts.map λt=>(t,s.get t)) t) _;rw[sL];split
  .rename_i B;rw[all_eq_true]at H;exact cW.rn (k0:=m) (π:=λi=>i) r _ _ (H t B) (by rw[MP.1];exact S.env t)
  .trivial
 .show D.ys (aN (ts.map λt=>(t,s.get t)) YS) _;rw[sL];split
  .exact S.ys
  .exact D.top _
 .have A:=E.ev;exact⟨A.os,A.tape,A.output,A.size,A.same,A.shape,A.ia,A.uT,λo n b V=>by simp only[ι',if_pos (q o n b V)];exact A.gu o n b V⟩
 .rintro b ⟨o,V⟩;exact E.own b ⟨o,U o b V⟩
def BW{x:LV}(h:isNil x=true):x=.d (.val (.slice none 0 0)):=by
 unfold isNil at h;split at h
 .rfl
 .cases h
def JV.keep{s:St}{ts:List Nat}{m:Nat}(hk:s.FX ts m):JV G m s (s.keep ts m):=λ_ _ _ _ _ _ _ _ O h=>h.keep hk O
theorem aA.Mu{obj:Nat->bK}(S:aA G J w ι obj)(V:obj base=.free)(et:TypeId)(aJ:Nat) :
  aA G J w ι (λo=>if o=base then .live (.dat et aJ [])else obj o)/\Ext obj (λo=>if o=base then .live (.dat et aJ [])else obj o) J J ι ι w w:=by
 have x:∀n,ι base n=none:=by have:=S.rep base;rw[V]at this;exact this
 exact aA.jC S base (.live (.dat et aJ [])) (Ev.refl (Own ι obj) J ι w) (λ_ _ _=>rfl) (λ_ _ _=>rfl)
  ⟨⟨.inl rfl,λb V=>by grind⟩,λn _=>x n⟩ (λb V=>by have:ι base 0=some b:=V;rw[x]at this;cases this)
theorem iQ(l:List (Option ah))(ob:ah):an (l++[some ob])=λo=>if o=l.length then .live ob else an l o:=by
 funext o;unfold an;rcases Nat.lt_trichotomy o l.length with h|h|h
 .grind
 .grind
 .grind
theorem bx.set{J:Nat->Prop}{w:World}{ι:fe} : ∀{xs:List LV} {vs:List Value} {i:Nat} {x y:LV},bx J w ι xs vs->xs[i]? = some x->(∀v,cW J w ι x v->cW J w ι y v)->bx J w ι (xs.set i y) vs
 |[],[],i,x,y,_,h,_=>by simp at h
 |z::xs,v::vs,0,x,y,h,Z,B=>by simp at Z;subst Z;exact⟨h.1,B v h.2.1,h.2.2⟩
 |z::xs,v::vs,i+1,x,y,h,Z,B=>⟨h.1,h.2.1,bx.set h.2.2 (by grind) B⟩
 |[],_::_,_,_,_,h,_,_=>h.elim
 |_::_,[],_,_,_,h,_,_=>h.elim
def aA.aaM{obj:Nat->bK}(S:aA G J w ι obj)(V:obj base=.free)(et:TypeId)(aJ:Nat) :
  aA G J w ι (λo=>if o=base then .live (.lr et aJ 0 [])else obj o)/\Ext obj (λo=>if o=base then .live (.lr et aJ 0 [])else obj o) J J ι ι w w:=by
 have x:∀n,ι base n=none:=by have:=S.rep base;rw[V]at this;exact this
 exact aA.jC S base (.live (.lr et aJ 0 [])) (Ev.refl (Own ι obj) J ι w) (λ_ _ _=>rfl) (λ_ _ _=>rfl)
  ⟨.inl ⟨rfl,x _⟩,λn _=>x n⟩ (λb V=>by have:ι base 0=some b:=V;rw[x]at this;cases this)
theorem aA.aaN{obj:Nat->bK}(S:aA G J w ι obj)(V:obj base=.free)(et:TypeId) :
  aA G J w ι (λo=>if o=base then .live (.l_ et [])else obj o)/\Ext obj (λo=>if o=base then .live (.l_ et [])else obj o) J J ι ι w w:=by
 have x:∀n,ι base n=none:=by have:=S.rep base;rw[V]at this;exact this
 exact aA.jC S base (.live (.l_ et [])) (Ev.refl (Own ι obj) J ι w) (λ_ _ _=>rfl) (λ_ _ _=>rfl)
  ⟨⟨λk _ h=>by simp at h,λk A b h=>by grind⟩,λn _=>x n⟩ (λb V=>by obtain⟨k,hk,_⟩:=V;exact absurd hk (not_lt_zero k))
theorem aA.aaQ{obj:Nat->bK}(S:aA G J w ι obj){B z:Nat}{et:TypeId}{rows:List (List DV)}{bs:List (List (List DV))}
  (Z:obj B=.live (.l_ et bs)) (A:obj z=.live (.dat et 1 rows)) (X:rows≠[]) :
  ∃b ι',ι z rows.length=some b/\(∀o n c,ι o n=some c->ι' o n=some c)/\ι' B bs.length=some b/\aA G J w ι' (λo=>if o=z then .dead else if o=B then .live (.l_ et (bs++[rows]))else obj o)/\
   Ext obj (λo=>if o=z then .dead else if o=B then .live (.l_ et (bs++[rows]))else obj o) J J ι ι' w w:=by
 have h0:=S.rep B;rw[Z]at h0;obtain⟨⟨y,hinj⟩,m⟩:=h0;have H:=S.rep z;rw[A]at H;obtain⟨⟨hsome,hd⟩,_⟩:=H;obtain⟨b,V⟩:=Option.isSome_iff_exists.1 (hsome.resolve_left X);obtain⟨⟨C,hC⟩,t⟩:=hd b V;have IA:(obj z).own ι z b:=by rw[A];exact V
 have hzB:B≠z:=λe=>by grind
 let ι':fe:=λo n=>if o=B/\n=bs.length then some b else ι o n
 have x:∀o n c,ι o n=some c->ι' o n=some c:=λo n c h=>by grind
 have hk0:∀o,o≠B->∀n,ι' o n=ι o n:=λo O n=>by grind
 have hkB:∀n,n≠bs.length->ι' B n=ι B n:=λn T=>by grind
 have ada:ι' B bs.length=some b:=by simp[ι']
 have E:Ev (Own ι obj) J J ι ι' w w:=⟨rfl,rfl,rfl,Nat.le_refl _,λ_ _ _=>rfl,λ_ _=>rfl,λ_ h=>h,λ_ h=>.inl h,x⟩;have hO:∀o c,(if o=z then bK.dead else if o=B then .live (.l_ et (bs++[rows]))else obj o).own ι' o c->(o≠z/\(obj o).own ι o c)\/(o=B/\c=b):=by
  intro o c h;by_cases O:o=z
  .rw [if_pos O]at h;exact h.elim
  .rw [if_neg O]at h;by_cases Il:o=B
   .subst Il;rw[if_pos rfl]at h;obtain⟨k,hk,U⟩:=h;by_cases hkl:k=bs.length
    .grind
    .rw [hkB k hkl]at U;rw[Z];simp at hk;exact .inl ⟨O,k,by omega,U⟩
   .rw [if_neg Il]at h;exact .inl ⟨O,(bK.lU (hk0 o Il)).1 h⟩
 refine⟨b,ι',V,x,ada,⟨λo=>?_,?_,?_,S.jcell,λg row r=>S.uV g row r⟩,⟨E,?_⟩⟩
 .show jI J w ι' o (if o=z then bK.dead else if o=B then .live (.l_ et (bs++[rows]))else obj o);by_cases O:o=z
  .rw [if_pos O];trivial
  .rw [if_neg O];by_cases Il:o=B
   .subst Il;rw[if_pos rfl];refine⟨⟨λk rs hr=>?_,λk v c h h'=>?_⟩,λn T=>?_⟩
    .grind
    .have hno:∀n,n≠bs.length->ι o n≠some b:=λn T U=>by
      have q:n<bs.length:=by grind
      exact hzB (S.inj o z b (by rw[Z];exact⟨n,q,U⟩) IA)
     by_cases H:k=bs.length<;>by_cases h2:v=bs.length
     .grind
     .grind
     .grind
     .grind
    .grind
   .rw [if_neg Il];exact jI.keep S E (hk0 o Il) (λ_ _=>rfl)
 .intro o o' c h h';rcases hO o c h with ⟨H,h2⟩|⟨H,h2⟩<;>rcases hO o' c h' with ⟨K,u⟩|⟨K,u⟩
  .exact S.inj _ _ _ h2 u
  .subst u;exact absurd (S.inj _ _ _ h2 IA) H
  .subst h2;exact absurd (S.inj _ _ _ u IA) K
  .grind
 .intro o c h;rcases hO o c h with ⟨_,h2⟩|⟨_,h2⟩
  .exact S.pX o c h2
  .rw [h2];exact S.pX z b IA
 .rintro c ⟨o,h⟩;rcases hO o c h with ⟨_,h2⟩|⟨_,h2⟩
  .exact .inl ⟨o,h2⟩
  .rw [h2];exact .inl ⟨z,IA⟩
theorem Ap{l:List (Option ah)}{o:Nat}(x:Option ah)(h:o<l.length):an (l.set o x)=λq=>if q=o then(match x with|none=>.dead|some ob=>.live ob)else an l q:=by
 funext q;unfold an;by_cases X:q=o
 .grind
 .grind
theorem mF.ap{s:St}{a:Act}{w:World}(h:mF G D N aX J0 bR w0 s a w)(x:Ad):mF G D N aX J0 bR w0 (x.ap s) a w:=by
 cases x with
 |nb et=>
  obtain⟨J,ι,S,E⟩:=h.ex;obtain⟨S1,E1⟩:=aA.aaN S.store (base:=s.af.length) (cD (Nat.le_refl _)) et;refine⟨J,ι,⟨?_,S.env,S.size,S.defers,S.ys,S.lim⟩,?_⟩
  .show aA G J w ι (an (s.af++[some (.l_ et [])]));rw[iQ];exact S1
  .show Ext aX (an (s.af++[some (.l_ et [])])) J0 J bR ι w0 w;rw[iQ];exact E.trans E1
 |l o col et aJ=>
  simp only[Ad.ap];split
  .rename_i bt cells O;split
   .rename_i v A;split
    .rename_i qO;obtain⟨J,ι,S,E⟩:=h.ex;obtain⟨S1,E1⟩:=aA.aaM S.store (base:=s.af.length) (cD (Nat.le_refl _)) et aJ;have aaf:=JO O;have B9:(if o=s.af.length then bK.live (.lr et aJ 0 [])else s.obj o)=.live (.box bt cells):=by grind
     have h0:=S1.rep o;simp only[B9]at h0;obtain⟨⟨b,C,H,h2,K⟩,_⟩:=h0;have r:bx J w ι (cells.set col (.sl s.af.length 0 aJ 0 0)) C.toList:=K.set A (λu m=>by rw[BW qO]at m;exact .inl ⟨rfl,none,m⟩);obtain⟨S2,E2⟩:=aA.jC S1 o (.live (.box bt (cells.set col (.sl s.af.length 0 aJ 0 0)))) (Ev.refl _ J ι w) (λ_ _ _=>rfl) (λ_ _ _=>rfl)
      ⟨⟨b,C,H,h2,r⟩,trivial⟩ (λk hk=>.inl (by simp only[B9];exact hk))
     have rE:an (s.af.set o (some (.box bt (cells.set col (.sl s.af.length 0 aJ 0 0))))++[some (.lr et aJ 0 [])])=λq=>if q=o then .live (.box bt (cells.set col (.sl s.af.length 0 aJ 0 0)))else if q=s.af.length then .live (.lr et aJ 0 [])else s.obj q:=by
      rw[iQ,length_set,Ap _ aaf];funext q;by_cases X:q=o
      .grind
      .simp only[if_neg X];rfl
     refine⟨J,ι,⟨?_,S.env,S.size,S.defers,S.ys,S.lim⟩,?_⟩
     .show aA G J w ι (an (_++_));rw[rE];exact S2
     .show Ext aX (an (_++_)) J0 J bR ι w0 w;rw[rE];exact(E.trans E1).trans E2
    .exact h
   .exact h
  .exact h
 |ab L p B z=>
  simp only[Ad.ap];split
  .rename_i et rows bs lt le lv cells lo len hab;unfold X4 at hab;split at hab
   .rename_i et1 adM et2 bs1 lt1 le1 lv1 adE c hB hL;split at hab
    .rename_i z' n lo1 adO Z;split at hab
     .rename_i U;obtain⟨rfl,rfl,rfl,hne⟩:=U;cases hab;obtain⟨J,ι,S,E⟩:=h.ex;obtain⟨b,ι',V,hm,hk,S1,E1⟩:=aA.aaQ S.store hB c hne;have hLz:L≠z':=λe=>by grind
      have hLB:L≠B:=λe=>by grind
      have B9:(if L=z' then bK.dead else if L=B then .live (.l_ et (bs++[rows]))else s.obj L)=.live (.lr lt le lv cells):=by grind
      have h0:=S1.rep L;simp only[B9]at h0;obtain⟨h0,hkey⟩:=h0;have Z8:∀u,cW J w ι' (.sl z' rows.length 1 lo len) u->cW J w ι' (.sl B bs.length 1 lo len) u:=λu m=>by
       rcases m with m|⟨b',cap,et',C,y,H⟩
       .exact .inl m
       .rw [hm _ _ _ V]at y;cases y;exact .inr ⟨b,cap,et',C,hk,H⟩
      obtain⟨S2,E2⟩:=aA.jC S1 L (.live (.lr lt le lv (cells.set p (.sl B bs.length 1 lo len)))) (Ev.refl _ J ι' w) (λ_ _ _=>rfl) (λ_ _ _=>rfl)
       ⟨by
        rcases h0 with ⟨e,_⟩|⟨b',C,H,h2,K,r⟩
        .grind
        .exact .inr ⟨b',C,H,h2,by grind,by rw[length_set];exact r.set Z Z8⟩,hkey⟩ (λk hk=>.inl (by simp only[B9];exact hk))
      have rE:an (((s.af.set B (some (.l_ et (bs++[rows])))).set z' none).set L (some (.lr lt le lv (cells.set p (.sl B bs.length 1 lo len)))))=λq=>if q=L then .live (.lr lt le lv (cells.set p (.sl B bs.length 1 lo len)))else if q=z' then .dead else if q=B then .live (.l_ et (bs++[rows]))else s.obj q:=by rw[Ap _ (by simpa using JO hL),Ap _ (by simpa using JO c),Ap _ (JO hB)];rfl
      refine⟨J,ι',⟨?_,λt=>cW.mono (λ_ h=>h) (λ_ _=>rfl) hm (λ_ _=>rfl) _ _ (S.env t),S.size,S.defers,S.ys,S.lim⟩,?_⟩
      .show aA G J w ι' (an _);rw[rE];exact S2
      .show Ext aX (an _) J0 J bR ι' w0 w;rw[rE];exact(E.trans E1).trans E2
     .cases hab
    .cases hab
   .cases hab
  .exact h
 |t t et aJ=>
  simp only[Ad.ap];split
  .rename_i qO;obtain⟨J,ι,S,E⟩:=h.ex;obtain⟨S1,E1⟩:=aA.Mu S.store (base:=s.af.length) (cD (Nat.le_refl _)) et aJ;refine⟨J,ι,⟨?_,λt'=>?_,S.size,S.defers,?_,S.lim⟩,?_⟩
   .show aA G J w ι (an (s.af++[some (.dat et aJ [])]));rw[iQ];exact S1
   .show cW J w ι (if t=t' then _ else aN s.env t') _;split
    .rename_i T;subst T;have:=S.env t;rw[BW qO]at this;exact .inl ⟨rfl,none,this⟩
    .exact S.env t'
   .show D.ys (if t=YS then _ else aN s.env YS) _;split
    .rename_i T;subst T;exact D.tot _ _ qO S.ys _
    .exact S.ys
   .show Ext aX (an (s.af++[some (.dat et aJ [])])) J0 J bR ι w0 w;rw[iQ];exact E.trans E1
  .exact h
 |b o col et aJ=>
  simp only[Ad.ap];split
  .rename_i bt cells O;split
   .rename_i v A;split
    .rename_i qO;obtain⟨J,ι,S,E⟩:=h.ex;obtain⟨S1,E1⟩:=aA.Mu S.store (base:=s.af.length) (cD (Nat.le_refl _)) et aJ;have aaf:=JO O;have B9:(if o=s.af.length then bK.live (.dat et aJ [])else s.obj o)=.live (.box bt cells):=by grind
     have h0:=S1.rep o;simp only[B9]at h0;obtain⟨⟨b,C,H,h2,K⟩,_⟩:=h0;have r:bx J w ι (cells.set col (.sl s.af.length 0 aJ 0 0)) C.toList:=K.set A (λu m=>by rw[BW qO]at m;exact .inl ⟨rfl,none,m⟩);obtain⟨S2,E2⟩:=aA.jC S1 o (.live (.box bt (cells.set col (.sl s.af.length 0 aJ 0 0)))) (Ev.refl _ J ι w) (λ_ _ _=>rfl) (λ_ _ _=>rfl)
      ⟨⟨b,C,H,h2,r⟩,trivial⟩ (λk hk=>.inl (by simp only[B9];exact hk))
     have rE:an (s.af.set o (some (.box bt (cells.set col (.sl s.af.length 0 aJ 0 0))))++[some (.dat et aJ [])])=λq=>if q=o then .live (.box bt (cells.set col (.sl s.af.length 0 aJ 0 0)))else if q=s.af.length then .live (.dat et aJ [])else s.obj q:=by
      rw[iQ,length_set];funext q;by_cases X:q=o
      .subst X;rw[if_pos rfl,if_neg (by omega)];unfold an;rw[getElem?_set_self aaf]
      .rw [if_neg X];by_cases My:q=s.af.length
       .grind
       .rw [if_neg My,if_neg My];simp only[an,St.obj,getElem?_set_ne (λe=>X e.symm)]
     refine⟨J,ι,⟨?_,S.env,S.size,S.defers,S.ys,S.lim⟩,?_⟩
     .show aA G J w ι (an (_++_));rw[rE];exact S2
     .show Ext aX (an (_++_)) J0 J bR ι w0 w;rw[rE];exact(E.trans E1).trans E2
    .exact h
   .exact h
  .exact h
def mF.bQ{a:Act}{w:World} : ∀(q:List Ad) {s:St},mF G D N aX J0 bR w0 s a w->mF G D N aX J0 bR w0 (Dv.bQ q s) a w
 |[],_,h=>h
 |x::xs,_,h=>mF.bQ xs (h.ap x)
end
def CN(w w':World):Prop:=∀(b:Nat) (x:Obj),w.heap[b]? = some x->x.pO=true->w'.heap[b]? = some x
def CN.refl(w:World):CN w w:=λ_ _ h _=>h
def CN.trans{c:World}(h:CN w w')(k:CN w' c):CN w c:=λb x V Z=>k _ _ (h _ _ V Z) Z
theorem CN.put{l:Nat}(o:Obj)(h:w.heap[l]? = some o0)(U:o0.pO=false):CN w (w.putObj l o):=by
 intro b x V Z;by_cases c:b=l
 .grind
 .rw [putObj_heap_other c];exact V
def lG{o:Obj}{b:Nat}(V:b<w.heap.size):(w.alloc o).heap[b]? = w.heap[b]?:=by show(w.heap.push o)[b]? = _;rw[Array.getElem?_push,if_neg (ne_of_lt V)]
def CN.alloc(w:World)(o:Obj):CN w (w.alloc o):=by intro b x V _;rw[lG (Array.getElem?_eq_some_iff.1 V).1];exact V
def CN.shape(h:CN w w')(b:Nat)(hs:(w.shape? b).isSome=true):w'.shape? b=w.shape? b:=by
 unfold shape? at hs ⊢;split at hs
 .rename_i C t f V;rw[h _ _ V rfl]
 .cases hs
section
variable {G:tY} {J:Nat->Prop} {w w':World} {ι ι':fe} {obj obj':Nat->bK}
def CN.j(S:aA G J w ι obj)(h:CN w w')(b:Nat)(V:J b):w'.heap[b]? = w.heap[b]?:=by obtain⟨C,t,f,U⟩:=S.jcell b V;rw[U];exact h _ _ U rfl
def cW.cn(S:aA G J w ι obj)(h:CN w w')(hi:∀o n b,ι o n=some b->ι' o n=some b){x:LV}{v:Value}(k:cW J w ι x v):cW J w' ι' x v:=
 cW.mono (λ_ h=>h) (h.j S) hi (λb V=>h.shape b V) x v k
def bx.cn(S:aA G J w ι obj)(h:CN w w')(hi:∀o n b,ι o n=some b->ι' o n=some b)(k:bx J w ι x v):bx J w' ι' x v:=
 bx.mono (λ_ h=>h) (h.j S) hi (λb V=>h.shape b V) x v k
def cm.cn(S:aA G J w ι obj)(h:CN w w')(hi:∀o n b,ι o n=some b->ι' o n=some b)(k:cm J w ι x v):cm J w' ι' x v:=
 cm.mono (λ_ h=>h) (h.j S) hi (λb V=>h.shape b V) x v k
theorem aA.cn(S:aA G J w ι obj)(h:CN w w')(hi:∀o n b,ι o n=some b->ι' o n=some b)(O:∀o,obj' o=.dead\/(obj' o=obj o/\∀n,ι' o n=ι o n)):aA G J w' ι' obj':=by
 have A:∀o b,(obj' o).own ι' o b->(obj o).own ι o b:=by
  intro o b V;rcases O o with H|⟨H,h2⟩
  .rw [H]at V;exact V.elim
  .rw [H]at V;exact(bK.lU h2).1 V
 refine⟨λo=>?_,λo o' b k Z=>S.inj o o' b (A _ _ k) (A _ _ Z),λo b k=>S.pX o b (A _ _ k),λb V=>?_,λg row r=>?_⟩
 .rcases O o with H|⟨H,hk⟩
  .rw [H];trivial
  .rw [H];have hr:=S.rep o;cases hs:obj o with
   |free=>rw[hs]at hr;intro n;rw[hk];exact hr n
   |dead=>trivial
   |live ob=>
    rw[hs]at hr;obtain⟨hr,m⟩:=hr;cases ob with
    |box et cells=>obtain⟨b,C,H,h2,K⟩:=hr;exact⟨⟨b,C,by grind,h _ _ h2 rfl,K.cn S h hi⟩,trivial⟩
    |mp es=>obtain⟨b,C,c,H,h2,K⟩:=hr;exact⟨⟨b,C,c,by grind,h _ _ h2 rfl,jR.mono (λ_ h=>h) (h.j S) hi (λb V=>h.shape b V) _ _ K⟩,trivial⟩
    |l_ et bs=>obtain⟨H,h2⟩:=hr;refine⟨⟨λk rows hr=>?_,λk Z b=>by grind⟩,λn T=>by grind⟩;obtain⟨b,C,K,u,y⟩:=H k rows hr;exact⟨b,C,by grind,h _ _ u rfl,bq.mono (λ_ h=>h) (h.j S) 1 rows b 0 (by rw[u];exact h _ _ u rfl) y⟩
    |lr et e v cells=>
     obtain⟨x,B⟩|⟨b,C,H,h2,h0,K⟩:=hr
     .exact ⟨.inl ⟨x,by grind⟩,λn T=>by grind⟩
     exact⟨.inr ⟨b,C,by grind,h _ _ h2 rfl,h0,K.cn S h hi⟩,λn T=>by grind⟩
    |dat et aJ rows=>obtain⟨H,h2⟩:=hr;refine⟨⟨by grind,λb X=>?_⟩,λn T=>by grind⟩;rw[hk]at X;obtain⟨⟨C,K⟩,u⟩:=h2 b X;exact⟨⟨C,h _ _ K rfl⟩,bq.mono (λ_ h=>h) (h.j S) aJ rows b 0 (by rw[K];exact h _ _ K rfl) u⟩
    |k9 et aJ rows=>obtain⟨H,h2⟩:=hr;refine⟨⟨by grind,λb X=>?_⟩,trivial⟩;rw[hk]at X;obtain⟨K,u⟩:=h2 b X;exact⟨K,bq.mono (λ_ h=>h) (h.j S) aJ rows b 0 (h.j S b K) u⟩
 .obtain ⟨C,t,f,U⟩:=S.jcell b V;exact⟨C,t,f,h _ _ U rfl⟩
 .obtain ⟨H,h2,t,K⟩:=S.uV g row r;exact⟨H,dV.mono (λ_ h=>h) (h.j S) row g 0 (h.j S g H) h2,t,by rw[h.shape g (by grind)];exact K⟩
def aA.put{l:Nat}{o0:Obj}(o:Obj)(S:aA G J w ι obj)(h:w.heap[l]? = some o0)(U:o0.pO=false):aA G J (w.putObj l o) ι obj:=
 S.cn (CN.put o h U) (λ_ _ _ h=>h) (λ_=>.inr ⟨rfl,λ_=>rfl⟩)
theorem Ext.put{J0:Nat->Prop}{bR:fe}(E:Ext aX obj J0 J bR ι w0 w){l:Nat}(o:Obj)(h:w.heap[l]? = some o0)(U:o0.pO=false)(y:w0.heap.size<=l)(O:o.pO=false):Ext aX obj J0 J bR ι w0 (w.putObj l o):=by
 have m:(w.putObj l o).heap.size=w.heap.size:=putObj_size;refine⟨⟨E.ev.os,E.ev.tape,E.ev.output,by grind,λb V T=>?_,λb V=>?_,E.ev.ia,E.ev.uT,E.ev.gu⟩,E.own⟩
 .rw [putObj_heap_other (by omega)];exact E.ev.same b V T
 .rw [<- E.ev.shape b V];unfold shape?;rw[putObj_heap_other (by omega)]
def Ci:∀(l:List (Nat×Value)) (t:Array Value),(l.foldl (λt (p:Nat×Value)=>t.setIfInBounds p.1 p.2) t).size=t.size
 |[],_=>rfl
 |x::l,t=>by rw[foldl_cons,Ci l];simp
theorem E8:∀(ps:List Nat) (as:List LV) (vs:List Value) (env:List (Nat×LV)) (t:Array Value) (N:Nat),t.size=N->(∀p∈ps,p<N)->as.length=ps.length->cm J w ι as vs->(∀q,cW J w ι (aN env q) (t.getD q Go.undef))->
  ∀q,cW J w ι (aN (zL ps as env) q) (((ps.zip vs).foldl (λt (p:Nat×Value)=>t.setIfInBounds p.1 p.2) t).getD q Go.undef)
 |[],as,vs,env,t,N,B,S,y,hr,c,q=>by
  cases as with
  |nil=>simpa[zL]using c q
  |cons _ _=>simp at y
 |p::ps,[],vs,env,t,N,B,S,y,hr,c,q=>by simp at y
 |p::ps,a::as,[],env,t,N,B,S,y,hr,c,q=>hr.elim
 |p::ps,a::as,v::vs,env,t,N,B,S,y,hr,c,q=>by
  refine E8 ps as vs _ _ N (by simp[B]) (λq X=>S q (by simp[X])) (by grind) hr.2 (λq=>?_) q;have b:p<t.size:=by simp_all
  simp only[aN];by_cases X:p=q
  .subst X;rw[if_pos rfl];have:(t.setIfInBounds p v).getD p Go.undef=v:=by simp_all
   rw[this];exact hr.1
  .simp_all
end
section
variable {P:Program} {G:tY}
def iM{b:Frame} : step P (lone (b.atR a (.code (.scope c)::k)) cs w)=.next (lone (b.atR a (.code c::.inScope c::k)) cs w):=
 step_lone_go (by simp[stepG,stepG.exec,Frame.atR])
def AY{b:Frame} : step P (lone (b.atR a (.inScope c::k)) cs w)=.next (lone (b.atR a k) cs w):=
 step_lone_go (by simp[stepG,stepG.exec,Frame.atR])
theorem tK{F:Fence}{Q:Exit->Act->World->Prop}(h:c.wpIn F n P (Exit.noGoto Q) a w):(Code.scope c).wpIn F n P Q a w:=by
 intro b k cs t V hr;have h0:(lone (b.atR a (.code (.scope c)::k)) cs w).fenced P F:=fenced_calm V hr rfl;obtain⟨e,o,r,X,m⟩:=h b (.inScope c::k) cs t V hr;cases e with
 |normal=>exact⟨.normal,o,r,X,.head h0 iM (StepsIn.trans m (.one (fenced_calm V hr rfl) AY))⟩
 |exit id=>
  have Z:exitTo id (.inScope c::k)=exitTo id k:=by simp[exitTo]
  exact⟨.exit id,o,r,X,λA hk=>.head h0 iM (m.1 A (by grind)),
   λv hk=>let⟨u,H,h2⟩:=m.2 v (by grind);⟨u,H,.head h0 iM h2⟩⟩
 |goto l=>exact X.elim
 |ret=>exact⟨_,o,r,X,.of_steps (.one h0 iM) m⟩
 |panic q=>exact⟨_,o,r,X,.of_steps (.one h0 iM) m⟩
 |outgrown=>exact⟨_,o,r,X,.of_steps (.one h0 iM) m⟩
def Yw:Option Nat->Code
 |some i=>.exit i
 |none=>.ret
def VW(l B:Nat)(b:LoopState->Option Code->Loop)(S:Option Nat)(v:LV)(w:World):Prop:=
 (v=mq->w.heap[l]? = some (.loop (b .ready none)))/\(v=pN->w.heap[l]? = some (.loop (b .done (some (Yw S)))))/\(v≠.top->w.heap[B]? = some (.deferred (some [])))/\isNil v=false
def VX(l B:Nat)(b:LoopState->Option Code->Loop)(S:Option Nat):Dk where
 ds:=[]
 CX:=false
 lo:=0
 ys:=VW l B b S
 keep:=λv w w' h ⟨H,h2,u,y⟩=>⟨(λe=>h _ _ (H e) rfl),(λe=>h _ _ (h2 e) rfl),(λe=>h _ _ (u e) rfl),y⟩
 top:=λw=>⟨(λh=>by cases h),(λh=>by cases h),(λh=>(h rfl).elim),rfl⟩
 tot:=λv w h ⟨_,_,_,y⟩=>by rw[h]at y;cases y
def yb(P:Program)(G:tY)(S:Option Nat)(ps:List Nat)(a b:C)(s:St):YO:=λas af ys U=>ys=mq/\as.head? = some (.yl s.af.length)/\as.tail.length=ps.length/\vc P G a ⟨zL ps as.tail s.env,af⟩ ⟨λs1=>vc P G b s1 ⟨λA=>U mq true A.af,λi A=>i≠TE/\S=some i/\U pN false A.af,λA=>S=none/\U pN false A.af,uP,none⟩,λ_ _=>False,λ_=>False,uP,none⟩
theorem OV{g:Operand}{ps:Array Tmp}{ca cb:Code}{N:Nat}{cg:bF}{xa xb:C}(H:aI g=some cg)(aab:∀x∈ps.toList,x<N){nn:Nat}{D:Dk}{J0:Nat->Prop}{bR:fe}(hmk:D.CX=true)(hlo:D.lo<=w0.heap.size)
  (iha:∀{ro:Option Nat} {nn:Nat} {D:Dk} {aX:Nat->bK} {J0:Nat->Prop} {bR:fe} {w0:World} (s:St) (K:CT),vc P G xa s K->pE P G ro K.y D N aX J0 bR w0->Mx K.b bR->∀a w,mF G D N aX J0 bR w0 s a w->ca.wpIn (fz ro) nn P (KQ G D N aX J0 bR w0 K) a w)
  (ihb:∀{ro:Option Nat} {nn:Nat} {D:Dk} {aX:Nat->bK} {J0:Nat->Prop} {bR:fe} {w0:World} (s:St) (K:CT),vc P G xb s K->pE P G ro K.y D N aX J0 bR w0->Mx K.b bR->∀a w,mF G D N aX J0 bR w0 s a w->cb.wpIn (fz ro) nn P (KQ G D N aX J0 bR w0 K) a w)
  {s:St} {K:CT} {k:Nat} {fs cs:List LV} (mz:callee (cg.ev G s.get)=some (k,fs,cs)) (h:∃(jm:Option Nat) (R:LV->List (Option ah)->Prop),U5 P G k (fs++[.yl s.af.length]++cs) (s.af++[none]) (yb P G jm ps.toList xa xb s) R/\
    ∀yv aC,R yv aC->(yv=mq/\K.n ⟨s.env,aC⟩)\/(yv=pN/\match jm with|some i=>i≠TE/\K.x i ⟨s.env,aC⟩|none=>K.r ⟨s.env,aC⟩)) (a:Act) (w:World) (u:mF G D N aX J0 bR w0 s a w):(Code.rangeFunc g ps ca cb).wpIn (fz none) nn P (KQ G D N aX J0 bR w0 K) a w:=by
 obtain⟨jm,R,⟨hent,hit⟩,hend⟩:=h;obtain⟨J,ι,S,E⟩:=u.ex;have Lr:=aZ S.store S.env H;obtain⟨fs',cs',hval,Xr,hcs⟩:∃fs' cs',a.eval g=.func (.func k) fs' cs'/\cm J w ι fs fs'.toList/\cm J w ι cs cs'.toList:=by
  have e0:cg.ev G (aN s.env)=cg.ev G s.get:=rfl;rw[<- e0]at mz;change cW J w ι (cg.ev G (aN s.env)) _ at Lr;generalize cg.ev G (aN s.env)=x at mz Lr;unfold callee at mz;split at mz
  .cases mz;obtain⟨fs',cs',H,h2,m⟩:=Lr;exact⟨fs',cs',H,h2.CV,m.CV⟩
  .cases mz;obtain⟨fs',cs',H,h2,m⟩:=Lr;exact⟨fs',cs',H,h2,m⟩
  .cases mz
 have adP:=E.ev.size;refine wpIn_rangeFunc λfn hfn=>?_
 let rc:LoopState->Option Code->Loop:=λst pe=>{ state:=st,pending:=pe,fn,tmps:=a.tmps,params:=ps,assign:=ca,body:=cb,defers:=w.heap.size }
 let W1:=(w.alloc (.deferred (some []))).alloc (.loop (rc .ready none))
 have sz1:W1.heap.size=w.heap.size+2:=by simp[W1]
 have hL1:W1.heap[w.heap.size+1 ]? = some (.loop (rc .ready none)):=by have:=alloc_heap_new (w.alloc (.deferred (some []))) (.loop (rc .ready none));rwa [size_alloc]at this
 have hD1:W1.heap[w.heap.size]? = some (.deferred (some [])):=(lG (by simp)).trans (alloc_heap_new w _);have hCN:CN w W1:=(CN.alloc w _).trans (CN.alloc _ _);have ab3:∀b,b<w.heap.size->W1.heap[b]? = w.heap[b]?:=λb V=>(lG (by simp;omega)).trans (lG V)
 let C9:fe:=λo n=>if o=s.af.length/\n=0 then some (w.heap.size+1)else ι o n
 have U:∀n,ι s.af.length n=none:=by have h0:=S.store.rep s.af.length;have hf:s.obj s.af.length=.free:=cD (Nat.le_refl _);rw[hf]at h0;exact h0
 have hi1:∀o n b,ι o n=some b->C9 o n=some b:=λo n b V=>by grind
 have YN:∀o,an (s.af++[none]) o=.dead\/(an (s.af++[none]) o=s.obj o/\∀n,C9 o n=ι o n):=λo=>by
  rcases Nat.lt_trichotomy o s.af.length with O|O|O
  .refine .inr ⟨?_,λn=>?_⟩
   .simp only[an,St.obj,getElem?_append_left O]
   .grind
  .subst O;left;simp[an]
  .refine .inr ⟨?_,λn=>?_⟩
   .rw [cD (by grind)];exact(cD (by omega)).symm
   .grind
 have S1:=S.store.cn hCN hi1 YN;have B7:∀b,Own C9 s.obj b↔Own ι s.obj b:=λb=>by
  constructor
  .rintro ⟨o,O⟩;by_cases hol:o=s.af.length
   .subst hol;have hf:s.obj s.af.length=.free:=cD (Nat.le_refl _);rw[hf]at O;exact O.elim
   .exact ⟨o,(bK.lU (λn=>by grind)).1 O⟩
  .rintro ⟨o,O⟩;by_cases hol:o=s.af.length
   .subst hol;have hf:s.obj s.af.length=.free:=cD (Nat.le_refl _);rw[hf]at O;exact O.elim
   .exact ⟨o,(bK.lU (λn=>by grind)).2 O⟩
 have E1:Ext s.obj (an (s.af++[none])) J J C9 C9 w W1:=by
  refine⟨⟨rfl,rfl,rfl,by omega,λb V _=>ab3 b V,λb V=>?_,λ_ h=>h,λ_ h=>.inl h,λ_ _ _ h=>h⟩,λb V=>?_⟩
  .unfold shape?;rw[ab3 b V]
  .obtain ⟨o,O⟩:=V;rcases YN o with H|⟨H,h2⟩
   .rw [H]at O;exact O.elim
   .rw [H]at O;exact .inl ⟨o,O⟩
 have back:∀{o':Nat->bK} {J':Nat->Prop} {ι':fe} {w':World},Ext s.obj o' J J' C9 ι' w w'->Ext s.obj o' J J' ι ι' w w':=λe=>⟨⟨e.ev.os,e.ev.tape,e.ev.output,e.ev.size,λb V T=>e.ev.same b V (λh=>T ((B7 b).1 h)),e.ev.shape,e.ev.ia,λb V=>(e.ev.uT b V).imp id (λh=>h.imp id (λh=>(B7 b).1 h)),λo n b V=>e.ev.gu o n b (hi1 o n b V)⟩,λb V=>(e.own b V).imp (λh=>(B7 b).1 h) id⟩
 refine⟨w.heap.size+1,[{ target:=.collected w.heap.size,args:=#[] }],W1,{ target:=.fn (.func k) cs',args:=fs'++#[.func (.yield (w.heap.size+1)) #[] #[]] },W1,k,fs'++#[.func (.yield (w.heap.size+1)) #[] #[]]++cs',W1,run_enterLoop_outer _ _ _ _ _,?_,λ_ _=>trivial,?_,(λhh=>by cases hh),?_⟩
 .simp only[resolve,hval,Deferred.ofValue,Sem.run_pure];simp[Act.eval]
 .simp;exact jM hent _ _
 have hargs:cm J W1 C9 (fs++[.yl s.af.length]++cs) (fs'++#[Value.func (.yield (w.heap.size+1)) #[] #[]]++cs').toList:=by simp only[Array.toList_append];have hy1:cm J W1 C9 [.yl s.af.length] [Value.func (.yield (w.heap.size+1)) #[] #[]]:=⟨⟨w.heap.size+1,by simp[C9],rfl⟩,trivial⟩;exact((Xr.cn S.store hCN hi1).append hy1).append (hcs.cn S.store hCN hi1)
 have abQ:VW (w.heap.size+1) w.heap.size rc jm mq W1:=⟨(λ_=>hL1),(λh=>by cases h),(λ_=>hD1),rfl⟩;have adh:=hit (VX (w.heap.size+1) w.heap.size rc jm) s.obj J C9 w J C9 W1 (fs'++#[.func (.yield (w.heap.size+1)) #[] #[]]++cs') rfl rfl S1 hargs E1 abQ
 have Lp:∀N_1,pE P G none (yb P G jm ps.toList xa xb s) (VX (w.heap.size+1) w.heap.size rc jm) N_1 s.obj J C9 w:=by
  intro Nit oy as af ys K' hYv get a2 w2 Ud hys y vs Gk;obtain⟨acW,hhd,hlen,A⟩:=hYv;simp at hhd;subst hhd;obtain⟨J2,Fk,S2,E2,o_,hra⟩:=Gk;obtain⟨b,V,rfl⟩:=o_;have hbl:b=w.heap.size+1:=by have:=E2.ev.gu s.af.length 0 (w.heap.size+1) (by simp[C9]);rw[this]at V;cases V;rfl
  subst hbl;refine⟨_,rfl,λn2=>?_⟩;have Gl:VW (w.heap.size+1) w.heap.size rc jm mq w2:=by have:=S2.ys;rw[hys,acW]at this;exact this
  have hL2:=Gl.1 rfl;have hD2:=Gl.2.2.1 (by simp[mq]);have E2':=back E2;have hvl:vs.length=ps.size:=by rw[<- hra.length];simpa using hlen
  refine⟨fn,_,ca,cb,run_yield (P:=P) (args:=vs.toArray) hL2 (by grind),?_⟩;refine roundIn_of_wpIn (F:=fz none) trivial ?_;have Rh:(ps.zip vs.toArray).foldl (λ(tmps:Array Value) (p:Tmp×Value)=>tmps.setIfInBounds p.1 p.2) a.tmps=(ps.toList.zip vs).foldl (λt (p:Nat×Value)=>t.setIfInBounds p.1 p.2) a.tmps:=by rw[<- Array.foldl_toList];simp[Array.toList_zip]
  have hA3:mF G (Dk.plain [] false) N (an af) J2 Fk w2 ⟨zL ps.toList as s.env,af⟩ ⟨(ps.zip vs.toArray).foldl (λ(tmps:Array Value) (p:Tmp×Value)=>tmps.setIfInBounds p.1 p.2) a.tmps,[]⟩ w2:=by
   refine⟨J2,Fk,⟨S2.store,λt=>?_,?_,Marks.plain _ _,trivial,S.lim⟩,Ext.refl ..⟩
   .rw [Rh];exact E8 ps.toList as vs s.env a.tmps N S.size aab (by grind) hra (λq=>(S.env q).ev S.store E2'.ev) t
   .rw [Rh];simp only[Ci];exact S.size
  refine wpIn_mono (iha (ro:=some (w.heap.size+1)) _ _ A pE.no (Mx.no _) _ _ hA3) ?_;rintro e a3 w3 X;cases e with
  |normal=>
   obtain⟨s1,hA4,hvb⟩:=X;obtain⟨J3,Rn,S3,E3⟩:=hA4.ex;have nc3:=E3.nc S2.store;have Xz:=nc3 _ _ hL2 rfl;have hD3:=nc3 _ _ hD2 rfl;refine⟨_,run_beginRound (P:=P) Xz rfl,?_⟩;have S4:=S3.store.put (.loop { rc .ready none with state:=.busy }) Xz rfl;have hL4:(w3.putObj (w.heap.size+1) (.loop { rc .ready none with state:=.busy })).heap[w.heap.size+1 ]? = some (.loop (rc .busy none)):=putObj_heap_same (Array.getElem?_eq_some_iff.1 Xz).1;have hD4:(w3.putObj (w.heap.size+1) (.loop { rc .ready none with state:=.busy })).heap[w.heap.size]? = some (.deferred (some [])):=(putObj_heap_other (by omega)).trans hD3;have CN3:=CN.put (.loop { rc .ready none with state:=.busy }) Xz rfl;have hA5:mF G (Dk.plain [] false) N s1.obj J3 Rn (w3.putObj (w.heap.size+1) (.loop { rc .ready none with state:=.busy })) s1 a3 (w3.putObj (w.heap.size+1) (.loop { rc .ready none with state:=.busy })):=by refine⟨J3,Rn,⟨S4,λt=>(S3.env t).cn S3.store CN3 (λ_ _ _ h=>h),S3.size,?_,trivial,S3.lim⟩,Ext.refl ..⟩;have:=S3.defers.none rfl;rw[this];exact Marks.plain _ _
   have E4:Ext s.obj s1.obj J J3 C9 Rn w (w3.putObj (w.heap.size+1) (.loop { rc .ready none with state:=.busy })):=(E2.trans E3).put _ Xz rfl (by omega) rfl;refine wpIn_mono (ihb (ro:=some (w.heap.size+1)) _ _ hvb pE.no (Mx.no _) a3 _ hA5) ?_;rintro e a5 w5 X
   have close:∀(s5:St) (pe:Option Code) (yv:LV) (bb:Bool),mF G (Dk.plain [] false) N s1.obj J3 Rn (w3.putObj (w.heap.size+1) (.loop { rc .ready none with state:=.busy })) s5 a5 w5->K' yv bb s5.af->bb=pe.isNone->(∀(J:Nat->Prop) w ι,cW J w ι yv Go.undef)->
     (∀w6:World,w6.heap[w.heap.size+1 ]? = some (.loop (rc (if pe.isNone then .ready else .done) pe))->w6.heap[w.heap.size]? = some (.deferred (some []))->VW (w.heap.size+1) w.heap.size rc jm yv w6)->
     ∃v w6,(Instr.endRound (w.heap.size+1) pe).run P w5=.ok v w6/\(λ(e:Ending) w'=>∃ys' b aC,e=.returned (.bool b)/\K' ys' b aC/\∀dst,(∀d,dst=some d->d<Nit)->At G (VX (w.heap.size+1) w.heap.size rc jm) Nit s.obj J C9 w (iq dst (.bool b) (λt=>if YS=t then ys' else get t)) (an aC) (a2.put dst (.bool b)) w') (.returned v) w6:=by
    intro s5 pe yv bb hA6 hk hbb abN hrecv;obtain⟨J5,ι5,S5,E5⟩:=hA6.ex;have nc5:=E5.nc S4;have hL5:=nc5 _ _ hL4 rfl;have hD5:=nc5 _ _ hD4 rfl;have CN5:=CN.put (.loop { rc .busy none with state:=if pe.isNone then .ready else .done,pending:=pe }) hL5 rfl;refine⟨_,_,run_endRound (P:=P) pe hL5,yv,bb,s5.af,by rw[hbb],hk,λdst hd=>?_⟩;refine⟨J5,ι5,⟨S5.store.put _ hL5 rfl,λt=>?_,?_,?_,?_,S2.lim⟩,(E4.trans E5).put _ hL5 rfl (by omega) rfl⟩
    .have hold:∀t,cW J5 (w5.putObj (w.heap.size+1) (.loop { rc .busy none with state:=if pe.isNone then .ready else .done,pending:=pe })) ι5 (if YS=t then yv else get t) (a2.tmps.getD t Go.undef):=by
      intro t;by_cases B:YS=t
      .rw [if_pos B];have:a2.tmps.getD t Go.undef=Go.undef:=by
        have H:=S2.size;have h2:=S2.lim;rw[Array.getD_eq_getD_getElem?,Array.getElem?_eq_none (by omega)];rfl
       rw[this];exact abN _ _ _
      .rw [if_neg B];exact((((S2.env t).ev S2.store E3.ev).cn S3.store CN3 (λ_ _ _ h=>h)).ev S4 E5.ev).cn S5.store CN5 (λ_ _ _ h=>h)
     cases dst with
     |none=>simpa[iq,Act.put]using hold t
     |some d=>
      have hdN:=hd d rfl;simp only[iq,Act.put,Option.some.injEq];by_cases B:d=t
      .subst B;rw[if_pos rfl];have:(a2.tmps.setIfInBounds d (.bool bb)).getD d Go.undef=.bool bb:=by simp[Array.getD_eq_getD_getElem?,S2.size,hdN]
       rw[this];rfl
      .simp_all
    .cases dst<;>simp[Act.put,S2.size]
    .have H:=S2.defers.none rfl;have h2:(a2.put dst (.bool bb)).defers=a2.defers:=by cases dst<;>rfl
     rw[h2,H];exact Marks.plain (VX (w.heap.size+1) w.heap.size rc jm) _
    .have h2:iq dst (.bool bb) (λt=>if YS=t then yv else get t) YS=yv:=by
      unfold iq;rw[if_neg]
      .simp
      .intro h;have m:=hd YS h;have:=S2.lim;omega
     rw[h2];exact hrecv _ (putObj_heap_same (Array.getElem?_eq_some_iff.1 hL5).1) ((putObj_heap_other (by omega)).trans hD5)
   cases e with
   |normal=>obtain⟨s5,hA6,hk⟩:=X;exact close s5 none mq true hA6 hk rfl (λ_ _ _=>rfl) (λw6 H h2=>⟨(λ_=>H),(λh=>by cases h),(λ_=>h2),rfl⟩)
   |exit i=>obtain⟨YX,s5,hA6,_,hjm,hk⟩:=X;subst hjm;exact close s5 (some (.exit i)) pN false hA6 hk rfl (λ_ _ _=>⟨#[],rfl,trivial⟩) (λw6 H h2=>⟨(λh=>by cases h),(λ_=>H),(λ_=>h2),rfl⟩)
   |ret=>obtain⟨s5,hA6,hjm,hk⟩:=X;subst hjm;exact close s5 (some .ret) pN false hA6 hk rfl (λ_ _ _=>⟨#[],rfl,trivial⟩) (λw6 H h2=>⟨(λh=>by cases h),(λ_=>H),(λ_=>h2),rfl⟩)
   |goto l=>exact X.elim
   |panic ch=>obtain⟨v,c,_,_,_,Z,_⟩:=X;exact(Z rfl).elim
   |outgrown=>exact X.elim
  |exit i=>exact X.2.elim (λ_ h=>h.2)
  |ret=>exact X.elim (λ_ h=>h.2)
  |goto l=>exact X.elim
  |panic ch=>obtain⟨v,c,_,_,_,Z⟩:=X;exact Z.elim
  |outgrown=>exact X.elim
 refine pV.2 (Calls.mono (adh Lp) ?_);rintro e w3 ⟨v,rfl,yv,aC,J3,Rn,hR,Gl,S3,E3⟩;have E3':=back E3;have fin:∀(st:LoopState) (pe:Option Code),w3.heap[w.heap.size+1 ]? = some (.loop (rc st pe))->w3.heap[w.heap.size]? = some (.deferred (some []))->
   mF G D N aX J0 bR w0 ⟨s.env,aC⟩ { a with defers:=[{ target:=.collected w.heap.size,args:=#[] }]++a.defers } (w3.putObj (w.heap.size+1) (.loop { rc st pe with state:=.exhausted })):=by
  intro st pe Xz hD3;have CN3:=CN.put (.loop { rc st pe with state:=.exhausted }) Xz rfl;have E4:=E3'.put (.loop { rc st pe with state:=.exhausted }) Xz rfl (by omega) rfl;have nc:lJ w (w3.putObj (w.heap.size+1) (.loop { rc st pe with state:=.exhausted })):=E4.nc S.store;refine⟨J3,Rn,⟨S3.put _ Xz rfl,λt=>((S.env t).ev S.store E3'.ev).cn S3 CN3 (λ_ _ _ h=>h),S.size,?_,D.keep _ _ _ nc S.ys,S.lim⟩,E.trans E4⟩;obtain⟨Bs,H,h2,m,h4⟩:=S.defers;refine⟨w.heap.size::Bs,(λh=>by grind),nodup_cons.2 ⟨λh=>?_,h2⟩,by simp[m],λb V=>?_⟩
  .grind
  .rcases mem_cons.1 V with rfl|V
   .exact ⟨by omega,(putObj_heap_other (by omega)).trans hD3⟩
   .exact ⟨(h4 b V).1,nc _ _ (h4 b V).2 rfl⟩
 rcases hend yv aC hR with ⟨rfl,hk⟩|⟨rfl,hk⟩
 .exact ⟨none,_,run_endLoop (P:=P) (Gl.1 rfl) (by simp[rc]),_,fin _ _ (Gl.1 rfl) (Gl.2.2.1 (by simp[mq])),hk⟩
 .refine ⟨some (Yw jm),_,run_endLoop (P:=P) (Gl.2.1 rfl) (by simp[rc]),?_⟩;have hf:=fin _ _ (Gl.2.1 rfl) (Gl.2.2.1 (by simp[pN]));cases jm with
  |none=>exact wpIn_ret ⟨_,hf,hk⟩
  |some i=>exact wpIn_exit ⟨hk.1,_,hf,hk.2⟩
theorem ez:∀(code:Code) (c:C) {N:Nat},dW P N code=some c->∀{ro:Option Nat} {nn:Nat} {D:Dk} {aX:Nat->bK} {J0:Nat->Prop} {bR:fe} {w0:World} (hrf:lW c=true\/(ro=none/\D.CX=true/\D.lo<=w0.heap.size)) (s:St) (K:CT),vc P G c s K->pE P G ro K.y D N aX J0 bR w0->Mx K.b bR->∀a w,mF G D N aX J0 bR w0 s a w->code.wpIn (fz ro) nn P (KQ G D N aX J0 bR w0 K) a w
 |.skip,c,N,U,ro,nn,D,aX,J0,bR,w0,hrf,s,K,h,hY,hB,a,w,u=>by simp only[dW]at U;cases U;exact wpIn_skip ⟨s,u,h⟩
 |.region rid ops draw,c,N,U,ro,nn,D,aX,J0,bR,w0,hrf,s,K,h,hY,hB,a,w,u=>by
  simp only[dW]at U;split at U
  .rename_i gh Gn;cases U;cases draw with
   |false=>obtain⟨H,h2⟩:=oG Gn;exact wpIn_region_list (ya hY (K:=K.n) (λs a w u hK=>⟨s,u,hK⟩) (λv s a w hd hO hX=>⟨v,s,rfl,hd,hO,hX⟩) _ _ _ _ _ H h2 h u)
   |true=>
    simp at h;unfold Ky at h;split at h
    .rename_i p r;split at h
     .rename_i io Dp;exact UC hY (K:=K.n) (λs a w u hK=>⟨s,u,hK⟩) (λv s a w hd hO hX=>⟨v,s,rfl,hd,hO,hX⟩) Gn Dp (find?_some r) h u
     .simp only[vc]at h;exact Co (K:=K.n) (λs a w u hK=>⟨s,u,hK⟩) (λv s a w hd hO hX=>⟨v,s,rfl,hd,hO,hX⟩) Gn h u
    .simp only[vc]at h;exact Co (K:=K.n) (λs a w u hK=>⟨s,u,hK⟩) (λv s a w hd hO hX=>⟨v,s,rfl,hd,hO,hX⟩) Gn h u
  .cases U
 |.seq x y,c,N,U,ro,nn,D,aX,J0,bR,w0,hrf,s,K,h,hY,hB,a,w,u=>by
  simp only[dW]at U;split at U
  .rename_i cx cy H h2;cases U;have B:=hrf.imp (λh=>by simp only[lW,and_eq_true]at h;exact h.1) id;have Z:=hrf.imp (λh=>by simp only[lW,and_eq_true]at h;exact h.2) id;refine wpIn_seq (wpIn_mono (ez x cx H B s _ h hY hB a w u) (λe a' w' X=>?_));cases e with
   |normal=>obtain⟨A,JR,hk⟩:=X;exact ez y cy h2 Z A K hk hY hB a' w' JR
   |exit i=>exact X
   |ret=>exact X
   |goto l=>exact X.elim
   |panic ch=>exact X
   |outgrown=>exact X.elim
  .cases U
 |.cond x y z,c,N,U,ro,nn,D,aX,J0,bR,w0,hrf,s,K,h,hY,hB,a,w,u=>by
  simp only[dW]at U;split at U
  .rename_i cx cy cz H h2 m;cases U;have Z:=hrf.imp (λh=>by simp only[lW,and_eq_true]at h;exact h.1) id;have hrz:=hrf.imp (λh=>by simp only[lW,and_eq_true]at h;exact h.2) id;simp only[vc]at h;split at h
   .rename_i t T;have q:a.eval x=.bool t:=by
     obtain⟨J,ι,S,E⟩:=u.ex;have hr:=aZ S.store S.env H;rw[T]at hr;exact hr
    exact wpIn_cond_split q (λhh=>ez y cy h2 Z s K (by grind) hY hB a w u) (λhh=>ez z cz m hrz s K (by grind) hY hB a w u)
   .rename_i T;obtain⟨t,q⟩:∃t,a.eval x=.bool t:=by
     obtain⟨J,ι,S,E⟩:=u.ex;have hr:=aZ S.store S.env H;rw[T]at hr;exact hr
    exact wpIn_cond_split q (λhh=>ez y cy h2 Z s K h.1 hY hB a w u) (λhh=>ez z cz m hrz s K h.2 hY hB a w u)
   .grind
  .cases U
 |.block i x,c,N,U,ro,nn,D,aX,J0,bR,w0,hrf,s,K,h,hY,hB,a,w,u=>by
  simp only[dW]at U;split at U
  .rename_i cx H;by_cases YX:i=TE
   .grind
   rw[if_neg YX]at U;cases U;refine wpIn_block (wpIn_mono (ez x cx H hrf s _ h hY hB a w u) (λe a' w' X=>?_));cases e with
   |normal=>exact X
   |exit j=>
    obtain⟨hjP,A,JR,hk⟩:=X;simp only[Exit.inBlock];dsimp only at hk;by_cases hj:j=i
    .rw [if_pos hj]at hk ⊢;exact⟨A,JR,hk⟩
    .rw [if_neg hj]at hk ⊢;exact⟨hjP,A,JR,hk⟩
   |ret=>exact X
   |goto l=>exact X.elim
   |panic ch=>obtain⟨v,A,H,h2,m,hk⟩:=X;dsimp only at hk;rw[if_neg (λe=>YX e.symm)]at hk;exact⟨v,A,H,h2,m,hk⟩
   |outgrown=>exact X.elim
  .cases U
 |.loop x,c,N,U,ro,nn,D,aX,J0,bR,w0,hrf,s,K,h,hY,hB,a,w,u=>by
  simp only[dW]at U;split at U
  .rename_i cx H;cases U;obtain⟨ts,I,M,ad,hI,hstep⟩:=h;replace u:=u.bQ ad;have O:∀o n b,bR o n=some b->o<(bQ ad s).af.length:=λo n b V=>u.bound V
   have key:∀n k A a w,k<n->I k A->mF G D N aX J0 bR w0 A a w->Code.roundsIn (fz ro) nn P x (KQ G D N aX J0 bR w0 K) n a w:=by
    intro n
    induction n with
    |zero=>grind
    |succ n ih=>
     intro k A a w hk hIk JR;refine wpIn_mono (ez x cx H hrf A _ (hstep k A hIk) hY hB a w JR) (λe a' w' X=>?_);cases e with
     |normal=>obtain⟨s'',ady,j,hj,s3,hIj,himp⟩:=X;exact ih j _ a' w' (by omega) hIj (himp _ _ _ _ _ _ _ _ (hB.lt O) ady)
     |exit i=>exact X
     |ret=>exact X
     |goto l=>exact X.elim
     |panic ch=>exact X
     |outgrown=>exact X.elim
   exact wpIn_loop_rounds (M+1) (key (M+1) M _ a w (by omega) hI (u.abB ts))
  .cases U
 |.exit i,c,N,U,ro,nn,D,aX,J0,bR,w0,hrf,s,K,h,hY,hB,a,w,u=>by
  simp only[dW]at U;by_cases YX:i=TE
  .grind
  rw[if_neg YX]at U;cases U;exact wpIn_exit ⟨YX,s,u,h⟩
 |.scope x,c,N,U,ro,nn,D,aX,J0,bR,w0,hrf,s,K,h,hY,hB,a,w,u=>by
  simp only[dW]at U;split at U
  .rename_i cx H;cases U;refine tK (wpIn_mono (ez x cx H hrf s K h hY hB a w u) (λe a' w' X=>?_));cases e with
   |normal=>exact X
   |exit i=>exact X
   |ret=>exact X
   |goto l=>exact X.elim
   |panic ch=>exact X
   |outgrown=>exact X.elim
  .cases U
 |.ret,c,N,U,ro,nn,D,aX,J0,bR,w0,hrf,s,K,h,hY,hB,a,w,u=>by simp only[dW]at U;cases U;exact wpIn_ret ⟨s,u,h⟩
 |.label _,c,N,U,ro,nn,D,aX,J0,bR,w0,hrf,s,K,h,hY,hB,a,w,u=>by simp only[dW]at U;cases U;exact wpIn_label ⟨s,u,h⟩
 |.goto _,c,N,U,_,_,_,_,_,_,_,_,_,_,_,_,_,_,_,_=>by simp[dW]at U
 |.refuse _,c,N,U,_,_,_,_,_,_,_,_,_,_,_,_,_,_,_,_=>by simp[dW]at U
 |.rangeFunc g ps ca cb,c,N,U,ro,nn,D,aX,J0,bR,w0,hrf,s,K,h,hY,hB,a,w,u=>by
  simp only[dW]at U;split at U
  .rename_i cg xa xb H h2 m;split at U
   .rename_i hok;cases U;simp only[and_eq_true,all_eq_true,decide_eq_true_eq]at hok;obtain⟨⟨hna,hnb⟩,aab⟩:=hok;obtain⟨hro,hmk,hlo⟩:ro=none/\D.CX=true/\D.lo<=w0.heap.size:=hrf.resolve_left (by simp[lW]);subst hro;simp only[vc]at h;split at h
    .rename_i k fs cs mz;exact OV H aab hmk hlo (λs K h hY hB a w u=>ez ca xa h2 (.inl hna) s K h hY hB a w u) (λs K h hY hB a w u=>ez cb xb m (.inl hnb) s K h hY hB a w u) mz h a w u
    .grind
   .cases U
  .cases U
end
def RV.of(s:St):RV->Option LV
 |.t n=>some (s.get n)
 |.c1 n=>match s.get n with
  |.ptr o col=>match s.obj o with
   |.live (.box _ cells)=>cells[col]?
   |_=>none
  |_=>none
 |.cn n size=>match s.get n with
  |.ptr o col=>match s.obj o with
   |.live (.box _ cells)=>if((cells.drop col).take size).length=size then some (.agg ((cells.drop col).take size))else none
   |_=>none
  |_=>none
def gi.of(s:St):List RV->Option (List LV)
 |[]=>some []
 |x::xs=>match x.of s,gi.of s xs with
  |some v,some vs=>some (v::vs)
  |_,_=>none
def aR:List LV->LV
 |[x]=>x
 |xs=>.cZ xs
def GA(P:Program):ResultVar->Option RV
 |.tmp t=>some (.t t)
 |.cell a T=>match qa P T,dY P T with
  |some true,some n=>some (.cn a n)
  |some false,some _=>some (.c1 a)
  |_,_=>none
def jA(P:Program):List ResultVar->Option (List RV)
 |[]=>some []
 |x::xs=>match GA P x,jA P xs with
  |some y,some ys=>some (y::ys)
  |_,_=>none
def bM(P:Program)(fn:Func):Option (Nat×C×List RV):=match fn.body with
 |some code=>match dW P fn.ntmps code,jA P fn.results.toList with
  |some c,some rv=>if fn.ntmps<=YS then some (fn.ntmps,c,rv)else none
  |_,_=>none
 |none=>none
def dU:Nat->List LV->List (Nat×LV)
 |_,[]=>[]
 |k,x::xs=>(k,x)::dU (k+1) xs
def U7(rv:List RV)(k:Nat)(r:LV)(aj:List ah)(s:St):Prop:=
 ∃vs ρ Z,gi.of s rv=some vs/\ρ.take k=List.range k/\ρ.Nodup/\(∀z∈Z,z∉ρ)/\(∀z∈Z,∃et e rows,s.obj z=.live (.dat et e rows)\/s.obj z=.live (.k9 et e rows))/\aj.length=ρ.length/\
  (∀(i o:Nat),ρ[i]? = some o->∃ob,aj[i]? = some ob/\s.obj o=.live (bP (gz ρ 0) ob))/\aj.all (aP ρ.length)=true/\aB s.obj ρ Z (aR vs) r
def Rj(rv:List RV)(k:Nat)(r:LV)(aj:List ah)(s:St):Prop:=∃q,U7 rv k r aj (bQ q s)
def FR(tmps:Array Value):ResultVar->Sem Value
 |.tmp q=>pure (tmps.getD q Go.undef)
 |.cell p T=>do loadVar T (<- asAddr (tmps.getD p Go.undef))
def qu(fn:Func)(tmps:Array Value):results fn tmps=(do let vs <- fn.results.mapM (FR tmps);pure (if h:vs.size=1 then vs[0]else .tuple vs)):=rfl
section
variable {P:Program} {G:tY} {N:Nat} {J:Nat->Prop} {w:World} {ι:fe}
def RV.sound{s:St}(S:aA G J w ι s.obj)(c:∀t,cW J w ι (s.get t) (a.tmps.getD t Go.undef)){x:ResultVar}{y:RV}(U:GA P x=some y)(hr:y.of s=some r) :
  ∃v,(FR a.tmps x).run P w=.ok v w/\cW J w ι r v:=by
 cases x with
 |tmp q=>simp only[GA]at U;cases U;simp only[RV.of]at hr;cases hr;exact⟨_,rfl,c q⟩
 |cell p T=>
  simp only[GA]at U;split at U
  .rename_i n B hs;cases U;simp only[RV.of]at hr;split at hr
   .rename_i o col h;split at hr
    .rename_i et cells O;split at hr
     .rename_i k;cases hr;have e:=c p;rw[h]at e;obtain⟨b,V,A⟩:=e;have h0:=S.rep o;rw[O]at h0;obtain⟨⟨b',Cc,H,h2,K⟩,_⟩:=h0;rw[V]at H;cases H;have X:=(K.drop col).take n;have Z:=Ag (P:=P) B hs (j_ h2 col n) (by rw[<- X.length,k]);refine⟨_,?_,⟨_,rfl,by omega⟩⟩;simp only[FR];rw[A];simpa[Instr.loadAt,Instr.sureAddr,asAddr]using Z
     .cases hr
    .cases hr
   .cases hr
  .rename_i n B hs;cases U;simp only[RV.of]at hr;split at hr
   .rename_i o col h;split at hr
    .rename_i et cells O;have e:=c p;rw[h]at e;obtain⟨b,V,A⟩:=e;have h0:=S.rep o;rw[O]at h0;obtain⟨⟨b',Cc,H,h2,K⟩,_⟩:=h0;rw[V]at H;cases H;obtain⟨u,m,_,IB⟩:=K.get hr;have Z:=tn (P:=P) (w:=w) B (b:=b) (o:=col) (v:=u) (by rw[cell_of_row w b col Cc et _ h2];simpa using m);refine⟨u,?_,IB⟩;simp only[FR];rw[A];simpa[Instr.loadAt,Instr.sureAddr,asAddr]using Z
    .cases hr
   .cases hr
  .cases U
def gi.sound{s:St}{a:Act}(S:aA G J w ι s.obj)(c:∀t,cW J w ι (s.get t) (a.tmps.getD t Go.undef)):∀{xs:List ResultVar} {ys:List RV},jA P xs=some ys->∀{rs:List LV},gi.of s ys=some rs->
  ∃vs,(xs.mapM (FR a.tmps)).run P w=.ok vs w/\cm J w ι rs vs
 |[],ys,U,rs,hr=>by simp only[jA]at U;cases U;simp only[gi.of]at hr;cases hr;exact⟨[],rfl,trivial⟩
 |x::xs,ys,U,rs,hr=>by
  simp only[jA]at U;split at U
  .rename_i y o H h2;cases U;simp only[gi.of]at hr;split at hr
   .rename_i v vs K r;cases hr;obtain⟨u,m,b⟩:=RV.sound S c H K;obtain⟨us,q,B⟩:=gi.sound S c h2 r;refine⟨u::us,?_,b,B⟩;rw[mapM_cons,Sem.run_bind,m];simp only[Result.andThen_ok,Sem.run_bind,q,Sem.run_pure]
   .cases hr
  .cases U
theorem nU:∀(xs:List LV) (vs:List Value) (k t:Nat),cm J w ι xs vs->cW J w ι (aN (dU k xs) t) (if k<=t then(vs[t-k]?).getD Go.undef else Go.undef)
 |[],[],k,t,_=>trivial
 |x::xs,v::vs,k,t,h=>by
  simp only[dU,aN];by_cases hk:k=t
  .subst hk;simpa using h.1
  .rw [if_neg hk];have:=nU xs vs (k+1) t h.2;by_cases q:k<=t
   .grind
   .grind
 |[],_::_,_,_,h=>h.elim
 |_::_,[],_,_,h=>h.elim
def wM{n:Nat}{fn:Func}{tmps:Array Value}{R:Ending->World->Prop}{obj aX:Nat->bK}{J0:Nat->Prop}{bR:fe}{w0:World}{get:Nat->LV}
  (fin:∀w,aA G J w ι obj->(∀t,cW J w ι (get t) (tmps.getD t Go.undef))->Ext aX obj J0 J bR ι w0 w->∃v,(results fn tmps).run P w=.ok v w/\R (.returned v) w) :
  ∀(o:List Nat) (w:World),o.Nodup->(∀b∈o,w0.heap.size<=b/\w.heap[b]? = some (.deferred (some [])))->aA G J w ι obj->(∀t,cW J w ι (get t) (tmps.getD t Go.undef))->Ext aX obj J0 J bR ι w0 w->
   LeavesInM (fz none) n P fn tmps R (o.map λb=>{ target:=.collected b,args:=#[] }) .returning w
 |[],w,_,_,S,c,E=>fin w S c E
 |b::o,w,T,V,S,c,E=>by
  obtain⟨H,h2⟩:=V b (by simp);have m:=nodup_cons.1 T;have k:=CN.put (.deferred none) h2 rfl;refine⟨by simp,.inl ⟨b,_,rfl,run_takeDeferred (P:=P) h2,?_⟩⟩;refine wM fin o _ m.2 (λu X=>?_) (S.put _ h2 rfl) (λt=>(c t).cn S k (λ_ _ _ h=>h)) (E.put _ h2 rfl H rfl);have x:u≠b:=λe=>m.1 (e▸X)
  exact⟨(V u (by simp[X])).1,(putObj_heap_other x).trans (V u (by simp[X])).2⟩
theorem MD{f:Nat}{c:C}{rv:List RV}(hf:P.funcs[f]? = some fn)(T:fn.name≠ "runtime.NumGoroutine")(wR:bM P fn=some (N,c,rv))(k:args.length<=N)(bb:Option Nat)
  (h:vc P G c ⟨dU 0 args,ai.map some⟩ ⟨Rj rv ai.length r aj,λ_ _=>False,Rj rv ai.length r aj,uP,bb⟩) (hbb:∀B,bb=some B->ai.length<=B):gd P G f args ai r aj:=by
 unfold bM at wR;split at wR
 .rename_i code hbody;split at wR
  .rename_i c' rv' U Vc;split at wR;case isFalse=>cases wR
   rename_i hlim;cases wR;refine⟨by simp[lH,hf,T,hbody],λJ0 bR w0 vs S0 hargs=>?_⟩;have hvl:vs.size=args.length:=by have:=hargs.length;simpa using this.symm
   refine(pV (ro:=none) (n:=0)).1 (callsIn_of_wp_marks hf hbody trivial (wpIn_mono (ez (N:=fn.ntmps) (D:=Dk.plain [] true w0.heap.size) (aX:=an (ai.map some)) (J0:=J0) (bR:=bR) (w0:=w0) code c U (.inr ⟨rfl,rfl,Nat.le_refl _⟩) _ _ h pE.no (λB hB o n x q=>Nat.lt_of_not_le (λO=>by have:=S0.rep o;rw[cD (by grind)]at this;rw[this n]at q;cases q)) _ w0 ⟨J0,bR,⟨S0,λt=>?_,?_,Marks.plain _ _,trivial,hlim⟩,Ext.refl ..⟩) (λe a w m=>?_)))
   .have H:=nU args vs.toList 0 t hargs;have h2:(vs++Array.replicate (fn.ntmps-vs.size) Go.undef).getD t Go.undef=(vs.toList[t]?).getD Go.undef:=by
     simp only[Array.getD_eq_getD_getElem?,Array.getElem?_append,Array.getElem?_toList];by_cases ht:t<vs.size
     .grind
     .grind
    rw[h2];exact H
   .grind
   .have fin:∀s,mF G (Dk.plain [] true w0.heap.size) fn.ntmps (an (ai.map some)) J0 bR w0 s a w->Rj rv ai.length r aj s->
     LeavesInM (fz none) 0 P fn a.tmps (λe w'=>∃v,e=.returned v/\aO G (an (ai.map some)) (an (aj.map some)) J0 bR w0 r v w') a.defers .returning w:=by
     intro s X hB;obtain⟨ad,hB⟩:=hB;replace X:=X.bQ ad;generalize bQ ad s=s at X hB;obtain⟨J,ι,S,E⟩:=X.ex;obtain⟨rs,ρ,Z,sH,hk,hnd,hz,LD,hlen,zY,hid,hR⟩:=hB;obtain⟨Bs,_,hBn,hBd,hBm⟩:=S.defers;have adw:a.defers=Bs.map (λb=>{ target:=.collected b,args:=#[] }):=by rw[hBd];simp[Dk.plain]
     rw[adw];refine wM (get:=s.get) ?_ Bs w hBn hBm S.store S.env E;intro w Sst adK E;obtain⟨us,Vb,Ln⟩:=gi.sound Sst adK Vc sH;have hm:(fn.results.mapM (FR a.tmps)).run P w=.ok us.toArray w:=by rw[Array.mapM_eq_mapM_toList,Sem.run_map,Vb];rfl
     have A:∃v,(results fn a.tmps).run P w=.ok v w/\cW J w ι (aR rs) v:=by
      refine⟨if h:us.toArray.size=1 then us.toArray[0]else .tuple us.toArray,?_,?_⟩
      .rw [qu,Sem.run_bind,hm];rfl
      .have PM:=Ln.length;cases rs with
       |nil=>
        cases us with
        |nil=>exact⟨#[],rfl,trivial⟩
        |cons _ _=>grind
       |cons x xs=>
        cases us with
        |nil=>grind
        |cons u us=>
         cases xs with
         |nil=>
          cases us with
          |nil=>exact Ln.1
          |cons _ _=>grind
         |cons y ys=>
          cases us with
          |nil=>grind
          |cons u2 us=>exact⟨_,by simp,Ln⟩
     obtain⟨v,hv1,Xk⟩:=A;refine⟨v,hv1,v,rfl,?_⟩;obtain⟨S',hown⟩:=Sst.sub (base:=0) hnd hz hlen zY hid (λz hz=>.inl (LD z hz));refine⟨_,_,S',Nk Sst _ _ v hR Xk,⟨E.ev.os,E.ev.tape,E.ev.output,E.ev.size,E.ev.same,E.ev.shape,λb V=>.inl (E.ev.ia b V),λb V=>?_,λo n b V=>?_⟩,?_⟩
     .rcases V with V|⟨z,TL,Rg⟩
      .exact E.ev.uT b V
      .rcases E.own b ⟨z,Rg⟩with H|H
       .grind
       .grind
     .have O:o<ai.length:=by
       rcases Nat.lt_or_ge o ai.length with H|H
       .exact H
       .have:=S0.rep o;rw[cD (by grind)]at this;rw[this n]at V;cases V
      have Z3:ρ[o]? = some o:=by
       have H:(ρ.take ai.length)[o]? = some o:=by grind
       rwa [getElem?_take_of_lt O]at H
      exact lK Z3 (E.ev.gu o n b V)
     .rintro b ⟨i,V⟩;obtain⟨o,_,h2⟩:=hown i b V;exact E.own b ⟨o,h2⟩
    cases e with
    |normal=>obtain⟨s,X,hB⟩:=m;exact fin s X hB
    |ret=>obtain⟨s,X,hB⟩:=m;exact fin s X hB
    |exit i=>obtain⟨_,s,X,hB⟩:=m;exact hB.elim
    |goto l=>exact m.elim
    |panic ch=>obtain⟨v,s,H,h2,K,hk⟩:=m;exact hk.elim
    |outgrown=>exact m.elim
  .cases wR
 .cases wR
def FA{f:Nat}{c:C}{rv:List RV}(V:P.funcs[f]? = some fn)(T:fn.name≠ "runtime.NumGoroutine")(b:bM P fn=some (N,c,rv))(y:args.length<=N)
  (h:vc P G c ⟨dU 0 args,ai.map some⟩ ⟨Rj rv ai.length r aj,λ_ _=>False,Rj rv ai.length r aj,uP,none⟩):gd P G f args ai r aj:=
 MD V T b y none h (λ_ h=>by cases h)
theorem WU{f:Nat}{c:C}{rv:List RV}{af:List (Option ah)}{Y:YO}{R:LV->List (Option ah)->Prop}(V:P.funcs[f]? = some fn)(T:fn.name≠ "runtime.NumGoroutine")(b:bM P fn=some (N,c,rv))(y:args.length<=N)(Rf:lW c=true)
  (h:vc P G c ⟨(YS,mq)::dU 0 args,af⟩ ⟨λs=>R (s.get YS) s.af/\rv=[],λ_ _=>False,λs=>R (s.get YS) s.af/\rv=[],Y,none⟩):U5 P G f args af Y R:=by
 unfold bM at b;split at b
 .rename_i code A;split at b
  .rename_i c' rv' U r;split at b;case isFalse=>cases b
   rename_i x;cases b;refine⟨by simp[lH,V,T,A],λD aX J0 bR w0 J ι w vs hds hmk S0 q E0 hys k=>?_⟩;have hvl:vs.size=args.length:=by have:=q.length;simpa using this.symm
   refine(pV (ro:=none) (n:=0)).1 (callsIn_of_wp V A trivial (wpIn_mono (ez (N:=fn.ntmps) (D:=D) (aX:=aX) (J0:=J0) (bR:=bR) (w0:=w0) code c U (.inl Rf) _ _ h (k _) (Mx.no _) _ w ⟨J,ι,⟨S0,λt=>?_,?_,?_,?_,x⟩,E0⟩) (λe a w X=>?_)))
   .have m:(vs++Array.replicate (fn.ntmps-vs.size) Go.undef).size=fn.ntmps:=by simp;omega
    show cW J w ι (if YS=t then mq else aN (dU 0 args) t) _;by_cases B:YS=t
    .rw [if_pos B];have:(vs++Array.replicate (fn.ntmps-vs.size) Go.undef).getD t Go.undef=Go.undef:=by grind
     rw[this];rfl
    rw[if_neg B];have H:=nU args vs.toList 0 t q;have h2:(vs++Array.replicate (fn.ntmps-vs.size) Go.undef).getD t Go.undef=(vs.toList[t]?).getD Go.undef:=by
     simp only[Array.getD_eq_getD_getElem?,Array.getElem?_append,Array.getElem?_toList];by_cases B:t<vs.size
     .grind
     .grind
    rw[h2];exact H
   .grind
   .show Marks D [] _;rw[<- hds];exact Marks.plain _ _
   .exact hys
   .have fin:∀s,mF G D fn.ntmps aX J0 bR w0 s a w->R (s.get YS) s.af/\rv=[]->
     a.defers=[]/\∃v,(results fn a.tmps).run P w=.ok v w/\(λ(e:Ending) w'=>∃v,e=.returned v/\∃yv aC J' ι',R yv aC/\D.ys yv w'/\aA G J' w' ι' (an aC)/\Ext aX (an aC) J0 J' bR ι' w0 w') (.returned v) w:=by
     intro s u Z;obtain⟨J,ι,S,E⟩:=u.ex;have hd:a.defers=[]:=by rw[S.defers.none hmk,hds]
     refine⟨hd,?_⟩;obtain⟨hR,rfl⟩:=Z;obtain⟨us,Vb,o⟩:=gi.sound S.store S.env r (rs:=[]) rfl;have O:(fn.results.mapM (FR a.tmps)).run P w=.ok us.toArray w:=by rw[Array.mapM_eq_mapM_toList,Sem.run_map,Vb];rfl
     refine⟨if h:us.toArray.size=1 then us.toArray[0]else .tuple us.toArray,?_,_,rfl,_,_,J,ι,hR,S.ys,S.store,E⟩;rw[qu,Sem.run_bind,O];rfl
    cases e with
    |normal=>obtain⟨s,u,Z⟩:=X;exact fin s u Z
    |ret=>obtain⟨s,u,Z⟩:=X;exact fin s u Z
    |exit i=>obtain⟨_,s,u,Z⟩:=X;exact Z.elim
    |goto l=>exact X.elim
    |panic ch=>obtain⟨v,s,H,h2,K,hk⟩:=X;exact hk.elim
    |outgrown=>exact X.elim
  .cases b
 .cases b
end
end
end Dv
