/- part of the proof -/
import Derived.Test.YtjabcoodhpefhaaGreatDoorXC
import Derived.Tactics
import Derived.Tactics2
import Derived.Defers
import Derived.Recover
import Derived.Laws.Pointers
set_option linter.all false
set_option maxHeartbeats 8000000
set_option maxRecDepth 1000000
namespace Go.Proofs
open Go.RowKit Go.Shelf
variable(m:Int)(k:Nat)
attribute [local go_sem] Oper.semAt_some
def fB(m:Int):Nat->List (Fin 6)
 |0=>[]
 |k+1=>fB m k++if h:k<6 then(if Dv.hasB m k=true then[⟨k,h⟩]else[])else[]
def CF(m:Int):∀k:Nat,(fB m k).length<=k
 |0=>by simp[fB]
 |k+1=>by
  have:=CF m k;unfold fB;rw[List.length_append];split
  .split<;>simp<;>omega
  .simp;omega
def Mh(h:k<6)(hb:Dv.hasB m k=true):fB m (k+1)=fB m k++[⟨k,h⟩]:=by rw[fB,dif_pos h,if_pos hb]
def QK(hb:Dv.hasB m k=false):fB m (k+1)=fB m k:=by
 rw[fB];split
 .rw [if_neg (by simp[hb]),List.append_nil]
 .rw [List.append_nil]
def Mi(h:k<=6):fB m k <+: fB m 6:=by
 have:∀d:Nat,fB m k <+: fB m (k+d):=by
  intro d
  induction d with
  |zero=>exact List.prefix_refl _
  |succ d ih=>refine ih.trans ?_;rw[<- Nat.add_assoc,fB];exact List.prefix_append _ _
 have:=this (6-k);rwa [show k+(6-k)=6 by omega]at this
def Ph(F:Fence)(n:Nat)(hF:F.fn 275)(hro:F.round=none)(hn:1<=n)(l Bn:Nat)(m:Int)(J Jx:List (Fin 6)->World->Prop)
  (hY:∀pre x W,J pre W->pre.length<6->YieldAt F (n-1) Tryz.prog l #[.int .i64 (x.val:Nat)] W λe W'=>(e=.returned (.bool true)/\J (pre++[x]) W'/\W'.heap[Bn]? = W.heap[Bn]?)\/(e=.returned (.bool false)/\Jx (pre++[x]) W'))
  (W:World) (hBn:W.cell? ⟨Bn,8,none⟩=some (.int .i64 m)) (h0:J [] W) :
  CallsIn F n Tryz.prog 275 #[.func (.yield l) #[] #[],.pointer (some ⟨Bn,0,none⟩)] W λe W'=>(∃v,e=.returned v)/\
   ((∃ys,ys=fB m 6/\J ys W')\/(∃pre,pre <+: fB m 6/\Jx pre W')):=by
 refine callsIn_of_wp Tryz.func275 rfl hF ?_ hro;simp only[Tryz.ntmps275,Nat.reduceAdd,Nat.reduceSub,Dv.sG,Dv.sA]
 gi_wp2
 gi_loopw [4] (λp wr=>∃(k:Nat),p=.int .i64 k/\k<=6/\wr.cell? ⟨Bn,8,none⟩=some (.int .i64 m)/\J (fB m k) wr)
  (λp wr=>6-(intOf p).toNat)
 case atStart=>exact⟨0,rfl,by omega,hBn,h0⟩
 case round=>
  obtain⟨k,rfl,hk,hc,hJs⟩:=hrel;rcases Nat.lt_or_ge k 6 with hk6|hk6
  .have hlen:=CF m k;have hand:bits BinOp.and IntKind.i64 (m / 2 ^ k) 1=m / 2 ^ k % 2:=Dv.GH _;cases hb:Dv.hasB m k with
   |false=>
    have hmod:¬(m / 2 ^ k % 2=1):=of_decide_eq_false hb
    gi_wp2
    refine⟨λ_ h=>(by cases h),?_⟩
    gi_wp2
    exact⟨⟨k+1,by simp,by omega,hc,by rw[QK m k hb];exact hJs⟩,by simp[intOf];omega⟩
   |true=>
    have hmod:m / 2 ^ k % 2=1:=of_decide_eq_true hb;obtain⟨fn,tmps,assign,body,hy,hR⟩:=hY (fB m k) ⟨k,hk6⟩ wr hJs (by omega);have hyes:=Mh m k hk6 hb
    gi_wp2
    refine hR.mono ?_;rintro e W3 (⟨rfl,hJ3,Hs⟩|⟨rfl,ad4⟩)
    .have hc3:W3.cell? ⟨Bn,8,none⟩=some (.int .i64 m):=(World.cell?_of_block (a:=⟨Bn,8,none⟩) Hs).trans hc
     gi_wp2
     exact⟨⟨k+1,by simp,by omega,hc3,by rw[hyes];exact hJ3⟩,by simp[intOf];omega⟩
    .gi_wp2
     refine bodyPost_ret (results_none rfl _ _ _) rfl ?_;exact⟨⟨_,rfl⟩,.inr ⟨_,by rw[<- hyes];exact Mi m (k+1) (by omega),ad4⟩⟩
  .obtain rfl:k=6:=by omega
   gi_wp2
   go_end0
   exact⟨⟨_,rfl⟩,.inl ⟨_,rfl,hJs⟩⟩
end Go.Proofs
namespace Dv
open Go List
section
variable {G:Nat->Option (List DV)} {J:Nat->Prop} {w:World} {ι:Nat->Nat->Option Nat} {obj:Nat->bK}
def ZQ(obj:Nat->bK):Prop:=∀o es,obj o≠.live (.mp es)
def qG(l:List (Option ah))(h:(l.all λx=>match x with|some (.mp _)=>false|_=>true)=true):ZQ (an l):=by
 intro o es he;unfold an at he;split at he
 .cases he
 .cases he
 .rename_i ob zY;cases he;have:=all_eq_true.1 h _ (mem_of_getElem? zY);cases this
def tv(S:aA G J w ι obj)(hno:ZQ obj){b:Nat}(h:Own ι obj b):∃C t f,w.heap[b]? = some (.cells C t f):=by
 obtain⟨o,h⟩:=h;have hr:=S.rep o;cases hs:obj o with
 |free=>rw[hs]at h;exact h.elim
 |dead=>rw[hs]at h;exact h.elim
 |live ob=>
  rw[hs]at h hr;cases ob with
  |box et cells=>obtain⟨⟨b',C,h1,h2,_⟩,_⟩:=hr;cases h1.symm.trans h;exact⟨_,_,_,h2⟩
  |dat et aJ rows=>obtain⟨⟨_,h1⟩,_⟩:=hr;obtain⟨⟨C,h2⟩,_⟩:=h1 b h;exact⟨_,_,_,h2⟩
  |k9 et aJ rows=>exact h.elim
  |mp es=>exact absurd hs (hno o es)
  |lr et aJ v cells=>
   obtain⟨⟨_,h1⟩|⟨b',C,h1,h2,_⟩,_⟩:=hr
   .cases h1.symm.trans h
   cases h1.symm.trans h;exact⟨_,_,_,h2⟩
  |l_ et bs=>obtain⟨k,hk,h⟩:=h;obtain⟨b',C,h1,h2,_⟩:=hr.1.1 k _ (getElem?_eq_getElem hk);cases h1.symm.trans h;exact⟨_,_,_,h2⟩
def JU.yB{n:Nat}{W W':World}{J':Nat->Prop}{ι':Nat->Nat->Option Nat}(S:aA G J w ι obj)(h:JU G obj J ι w n W J' ι')(hn:w.heap.size<=n){row:Option Nat}(hg:W.grownBy W' row)(hr:∀r,row=some r->w.heap.size<=r/\((r<n/\(W'.shape? r)=W.shape? r)\/∀C t f,W.heap[r]?≠some (.cells C t f)))(hno:ZQ obj):JU G obj J ι w n W' J' ι':=by
 have hlt:∀b,Own ι obj b->b<w.heap.size:=λb hb=>by exact S.TF hb
 have ne:∀b,(J' b\/Own ι' obj b)->some b≠row:=λb hb e=>by
  obtain⟨h1,h2⟩:=hr b e.symm;have hc:∃x,W.heap[b]? = some x/\x.pO=true:=by have Vg:∃C t f,W.heap[b]? = some (.cells C t f):=hb.elim (h.store.jcell b) (tv h.store hno);obtain⟨C,t,f,k⟩:=Vg;exact⟨_,k,rfl⟩
  rcases h2 with ⟨h2,_⟩|h2
  .rcases hb with hb|hb
   .rcases h.std b hb with k|k|k
    .have:=S.Ey b k;omega
    .omega
    .have:=hlt b k;omega
   .rcases h.own b hb with k|k
    .have:=hlt b k;omega
    .omega
  .have Vg:∃C t f,W.heap[b]? = some (.cells C t f):=hb.elim (h.store.jcell b) (tv h.store hno);obtain⟨C,t,f,k⟩:=Vg;exact h2 C t f k
 have blk:∀b,(J' b\/Own ι' obj b)->W'.heap[b]? = W.heap[b]?:=λb hb=>by
  have hc:∃x,W.heap[b]? = some x/\x.pO=true:=by have Vg:∃C t f,W.heap[b]? = some (.cells C t f):=hb.elim (h.store.jcell b) (tv h.store hno);obtain⟨C,t,f,k⟩:=Vg;exact⟨_,k,rfl⟩
  obtain⟨x,hc,_⟩:=hc;exact hg.block b (Array.getElem?_eq_some_iff.1 hc).1 (ne b hb)
 have hsz:=h.ext.ev.size;have shp:∀b,b<W.heap.size->(W.shape? b).isSome=true->W'.shape? b=W.shape? b:=λb hb hc=>by
  by_cases e:some b=row
  .obtain ⟨h1,h2⟩:=hr b e.symm;rcases h2 with ⟨_,h2⟩|h2
   .exact h2
   .obtain ⟨C,t,f,k⟩:=lN hc;exact absurd k (h2 C t f)
  .exact bI (hg.block b hb e)
 refine⟨h.store.still (λb hb=>blk b (.inl hb)) (λb hb=>blk b (.inr hb)) (λb hb=>?_),⟨⟨hg.os.trans h.ext.ev.os,hg.tape.trans h.ext.ev.tape,hg.output.trans h.ext.ev.output,Nat.le_trans hsz hg.size,λb hb ho=>?_,λb hb=>?_,h.ext.ev.ia,h.ext.ev.uT,h.ext.ev.gu⟩,h.ext.own⟩,h.own,h.std,Nat.le_trans h.size hg.size⟩
 .obtain ⟨C,t,f,k⟩:=lN hb;exact shp b (Array.getElem?_eq_some_iff.1 k).1 hb
 .rw [hg.block b (by omega) (λe=>by have:=(hr b e.symm).1;omega)];exact h.ext.ev.same b hb ho
 .rw [bI (hg.block b (by omega) (λe=>by have:=(hr b e.symm).1;omega))];exact h.ext.ev.shape b hb
end
end Dv
namespace Go.Proofs
open Go.RowKit Go.Shelf
variable{v:Value}{a:Addr}(o:Obj)
attribute [local go_sem] Oper.semAt_some
def DA{W:World}{B:Nat}{t:TypeId}(h:W.heap[B]? = some (.cells #[v] t (0,0))):W.cell? ⟨B,0,none⟩=some v/\W.frozen? ⟨B,0,none⟩=false:=by constructor<;>simp[World.cell?,World.frozen?,h]
def CC(W:World)(v:Value)(t:TypeId):(W.alloc (.cells #[v] t)).cell? ⟨W.heap.size,0,none⟩=some v/\(W.alloc (.cells #[v] t)).frozen? ⟨W.heap.size,0,none⟩=false:=
 DA (World.alloc_heap_new W _)
def qX{W:World}(h:W.cell? a=some v):(W.alloc o).cell? a=some v:=cell_kept h (World.grownBy_alloc W o none) (λr e=>by cases e)
def Cg{W:World}(h:W.cell? a=some v)(hf:W.frozen? a=false):(W.alloc o).frozen? a=false:=(frozen_kept h (World.grownBy_alloc W o none) (λr e=>by cases e)).trans hf
def S9(F:Fence)(n:Nat)(hF:F.fn 265)(hro:F.round=none)(c0 c1 c2 c3 c4 c5 c6 c7 c8 c9 c10 c11:Int)(w:World) :
  CallsIn F n Tryz.prog 265 #[.agg #[.int .i64 c0,.int .i64 c1,.int .i64 c2,.int .i64 c3,.int .i64 c4,.int .i64 c5,.int .i64 c6,.int .i64 c7,.int .i64 c8,.int .i64 c9,.int .i64 c10,.int .i64 c11]] w λe w'=>e=.returned (.func (.func 275) #[] #[.pointer (some ⟨w.heap.size,0,none⟩)])/\w'=w.alloc (.cells #[.int .i64 c0,.int .i64 c1,.int .i64 c2,.int .i64 c3,.int .i64 c4,.int .i64 c5,.int .i64 c6,.int .i64 c7,.int .i64 c8,.int .i64 c9,.int .i64 c10,.int .i64 c11] 54):=by
 refine callsIn_of_wp Tryz.func265 rfl hF ?_ hro;simp only[Tryz.ntmps265,Nat.reduceAdd,Nat.reduceSub,Dv.sG,Dv.sA]
 gi_wp2
 go_ret
 exact⟨rfl,rfl⟩
def H7(F:Fence)(n:Nat)(hF:F.fn 275)(hro:F.round=none)(hn:1<=n)(Bn:Nat)(m:Int)(w:World)(hBn:Bn<w.heap.size)(hc:w.cell? ⟨Bn,8,none⟩=some (.int .i64 m)) :
  SeqStopsK F n Tryz.prog 275 #[.pointer (some ⟨Bn,0,none⟩)] (λx:Fin 6=>#[Value.int .i64 (x.val:Nat)]) (λW W'=>W'.heap[Bn]? = W.heap[Bn]?) (λys=>ys=fB m 6) (λpre=>pre <+: fB m 6) 6 w:=λl J Jx W hW _ _ hY h0=>
 Ph F n hF hro hn l Bn m J Jx hY W ((hW.cell (p:=⟨Bn,8,none⟩) hBn).trans hc) h0
def u_(m:Int)(tk:Fin 6->Bool):Bool:=(fB m 6).all tk
def Qh{G:Nat->Option (List Dv.DV)}(j:Dv.bT)(t:Nat)(first caps:List Dv.LV)(af:List Dv.ah)(hno:((af.map some).all λx=>match x with|some (.mp _)=>false|_=>true)=true)(tk:Fin 6->Bool)
  (hT:∀i:Fin 6,Dv.aS G t (first++[.int (i.val:Nat)]++caps) af (.bool (tk i)) af) :
  Dv.aS G 254 [Dv.Gf j,.fn (.func t) first caps] af (.bool (u_ j.nodes tk)) af:=by
 refine⟨by decide,λJ ι w vs S hR=>?_⟩;obtain⟨vl⟩:=vs
 match vl,hR with
 |[vj,vt],⟨hj,ht,_⟩=>
 obtain⟨cs,rfl,hcs⟩:=hj;obtain⟨fs,UF,rfl,Xr,adr⟩:=ht;obtain⟨cl⟩:=cs
 match cl,hcs with
 |[c0,c1,c2,c3,c4,c5,c6,c7,c8,c9,c10,c11],⟨_,e0,_,e1,_,e2,_,e3,_,e4,_,e5,_,e6,_,e7,_,e8,_,e9,_,e10,_,e11,_⟩=>
 simp only[Dv.LV.int,Dv.cW,Dv.kz]at e0 e1 e2 e3 e4 e5 e6 e7 e8 e9 e10 e11;subst e0 e1 e2 e3 e4 e5 e6 e7 e8 e9 e10 e11;refine(callsIn_wide (n:=8)).1 ?_;refine callsIn_of_wp_marks Tryz.func254 rfl trivial ?_ rfl;simp only[Tryz.ntmps254,Nat.reduceAdd,Nat.reduceSub,Dv.sG,Dv.sA]
 gi_wp2_with (refine⟨trivial,?_⟩;gi_at_call 265;refine(S9 _ _ trivial rfl _ _ _ _ _ _ _ _ _ _ _ _ _).mono ?_;rintro e w' ⟨rfl,rfl⟩)
 obtain⟨W0,hW0⟩:∃W0,(((w.alloc (Obj.cells #[Value.int .i64 j.queue,Value.int .i64 j.prio,Value.int .i64 j.min,Value.int .i64 j.max,Value.int .i64 j.work,Value.int .i64 j.pin,Value.int .i64 j.phase,Value.int .i64 j.inc,Value.int .i64 j.nodes,Value.int .i64 j.since,Value.int .i64 j.til,Value.int .i64 j.epoch] 54)).alloc (Obj.cells #[Value.func (Fn.func t) fs UF] 124)).alloc (Obj.cells #[Value.bool false] 4)).alloc (Obj.cells #[Value.int .i64 j.queue,Value.int .i64 j.prio,Value.int .i64 j.min,Value.int .i64 j.max,Value.int .i64 j.work,Value.int .i64 j.pin,Value.int .i64 j.phase,Value.int .i64 j.inc,Value.int .i64 j.nodes,Value.int .i64 j.since,Value.int .i64 j.til,Value.int .i64 j.epoch] 54)=W0:=⟨_,rfl⟩;have hsz:W0.heap.size=w.heap.size+4:=by rw[<- hW0];simp
 have hB0:Below w.heap.size w W0:=by rw[<- hW0];exact((((Below.refl _ w).alloc (Nat.le_refl _) _).alloc (by simp) _).alloc (by simp;omega) _).alloc (by simp;omega) _
 rw[hW0];have hM0:=Dv.JU.start S hB0.os hB0.tape hB0.output hB0.size (λb hb=>hB0.block b hb);have c1:=CC (w.alloc (Obj.cells #[Value.int .i64 j.queue,Value.int .i64 j.prio,Value.int .i64 j.min,Value.int .i64 j.max,Value.int .i64 j.work,Value.int .i64 j.pin,Value.int .i64 j.phase,Value.int .i64 j.inc,Value.int .i64 j.nodes,Value.int .i64 j.since,Value.int .i64 j.til,Value.int .i64 j.epoch] 54)) (Value.func (Fn.func t) fs UF) 124;have c2:=CC ((w.alloc (Obj.cells #[Value.int .i64 j.queue,Value.int .i64 j.prio,Value.int .i64 j.min,Value.int .i64 j.max,Value.int .i64 j.work,Value.int .i64 j.pin,Value.int .i64 j.phase,Value.int .i64 j.inc,Value.int .i64 j.nodes,Value.int .i64 j.since,Value.int .i64 j.til,Value.int .i64 j.epoch] 54)).alloc (Obj.cells #[Value.func (Fn.func t) fs UF] 124)) (Value.bool false) 4;simp only[World.size_alloc]at c1 c2;have hc1:W0.cell? ⟨w.heap.size+1,0,none⟩=some (Value.func (Fn.func t) fs UF):=by rw[<- hW0];exact qX _ (qX _ c1.1)
 have Vg:W0.cell? ⟨w.heap.size+1+1,0,none⟩=some (Value.bool false):=by rw[<- hW0];exact qX _ c2.1
 have hf2:W0.frozen? ⟨w.heap.size+1+1,0,none⟩=false:=by rw[<- hW0];exact Cg _ c2.1 c2.2
 have hc3:W0.cell? ⟨w.heap.size+1+1+1,8,none⟩=some (Value.int .i64 j.nodes):=by rw[<- hW0];simp only[World.cell?];have:=World.alloc_heap_new (((w.alloc (Obj.cells #[Value.int .i64 j.queue,Value.int .i64 j.prio,Value.int .i64 j.min,Value.int .i64 j.max,Value.int .i64 j.work,Value.int .i64 j.pin,Value.int .i64 j.phase,Value.int .i64 j.inc,Value.int .i64 j.nodes,Value.int .i64 j.since,Value.int .i64 j.til,Value.int .i64 j.epoch] 54)).alloc (Obj.cells #[Value.func (Fn.func t) fs UF] 124)).alloc (Obj.cells #[Value.bool false] 4)) (Obj.cells #[Value.int .i64 j.queue,Value.int .i64 j.prio,Value.int .i64 j.min,Value.int .i64 j.max,Value.int .i64 j.work,Value.int .i64 j.pin,Value.int .i64 j.phase,Value.int .i64 j.inc,Value.int .i64 j.nodes,Value.int .i64 j.since,Value.int .i64 j.til,Value.int .i64 j.epoch] 54);simp only[World.size_alloc]at this;rw[this];rfl
 refine wpIn_rangeFunc_ownG (n:=8) rfl (by decide) (gf:=275) (lb:=#[.pointer (some ⟨w.heap.size+1+1+1,0,none⟩)]) rfl trivial (enters_of Tryz.func275 (by kernel_rfl) rfl)
  (H7 Fence.wide 7 trivial rfl (by decide) (w.heap.size+1+1+1) j.nodes W0 (by omega) hc3) (λh k=>k.trans h) (λW l o o' hl _ _ _=>World.putObj_heap_other (by omega)) (Below.refl _ _) (λ_=>rfl)
  (λpre W=>(pre.all tk=true/\W.cell? ⟨w.heap.size+1,0,none⟩=some (Value.func (Fn.func t) fs UF)/\W.cell? ⟨w.heap.size+1+1,0,none⟩=some (.bool false)/\W.frozen? ⟨w.heap.size+1+1,0,none⟩=false)/\∃J' ι',Dv.JU G (Dv.an (List.map some af)) J ι w W0.heap.size W J' ι')
  (λc pre W=>(c=.ret/\pre.all tk=false/\W.cell? ⟨w.heap.size+1+1,0,none⟩=some (.bool false))/\∃J' ι',Dv.JU G (Dv.an (List.map some af)) J ι w W0.heap.size W J' ι')
  ?own (λc=>?ownx) ⟨⟨rfl,hc1,Vg,hf2⟩,J,ι,hM0⟩
  (λx=>{ tmps:=#[.agg #[Value.int .i64 j.queue,Value.int .i64 j.prio,Value.int .i64 j.min,Value.int .i64 j.max,Value.int .i64 j.work,Value.int .i64 j.pin,Value.int .i64 j.phase,Value.int .i64 j.inc,Value.int .i64 j.nodes,Value.int .i64 j.since,Value.int .i64 j.til,Value.int .i64 j.epoch],.func (.func t) fs UF,.pointer (some ⟨w.heap.size,0,none⟩),.pointer (some ⟨w.heap.size+1,0,none⟩),.pointer (some ⟨w.heap.size+1+1,0,none⟩),.int .i64 (x.val:Nat),.agg #[Value.int .i64 j.queue,Value.int .i64 j.prio,Value.int .i64 j.min,Value.int .i64 j.max,Value.int .i64 j.work,Value.int .i64 j.pin,Value.int .i64 j.phase,Value.int .i64 j.inc,Value.int .i64 j.nodes,Value.int .i64 j.since,Value.int .i64 j.til,Value.int .i64 j.epoch],.func (.func 275) #[] #[.pointer (some ⟨w.heap.size+1+1+1,0,none⟩)],.int .i64 (x.val:Nat),undef,undef,undef,undef],defers:=[] }) ?assign ?body ?done ?stop
 case own=>refine OwnFrom.and (Own.from (λs A B row hs hg hr=>⟨hs.1,cell_kept hs.2.1 hg hr,cell_kept hs.2.2.1 hg hr,(frozen_kept hs.2.2.1 hg hr).trans hs.2.2.2⟩) _) ?_;rintro s A B row ⟨J',ι',hm⟩ hg hr;exact⟨J',ι',hm.yB S (by omega) hg (λr e=>by obtain⟨h1,o,h2,h3⟩:=hr r e;exact⟨by omega,.inr (λC t f h=>by rw[h]at h2;cases h2;cases h3)⟩) (Dv.qG _ hno)⟩
 case ownx=>refine OwnFrom.and (Own.from (λs A B row hs hg hr=>⟨hs.1,hs.2.1,cell_kept hs.2.2 hg hr⟩) _) ?_;rintro s A B row ⟨J',ι',hm⟩ hg hr;exact⟨J',ι',hm.yB S (by omega) hg (λr e=>by obtain⟨h1,o,h2,h3⟩:=hr r e;exact⟨by omega,.inr (λC t f h=>by rw[h]at h2;cases h2;cases h3)⟩) (Dv.qG _ hno)⟩
 case assign=>
  intro l x W K hK
  gi_wp2
  exact hK
 case body=>
  rintro l pre x W ⟨⟨hp,hc1,Vg,hf2⟩,J',ι',hm⟩ hlen
  gi_wp2
  refine⟨trivial,?_⟩;rw[show(Sem.run Tryz.prog (callFunc t (fs.push (Value.int .i64 ↑↑x)++UF)) W)=.ok (.enter t (fs.push (Value.int .i64 ↑↑x)++UF)) W from Dv.jM (hT x).1 _ _,Oper.uponIn_enter];refine⟨λh=>(by cases h),?_⟩;have IF:=(hT x).2 J' ι' W (fs.push (Value.int .i64 ↑↑x)++UF) hm.store (by simp only[Array.toList_append,Array.toList_push];refine Dv.cm.append (Dv.cm.append (Dv.cm.ev S hm.ext.ev Xr) ⟨rfl,trivial⟩) (Dv.cm.ev S hm.ext.ev adr));refine CallsIn.mono (CallsIn.inRound l (callsIn_wide.2 IF)) ?_;rintro e W2 ⟨v,rfl,hA⟩;obtain⟨J2,Fk,hm2,hv,hsame,abI⟩:=hm.call S (by omega) hA;obtain rfl:v=.bool (tk x):=hv;have abU:∀(k:Nat) (o:Obj),W0.heap.size<=k->W.heap[k]? = some o->o.isCells=false->W2.heap[k]? = some o:=λk o _ hk ho=>(hsame k (Array.getElem?_eq_some_iff.1 hk).1 (λhw=>by obtain⟨C,t,f,h⟩:=Dv.tv hm.store (Dv.qG _ hno) hw;rw[h]at hk;cases hk;cases ho)).trans hk
  have hown:∀b,w.heap.size<=b->b<W0.heap.size->W2.heap[b]? = W.heap[b]?:=λb h1 h2=>hsame b (by have:=hm.size;omega) (hm.mine S h1 h2)
  have d1:W2.cell? ⟨w.heap.size+1,0,none⟩=some (Value.func (Fn.func t) fs UF):=by rw[Dv.kr (hown _ (by omega) (by omega))];exact hc1
  have d2:W2.cell? ⟨w.heap.size+1+1,0,none⟩=some (Value.bool false):=by rw[Dv.kr (hown _ (by omega) (by omega))];exact Vg
  have g2:W2.frozen? ⟨w.heap.size+1+1,0,none⟩=false:=by simp only[World.frozen?,hown _ (show w.heap.size<=w.heap.size+1+1 by omega) (by omega)];exact hf2
  simp only[]
  gi_wp2
  .rename_i hx;have hk:KeepsFrom W0.heap.size W (W2.setCell ⟨w.heap.size+1+1,0,none⟩ (.bool false)):=KeepsFrom.trans ⟨abI,abU⟩ ((KeepsOthers.setCell _ _ _).from _);refine⟨hk,⟨rfl,?_,World.cell?_setCell_same' _ _ _ (by rw[d2];rfl)⟩,J2,Fk,hm2.yB S (by omega) (grownBy_setCell' _ _ _) (λr e=>by cases e;exact⟨by omega,.inl ⟨by omega,Dv.jW _ [_] 0 _ _⟩⟩) (Dv.qG _ hno)⟩;rw[List.all_append];simp only[List.all_cons,List.all_nil,Bool.and_true,Bool.and_eq_false_iff];exact .inr (by simpa using hx)
  .rename_i hx;have hx:tk x=true:=by simpa using hx
   exact⟨⟨abI,abU⟩,hown _ (by omega) (by omega),⟨by rw[List.all_append,hp];simp[hx],d1,d2,g2⟩,J2,Fk,hm2⟩
 case done=>
  rintro D ys W hD rfl ⟨⟨hp,hc1,Vg,hf2⟩,J',ι',hm⟩ hK
  gi_wp2
  have Ub:=(KeepsOthers.setCell W ⟨w.heap.size+1+1,0,none⟩ (.bool true)).same D _ hK rfl;refine⟨by simp,.inl ⟨_,_,rfl,run_takeDeferred Ub,?_⟩⟩;have hc5:=cell_kept (World.cell?_setCell_same' W ⟨w.heap.size+1+1,0,none⟩ (.bool true) (by rw[Vg];rfl)) (grownBy_putObj' _ D (.deferred none)) (λr e=>by cases e;exact⟨_,Ub,rfl⟩);have hm2:=hm.yB S (by omega) (grownBy_setCell' W (w.heap.size+1+1) (.bool true)) (λr e=>by cases e;exact⟨by omega,.inl ⟨by omega,Dv.jW _ [_] 0 _ _⟩⟩) (Dv.qG _ hno);have hm3:=hm2.yB S (by omega) (grownBy_putObj' _ D (.deferred none)) (λr e=>by cases e;exact⟨by omega,.inr (λC t f h=>by rw[Ub]at h;cases h)⟩) (Dv.qG _ hno);refine⟨.bool true,?_,.bool true,rfl,J',ι',hm3.store,?_,hm3.ext⟩
  .simp [results,Tryz.f254,go_sem,hc5]
  .show Value.bool true=Value.bool (u_ j.nodes tk);rw[u_,hp]
 case stop=>
  rintro D c pre W hD hpre ⟨⟨rfl,hp,Vg⟩,J',ι',hm⟩ hK
  gi_wp2
  refine⟨by simp,.inl ⟨_,_,rfl,run_takeDeferred hK,?_⟩⟩;have hc5:=cell_kept Vg (grownBy_putObj' _ D (.deferred none)) (λr e=>by cases e;exact⟨_,hK,rfl⟩);have hm3:=hm.yB S (by omega) (grownBy_putObj' _ D (.deferred none)) (λr e=>by cases e;exact⟨by omega,.inr (λC t f h=>by rw[hK]at h;cases h)⟩) (Dv.qG _ hno);refine⟨.bool false,?_,.bool false,rfl,J',ι',hm3.store,?_,hm3.ext⟩
  .simp [results,Tryz.f254,go_sem,hc5]
  .show Value.bool false=Value.bool (u_ j.nodes tk);congr 1;symm;rw[u_,List.all_eq_false];obtain⟨y,hy,hy2⟩:=List.all_eq_false.1 hp;exact⟨y,hpre.subset hy,hy2⟩
end Go.Proofs
namespace Dv
open Go Go.Proofs Int List Nat Go.Sem Go.Proofs.Tryz
def Y8:List Int:=[0,1,28,2,29,14,24,3,30,22,20,15,25,17,4,8,31,27,13,23,21,19,16,7,26,12,18,6,11,5,10,9]
def ER:List Int:=[0,1,56,2,57,49,28,3,61,58,42,50,38,29,17,4,62,47,59,36,45,43,51,22,53,39,33,30,24,18,12,5,63,55,48,27,60,41,37,16,46,35,44,21,52,32,23,11,54,26,40,15,34,20,31,10,25,14,19,9,13,8,7,6]
def dh:tY:=λn=>if n=2 then some (Y8.map λn=>.val (.int .u8 n))else if n=3 then some (ER.map λn=>.val (.int .u8 n))else ck n
def kP(g:Nat)(row:List DV)(h:ck g=some row):dh g=some row:=by
 unfold dh;split
 .rename_i e;subst e;cases h
 .split
  .rename_i e;subst e;cases h
  .exact h
section
variable{xs:List Int}{k:Nat}(n:Nat)(ns:List bh)
def El(f v j:Int):bh:=⟨hasB f 0,hasB f 1,hasB f 2,v,j⟩
def we(ns:List bh)(b:List bT)(p:Nat):List Int->Except Nat aa
 |[]=>.error p
 |[_]=>.error (p+1)
 |[_,_]=>.error (p+2)
 |[_,_,_]=>.error (p+3)
 |[g,a,m,t]=>.ok ⟨ns,b,g,a,m,t⟩
 |_::_::_::_::_::_=>.error (p+4)
def sw(ns:List bh):Nat->List bT->Nat->List Int->Except Nat aa
 |0,b,p,l=>we ns b p l
 |n+1,b,p,x0::x1::x2::x3::x4::x5::e::h::j::k::a::c::r=>sw ns n (b++[⟨x0,x1,x2,x3,x4,x5,e,h,j,k,a,c⟩]) (p+12) r
 |_+1,_,p,l=>.error (p+l.length)
def uM(ns:List bh)(p:Nat):List Int->Except Nat aa
 |[]=>.error p
 |m::r=>if m<=24 then sw ns m.toNat [] (p+1) r else .error (p+1)
def je:Nat->List bh->Nat->List Int->Except Nat aa
 |0,ns,p,l=>uM ns p l
 |n+1,ns,p,l=>match l with
  |[]=>.error p
  |f::r=>if f<=7 then(match r with
   |[]=>.error (p+1)
   |[_]=>.error (p+2)
   |v::j::r=>je n (ns++[El f v j]) (p+3) r)else .error (p+1)
def mw(l:List Int):Except Nat aa:=match l with
 |[]=>.error 0
 |n::r=>if n<=6 then je n.toNat [] 1 r else .error 1
def zc(p:Nat)(l:List Int):je 0 ns p l=uM ns p l:=by cases l<;>rfl
def KL(p:Nat):je (n+1) ns p []=.error p:=rfl
def KK(p:Nat)(f:Int)(r:List Int)(h:¬f<=7):je (n+1) ns p (f::r)=.error (p+1):=by simp[je,h]
def SA(p:Nat)(f:Int)(h:f<=7):je (n+1) ns p [f]=.error (p+1):=by simp[je,h]
def Pc(p:Nat)(f v:Int)(h:f<=7):je (n+1) ns p [f,v]=.error (p+2):=by simp[je,h]
def Bo(p:Nat)(f v j:Int)(r:List Int)(h:f<=7):je (n+1) ns p (f::v::j::r)=je n (ns++[El f v j]) (p+3) r:=by simp[je,h]
def KM(p:Nat)(m:Int)(r:List Int)(h:¬m<=24):uM ns p (m::r)=.error (p+1):=by simp[uM,h]
def Ee(p:Nat)(m:Int)(r:List Int)(h:m<=24):uM ns p (m::r)=sw ns m.toNat [] (p+1) r:=by simp[uM,h]
def Bp(b:List bT)(p:Nat)(l:List Int):sw ns 0 b p l=we ns b p l:=by simp[sw]
def Bq(n:Nat)(b:List bT)(p:Nat)(x0 x1 x2 x3 x4 x5 e h j k a c:Int)(r:List Int):sw ns (n+1) b p (x0::x1::x2::x3::x4::x5::e::h::j::k::a::c::r)=sw ns n (b++[⟨x0,x1,x2,x3,x4,x5,e,h,j,k,a,c⟩]) (p+12) r:=by simp[sw]
def cQ(h:xs.drop k=[])(hk:k<=xs.length):k=xs.length:=by have:=drop_eq_nil_iff.1 h;omega
def cC{x:Int}{r:List Int}(h:xs.drop k=x::r):k<xs.length/\xs.getD k 0=x/\xs.drop (k+1)=r:=by
 have hk:k<xs.length:=by
  rcases Nat.lt_or_ge k xs.length with U|U
  .exact U
  .rw [drop_eq_nil_of_le U]at h;cases h
 rw[drop_eq_getElem_cons hk]at h;cases h;exact⟨hk,by simp[getD,hk],rfl⟩
end
def dS:Int:=9007199254740991
def iT:Nat->Int->List Int
 |0,n=>[n]
 |f+1,n=>if 128<=n then(n % 128+128)::iT f (n / 128)else[n]
def isNum(n:Int):Bool:=decide (0<=n/\n<=dS)
def aV(n:Int):List Int:=if isNum n=true then iT 8 n else[]
def g_(l:List Int):List Int:=if l.all isNum=true then aV l.length++l.flatMap aV else[]
def lQ:List Int->Nat->Int->Option (Int×Nat)
 |[],_,_=>none
 |c::r,i,n=>if 8<=i then none
  else if 128<=c then lQ r (i+1) (n+c % 128*128 ^ i)
  else if(c=0/\0<i)\/dS<n+c % 128*128 ^ i then none
  else some (n+c % 128*128 ^ i,i+1)
def fK(b:List Int)(a:Nat):Option (Int×Nat):=(lQ (b.drop a) 0 0).map λp=>(p.1,a+p.2)
def sJ(b:List Int):Nat->Nat->Option (List Int×Nat)
 |0,p=>some ([],p)
 |k+1,p=>match fK b p with
  |none=>none
  |some (x,p')=>(sJ b k p').map λq=>(x::q.1,q.2)
def uX(b:List Int)(p many:Nat):Option (List Int×Nat):=match fK b p with
 |none=>none
 |some (n,p')=>if(many:Int)<n then none else sJ b n.toNat p'
def uY(c:av)(b:List Int):Option aa:=match uX b 0 400 with
 |none=>none
 |some (xs,e)=>if e=b.length then(match mw xs with
  |.error _=>none
  |.ok s=>if jE c s=true then some s else none)else none
def yS:aa:=⟨[],[],0,0,0,0⟩
def A4:∀(l:List Int) (i:Nat) (n:Int),lQ (l.take (8-i)) i n=lQ l i n
 |[],i,n=>by simp
 |c::r,i,n=>by
  by_cases h:8<=i
  .rw [show 8-i=0 by omega,List.take_zero];unfold lQ;rw[if_pos h]
  .rw [show 8-i=(8-(i+1))+1 by omega,take_succ_cons];simp only[lQ,if_neg h,A4 r (i+1)]
def DS:∀(l:List Int) (i:Nat) (n x:Int) (k:Nat),(∀c∈l,0<=c)->0<=n->lQ l i n=some (x,k)->0<=x/\x<=dS/\i<k/\k<=i+l.length
 |[],_,_,_,_,_,_,h=>by cases h
 |c::r,i,n,x,k,K,D,h=>by
  have h0:0<=c:=K c (by simp);have O:(0:Int)<=128 ^ i:=Int.le_of_lt (Int.pow_pos (by decide));have U:0<=c % 128*128 ^ i:=Int.mul_nonneg (emod_nonneg _ (by decide)) O;unfold lQ at h;split at h
  .cases h
  split at h
  .have:=DS r (i+1) _ x k (λd hd=>K d (by simp[hd])) (by omega) h;simp only[length_cons];omega
  split at h
  .cases h
  .rename_i a;cases h;refine⟨by omega,?_,by omega,by simp⟩;simp only[not_or,Int.not_lt]at a;exact a.2
def gw{b:List Int}{p p':Nat}{x:Int}(T:∀c∈b,0<=c)(h:fK b p=some (x,p')):0<=x/\x<=dS/\p<p'/\p'<=b.length:=by unfold fK at h;rw[Option.map_eq_some_iff]at h;obtain⟨⟨y,k⟩,U,h2⟩:=h;cases h2;have hr:=DS _ _ _ _ _ (λc K=>T c (mem_of_mem_drop K)) (Int.le_refl 0) U;rw[length_drop]at hr;dsimp only;omega
def EF{b:List Int}(T:∀c∈b,0<=c):∀(k p:Nat) (xs:List Int) (e:Nat),sJ b k p=some (xs,e)->p<=b.length->xs.length=k/\(∀x∈xs,0<=x/\x<=dS)/\p<=e/\e<=b.length
 |0,p,xs,e,h,O=>by cases h;exact⟨rfl,(λ_ h=>absurd h (by simp)),Nat.le_refl _,O⟩
 |k+1,p,xs,e,h,O=>by
  unfold sJ at h;split at h
  .cases h
  .rename_i x p' S;rw[Option.map_eq_some_iff]at h;obtain⟨⟨ys,u⟩,U,h2⟩:=h;cases h2;have hr:=gw T S;obtain⟨k1,k2,k3,k4⟩:=EF T k p' ys u U hr.2.2.2;refine⟨by simp[k1],λy E=>?_,by dsimp only;omega,k4⟩;rcases mem_cons.1 E with rfl|E
   .exact ⟨hr.1,hr.2.1⟩
   .exact k2 y E
def IK{b:List Int}(T:∀c∈b,0<=c){p many:Nat}{xs:List Int}{e:Nat}(h:uX b p many=some (xs,e)):xs.length<=many/\(∀x∈xs,0<=x/\x<=dS)/\e<=b.length:=by
 unfold uX at h;split at h
 .cases h
 .rename_i n p' D;have hr:=gw T D;split at h
  .cases h
  .obtain ⟨k1,k2,_,k4⟩:=EF T _ _ _ _ h hr.2.2.2;exact⟨by omega,k2,k4⟩
def tP(b:Bool)(n:Int):Int:=if b=true then n else 0
def uj(n:bh):Int:=tP n.up 1+tP n.cU 2+tP n.bw 4
def jF(n:bh):List Int:=[uj n,n.version,n.aM]
def mC(j:bT):List Int:=[j.queue,j.prio,j.min,j.max,j.work,j.pin,j.phase,j.inc,j.nodes,j.since,j.til,j.epoch]
def pL(s:aa)(i:Nat):List Int:=(s.nodes.length:Int)::(s.nodes.take i).flatMap jF
def sB(s:aa)(i:Nat):List Int:=pL s s.nodes.length++(s.jobs.length:Int)::(s.jobs.take i).flatMap mC
def gp(s:aa):List Int:=sB s s.jobs.length++[s.goal,s.prior,s.mode,s.term]
def kS(s:aa):List Int:=if s.nodes.length<=6/\s.jobs.length<=24 then g_ (gp s)else[]
def KX(l:List bh):(l.flatMap jF).length=3*l.length:=by
 induction l with
 |nil=>rfl
 |cons n l o=>rw[flatMap_cons,length_append,length_cons,o];simp[jF];omega
def PD(l:List bT):(l.flatMap mC).length=12*l.length:=by
 induction l with
 |nil=>rfl
 |cons n l o=>rw[flatMap_cons,length_append,length_cons,o];simp[mC];omega
def AV{α:Type}{l:List α}{i:Nat}(z:α)(h:i<l.length):l.take (i+1)=l.take i++[l.getD i z]:=by rw[take_add_one];simp[getD,h]
def KT(s:aa){i:Nat}(h:i<s.nodes.length):pL s (i+1)=pL s i++jF (s.nodes.getD i aq):=by unfold pL;rw[AV aq h,flatMap_append];simp
def KU(s:aa){i:Nat}(h:i<s.jobs.length):sB s (i+1)=sB s i++mC (s.jobs.getD i az):=by unfold sB;rw[AV az h,flatMap_append];simp
def mS(s:aa){i:Nat}(h:i<=s.nodes.length):(pL s i).length=1+3*i:=by unfold pL;rw[length_cons,KX,length_take];omega
def yo(s:aa){i:Nat}(h:i<=s.jobs.length):(sB s i).length=2+3*s.nodes.length+12*i:=by unfold sB;rw[length_append,length_cons,PD,length_take,mS s (Nat.le_refl _)];omega
section
variable{n:Int}
def xk(f:Nat){m:Int}(h:m<128):iT f m=[m]:=by
 cases f with
 |zero=>rfl
 |succ f=>rw[iT,if_neg (by omega)]
def XS(f:Nat)(m:Int):1<=(iT f m).length:=by
 cases f with
 |zero=>simp[iT]
 |succ f=>unfold iT;split<;>simp
def Aq(h:isNum n=true):aV n=iT 8 n:=by unfold aV;rw[if_pos h]
def By(h:isNum n=true):1<=(aV n).length:=by rw[Aq h];exact XS 8 n
def A5:∀(f:Nat) (m:Int) (i:Nat) (j:Int) (t:List Int),0<=m->m<128 ^ (f+1)->(0<i->0<m)->0<=j->j+m*128 ^ i<=dS->lQ (iT f m++t) i j=some (j+m*128 ^ i,i+(iT f m).length)
 |f,m,i,j,t,h0,A,hi,X,hs=>by
  have O:(1:Int)<=128 ^ i:=Int.pow_pos (by decide);have q:i<8:=by
   rcases Nat.lt_or_ge i 8 with h|h
   .exact h
   .exfalso;have H:=hi (by omega);have U:(128:Int) ^ 8<=128 ^ i:=by exact_mod_cast Nat.pow_le_pow_right (by decide) h
    have h2:1*128 ^ i<=m*128 ^ i:=Int.mul_le_mul_of_nonneg_right H (by omega);unfold dS at hs;omega
  by_cases H:128<=m;case neg=>
   rw[xk f (by omega)];have e:m % 128=m:=by omega
   simp only[lQ,if_neg (show¬8<=i by omega),if_neg H,e,sA];rw[if_neg (by omega)];rfl
  case pos=>
   cases f with
   |zero=>exfalso;omega
   |succ f=>
    rw[iT,if_pos H];have e:(m % 128+128) % 128=m % 128:=by omega
    have V:j+m % 128*128 ^ i+m / 128*128 ^ (i+1)=j+m*128 ^ i:=by rw[Int.pow_succ,Int.mul_comm (128 ^ i) 128,<- Int.mul_assoc,Int.add_assoc,<- Int.add_mul];congr 2;omega
    have U:m / 128<128 ^ (f+1):=by rw[Int.pow_succ]at A;exact Int.ediv_lt_of_lt_mul (by decide) A
    have x:0<=m % 128*128 ^ i:=Int.mul_nonneg (by omega) (by omega);have o:=A5 f (m / 128) (i+1) (j+m % 128*128 ^ i) t (by omega) U (λ_=>by omega) (by omega) (by rw[V];exact hs);simp only[cons_append,lQ,if_neg (show¬8<=i by omega),if_pos (show 128<=m % 128+128 by omega),e];rw[o,V];simp;omega
def pS(pre t:List Int)(n:Int)(D:isNum n=true):fK (pre++(aV n++t)) pre.length=some (n,pre.length+(aV n).length):=by have h:=of_decide_eq_true D;unfold fK;rw[drop_left,Aq D,A5 8 n 0 0 t h.1 (by unfold dS at h;omega) (λh=>absurd h (by decide)) (Int.le_refl 0) (by simpa using h.2)];simp
def EG:∀(l pre t:List Int),l.all isNum=true->sJ (pre++(l.flatMap aV++t)) l.length pre.length=some (l,pre.length+(l.flatMap aV).length)
 |[],pre,t,_=>by simp[sJ]
 |x::l,pre,t,h=>by simp only[all_cons,Bool.and_eq_true]at h;rw[length_cons,sJ,flatMap_cons,append_assoc,pS pre _ x h.1];have o:=EG l (pre++aV x) t h.2;rw[length_append,append_assoc]at o;simp only[o,Option.map_some,length_append,Nat.add_assoc]
def IL(l t:List Int)(many:Nat)(h:l.all isNum=true)(H:l.length<=many)(Z:l.length<=1000000):uX (g_ l++t) 0 many=some (l,(g_ l).length):=by
 have D:isNum (l.length:Int)=true:=by unfold isNum dS;simp;omega
 unfold g_;rw[if_pos h];unfold uX;have U:=pS [] (l.flatMap aV++t) (l.length:Int) D;simp only[nil_append,length_nil,Nat.zero_add]at U;rw[append_assoc,U];have h2:=EG l (aV (l.length:Int)) t h;simp only[toNat_natCast,h2];rw[if_neg (by omega),length_append]
def A6:∀(l:List Int) (i:Nat) (j x:Int) (k:Nat),(∀c∈l,0<=c/\c<=255)->lQ l i j=some (x,k)->∃m,0<=m/\x=j+m*128 ^ i/\(0<i->0<m)/\i<k/\k<=8/\k-i<=l.length/\∀f,k-i<=f+1->iT f m=l.take (k-i)
 |[],_,_,_,_,_,h=>by cases h
 |c::r,i,j,x,k,K,h=>by
  have h0:=K c (by simp);unfold lQ at h;split at h
  .cases h
  rename_i q;split at h
  .rename_i e;obtain⟨m,b,S,t,w,n,u,hd⟩:=A6 r (i+1) _ x k (λd hd=>K d (by simp[hd])) h;have t:=t (by omega);refine⟨c % 128+128*m,by omega,?_,λ_=>by omega,by omega,n,by simp;omega,λf A=>?_⟩
   .rw [S,Int.pow_succ,Int.mul_comm (128 ^ i) 128,<- Int.mul_assoc,Int.add_assoc,<- Int.add_mul,Int.mul_comm m 128]
   .cases f with
    |zero=>exfalso;omega
    |succ f=>rw[iT,if_pos (by omega),show(c % 128+128*m) / 128=m by omega,hd f (by omega),show k-i=(k-(i+1))+1 by omega,take_succ_cons,show(c % 128+128*m) % 128+128=c by omega]
  split at h
  .cases h
  .rename_i a;cases h;refine⟨c,h0.1,by rw[show c % 128=c by omega],λhi=>by omega,by omega,by omega,by simp,λf _=>?_⟩;rw[xk f (by omega),show i+1-i=1 by omega];simp
def PZ{b:List Int}(T:∀c∈b,0<=c/\c<=255){p p':Nat}{x:Int}(h:fK b p=some (x,p')):isNum x=true/\aV x=(b.drop p).take (p'-p)/\p<=p'/\p'<=b.length:=by
 have hr:=gw (λc K=>(T c K).1) h;unfold fK at h;rw[Option.map_eq_some_iff]at h;obtain⟨⟨y,k⟩,U,h2⟩:=h;cases h2;obtain⟨m,r,S,_,w,n,u,hd⟩:=A6 _ _ _ _ _ (λc K=>T c (mem_of_mem_drop K)) U;have e:y=m:=by rw[S];simp
 subst e;have D:isNum y=true:=decide_eq_true ⟨hr.1,hr.2.1⟩;refine⟨D,?_,by omega,by dsimp only;omega⟩;rw[Aq D,hd 8 (by omega)];congr 1;omega
end
def P_(u c m:Bool)(v j:Int):El (tP u 1+tP c 2+tP m 4) v j=⟨u,c,m,v,j⟩:=by cases u<;>cases c<;>cases m<;>rfl
def Sz{ns:List bh}{b:List bT}{p:Nat}{l:List Int}{s:aa} : we ns b p l=.ok s↔(s.nodes=ns/\s.jobs=b/\l=[s.goal,s.prior,s.mode,s.term]):=by
 match l with
 |[]=>simp[we]
 |[_]=>simp[we]
 |[_,_]=>simp[we]
 |[_,_,_]=>simp[we]
 |[g,a,m,t]=>
  simp only[we,Except.ok.injEq,List.cons.injEq,and_true];obtain⟨O,r,g1,K,o,e⟩:=s;simp only[aa.mk.injEq];constructor
  .rintro ⟨rfl,rfl,rfl,rfl,rfl,rfl⟩;exact⟨rfl,rfl,rfl,rfl,rfl,rfl⟩
  .rintro ⟨rfl,rfl,rfl,rfl,rfl,rfl⟩;exact⟨rfl,rfl,rfl,rfl,rfl,rfl⟩
 |_::_::_::_::_::_=>simp[we]
def Ed(ns:List bh):∀(c:List bT) (b:List bT) (p:Nat) (g a m t:Int),sw ns c.length b p (c.flatMap mC++[g,a,m,t])=.ok ⟨ns,b++c,g,a,m,t⟩
 |[],b,p,g,a,m,t=>by rw[length_nil,Bp];exact Sz.2 ⟨rfl,by simp,rfl⟩
 |j::c,b,p,g,a,m,t=>by rw[length_cons,flatMap_cons];show sw ns (c.length+1) b p (j.queue::j.prio::j.min::j.max::j.work::j.pin::j.phase::j.inc::j.nodes::j.since::j.til::j.epoch::(c.flatMap mC++[g,a,m,t]))=_;rw[Bq,Ed ns c _ _ g a m t];simp
def ad3:∀(ns':List bh) (ns:List bh) (p:Nat) (r:List Int),je ns'.length ns p (ns'.flatMap jF++r)=uM (ns++ns') (p+3*ns'.length) r
 |[],ns,p,r=>by rw[length_nil,zc];simp
 |n::ns',ns,p,r=>by
  rw[length_cons,flatMap_cons];have h:uj n<=7:=by unfold uj tP;split<;>split<;>split<;>decide
  show je (ns'.length+1) ns p (uj n::n.version::n.aM::(ns'.flatMap jF++r))=_;rw[Bo _ _ _ _ _ _ _ h,ad3 ns' _ _ r];have:El (uj n) n.version n.aM=n:=by obtain⟨u,c,m,v,j⟩:=n;exact P_ u c m v j
  rw[this];simp only[append_assoc,singleton_append];congr 1;omega
def KJ(s:aa)(D:s.nodes.length<=6)(hj:s.jobs.length<=24):mw (gp s)=.ok s:=by
 have h:gp s=(s.nodes.length:Int)::(s.nodes.flatMap jF++((s.jobs.length:Int)::(s.jobs.flatMap mC++[s.goal,s.prior,s.mode,s.term]))):=by simp[gp,sB,pL]
 rw[h];unfold mw;dsimp only;rw[if_pos (by omega),toNat_natCast,ad3,Ee _ _ _ _ (by omega),toNat_natCast,Ed];simp
section
variable{c:av}{n:Int}
def HY(s:aa):gp s=(s.nodes.length:Int)::(s.nodes.flatMap jF++((s.jobs.length:Int)::(s.jobs.flatMap mC++[s.goal,s.prior,s.mode,s.term]))):=by simp[gp,sB,pL]
def yp(s:aa):(gp s).length=2+3*s.nodes.length+12*s.jobs.length+4:=by unfold gp;rw[length_append,yo s (Nat.le_refl _)];rfl
def Uk(c:av)(s:aa)(t:List Int)(D:s.nodes.length<=6)(hj:s.jobs.length<=24)(X:(gp s).all isNum=true):uX (kS s++t) 0 400=some (gp s,(kS s).length):=by unfold kS;rw[if_pos ⟨D,hj⟩];exact IL _ _ _ X (by rw[yp];omega) (by rw[yp];omega)
def XD{s:aa}(D:s.nodes.length<=6)(hj:s.jobs.length<=24)(X:(gp s).all isNum=true)(hr:jE c s=true):uY c (kS s)=some s:=by have h:=Uk c s [] D hj X;rw[append_nil]at h;unfold uY;rw[h];dsimp only;rw[if_pos rfl,KJ s D hj];dsimp only;rw[if_pos hr]
def Nx:∀(f:Nat) (m:Int),0<=m->m<128 ^ (f+1)->∀x∈iT f m,0<=x/\x<=255
 |f,m,h0,A=>by
  intro x S;by_cases H:128<=m;case neg=>rw[xk f (by omega)]at S;simp at S;omega
  cases f with
  |zero=>exfalso;omega
  |succ f=>
   rw[iT,if_pos H]at S;rcases mem_cons.1 S with rfl|S
   .omega
   .refine Nx f (m / 128) (by omega) ?_ x S;rw[Int.pow_succ]at A;exact Int.ediv_lt_of_lt_mul (by decide) A
def F1(n:Int):∀x∈aV n,0<=x/\x<=255:=by
 unfold aV;split
 .rename_i h;have h:=of_decide_eq_true h;unfold dS at h;exact Nx 8 n h.1 (by omega)
 .simp
def Ny:∀(i f:Nat) (m:Int),m<128 ^ (i+1)->(iT f m).length<=i+1
 |0,f,m,h=>by rw[xk f (by simpa using h)];simp
 |i+1,0,m,h=>by simp[iT]
 |i+1,f+1,m,h=>by
  unfold iT;split
  .have h2:m / 128<128 ^ (i+1):=by
    rw[Int.pow_succ]at h;exact Int.ediv_lt_of_lt_mul (by decide) h
   have:=Ny i f (m / 128) h2;simp;omega
  .simp
def size_le(i:Nat)(h:n<128 ^ (i+1)):(aV n).length<=i+1:=by
 unfold aV;split
 .exact Ny i 8 n h
 .simp
def dI(h0:0<=n)(U:n<=9007199254740991):isNum n=true:=decide_eq_true ⟨h0,U⟩
structure CR(j:bT):Prop where
 queue:0<=j.queue/\j.queue<128
 prio:0<=j.prio/\j.prio<128
 min:0<=j.min/\j.min<128
 max:0<=j.max/\j.max<128
 work:0<=j.work/\j.work<16384
 pin:0<=j.pin/\j.pin<128
 phase:0<=j.phase/\j.phase<128
 inc:0<=j.inc/\j.inc<2097152
 nodes:0<=j.nodes/\j.nodes<128
 since:0<=j.since/\j.since<2097152
 til:0<=j.til/\j.til<2097152
 epoch:0<=j.epoch/\j.epoch<2097152
def CR.all{j:bT}(h:CR j):(mC j).all isNum=true:=by obtain⟨U,h2,B,y,A,o,u,D,V,m,O,E⟩:=h;simp only[mC,all_cons,all_nil,Bool.and_true,Bool.and_eq_true];exact⟨dI (by omega) (by omega),dI (by omega) (by omega),dI (by omega) (by omega),dI (by omega) (by omega),dI (by omega) (by omega),dI (by omega) (by omega),dI (by omega) (by omega),dI (by omega) (by omega),dI (by omega) (by omega),dI (by omega) (by omega),dI (by omega) (by omega),dI (by omega) (by omega)⟩
def CR.size{j:bT}(h:CR j):((mC j).flatMap aV).length<=21:=by obtain⟨U,h2,B,y,A,o,u,D,V,m,O,c⟩:=h;have K:=size_le 0 (n:=j.queue) (by omega);have T:=size_le 0 (n:=j.prio) (by omega);have a:=size_le 0 (n:=j.min) (by omega);have v:=size_le 0 (n:=j.max) (by omega);have q:=size_le 1 (n:=j.work) (by omega);have b:=size_le 0 (n:=j.pin) (by omega);have E:=size_le 0 (n:=j.phase) (by omega);have X:=size_le 2 (n:=j.inc) (by omega);have H:=size_le 0 (n:=j.nodes) (by omega);have e:=size_le 2 (n:=j.since) (by omega);have r:=size_le 2 (n:=j.til) (by omega);have x:=size_le 2 (n:=j.epoch) (by omega);simp only[mC,flatMap_cons,flatMap_nil,length_append,length_nil];omega
def Is:∀(l:List bT),(∀j∈l,CR j)->(l.flatMap mC).all isNum=true/\((l.flatMap mC).flatMap aV).length<=21*l.length
 |[],_=>by simp
 |j::l,h=>by obtain⟨U,h2⟩:=Is l (λx S=>h x (by simp[S]));have hj:=h j (by simp);rw[flatMap_cons,all_append,U,hj.all,flatMap_append,length_append,length_cons];have:=hj.size;exact⟨rfl,by omega⟩
def Tb{n:bh}(U:0<=n.version/\n.version<128)(h2:0<=n.aM/\n.aM<128):(jF n).all isNum=true/\((jF n).flatMap aV).length<=3:=by
 have u:0<=uj n/\uj n<=7:=by unfold uj tP;split<;>split<;>split<;>decide
 have K:=size_le 0 (n:=uj n) (by omega);have T:=size_le 0 (n:=n.version) (by omega);have a:=size_le 0 (n:=n.aM) (by omega);simp only[jF,all_cons,all_nil,Bool.and_true,Bool.and_eq_true,flatMap_cons,flatMap_nil,length_append,length_nil];exact⟨⟨dI (by omega) (by omega),dI (by omega) (by omega),dI (by omega) (by omega)⟩,by omega⟩
def Ej:∀(l:List bh),(∀n∈l,(0<=n.version/\n.version<128)/\(0<=n.aM/\n.aM<128))->(l.flatMap jF).all isNum=true/\((l.flatMap jF).flatMap aV).length<=3*l.length
 |[],_=>by simp
 |n::l,h=>by obtain⟨U,h2⟩:=Ej l (λx S=>h x (by simp[S]));have D:=Tb (h n (by simp)).1 (h n (by simp)).2;rw[flatMap_cons,all_append,U,D.1,flatMap_append,length_append,length_cons];have:=D.2;exact⟨rfl,by omega⟩
def IP{α:Type}{l:List α}{x:α}(z:α)(h:x∈l):∃k,k<l.length/\l.getD k z=x:=by obtain⟨k,hk,rfl⟩:=mem_iff_getElem.1 h;exact⟨k,hk,by simp[getD,hk]⟩
def XK(l:List Int)(h:l.all isNum=true):l.length<=(l.flatMap aV).length:=by
 induction l with
 |nil=>simp
 |cons x l o=>simp only[all_cons,Bool.and_eq_true]at h;rw[flatMap_cons,length_append,length_cons];have:=By h.1;have:=o h.2;omega
def HI{s:aa}(h:jE c s=true):(s.nodes.length<=6/\s.jobs.length<=24)/\(gp s).all isNum=true/\10<=(kS s).length/\(kS s).length<=900:=by
 have o:=vV h;have K:=o.xw;have D:=o.nodes;have hj:=o.jobs;have hs:=o.acV;have w:s.nodes.length<=6:=by omega
 obtain⟨O,b⟩:=Ej s.nodes (λn H=>by obtain⟨k,hk,rfl⟩:=IP aq H;have:=o.node hk;omega);obtain⟨r,J⟩:=Is s.jobs (λj H=>by obtain⟨k,hk,rfl⟩:=IP az H;have U:=o.aM hk;have h2:=o.bits hk;dsimp only at U;exact⟨by omega,by omega,by omega,by omega,by omega,by omega,by omega,by omega,by omega,by omega,by omega,by omega⟩);have X:(gp s).all isNum=true:=by rw[HY];simp only[all_cons,all_append,O,r,all_nil,Bool.and_true,Bool.true_and,Bool.and_eq_true];exact⟨dI (by omega) (by omega),dI (by omega) (by omega),dI (by omega) (by omega),dI (by omega) (by omega),dI (by omega) (by omega),dI (by omega) (by omega)⟩
 have E:kS s=aV (gp s).length++(gp s).flatMap aV:=by unfold kS;rw[if_pos ⟨w,hj⟩];unfold g_;rw[if_pos X]
 have Z:=yp s;have m:=XK (gp s) X;have x:=By (n:=((gp s).length:Int)) (dI (by omega) (by omega));have t:=size_le 1 (n:=((gp s).length:Int)) (by omega);refine⟨⟨w,hj⟩,X,?_,?_⟩
 .rw [E,length_append];omega
 .have G:=size_le 0 (n:=(s.nodes.length:Int)) (by omega);have T:=size_le 0 (n:=(s.jobs.length:Int)) (by omega);have a:=size_le 0 (n:=s.goal) (by omega);have v:=size_le 0 (n:=s.prior) (by omega);have q:=size_le 0 (n:=s.mode) (by omega);have y:=size_le 2 (n:=s.term) (by omega);have e:((gp s).flatMap aV).length=(aV (s.nodes.length:Int)).length+(((s.nodes.flatMap jF).flatMap aV).length+((aV (s.jobs.length:Int)).length+(((s.jobs.flatMap mC).flatMap aV).length+((aV s.goal).length+((aV s.prior).length+((aV s.mode).length+(aV s.term).length)))))):=by
   rw[HY];simp only[flatMap_cons,flatMap_append,flatMap_nil,length_append,length_nil];omega
  rw[E,length_append,e];omega
end
variable {G:tY}
section
def u8(n:Int):DV:=.val (.int .u8 n)
def ax(l:List Int):List (List DV):=l.map λn=>[u8 n]
def ak(l:List Int):LV:=.d (.cM 1 (ax l))
def gL(l:List Int):List (List DV):=l.map λn=>[i64 n]
def yg:Option (Int×Nat)->Int
 |none=>0
 |some (x,_)=>x
def yh:Option (Int×Nat)->Nat
 |none=>0
 |some (_,p)=>p
def Gj(q:Option (Int×Nat)):LV:=.cZ [.int (yg q),.int (yh q),.bool q.isSome]
def ZN(n d:Int)(i:Nat)(hi:i<8)(h0:0<=n)(D:n<128 ^ i)(a:0<=d)(hd:d<128):Ef .i64 n (Df .i64 d (IntKind.i64.wrap (7*(i:Int))))=n+d*128 ^ i:=by
 have S:IntKind.i64.wrap (7*(i:Int))=((7*i:Nat):Int):=by rw[aH (by omega) (by omega)];omega
 have c:(128:Int) ^ i=((2 ^ (7*i):Nat):Int):=by rw[Nat.pow_mul];push_cast;rfl
 have O:2 ^ (7*i)<=2 ^ 49:=Nat.pow_le_pow_right (by decide) (by omega);rw[S,c];rw[c]at D;obtain⟨n,rfl⟩:=eq_ofNat_of_zero_le h0;obtain⟨d,rfl⟩:=eq_ofNat_of_zero_le a;generalize E:2 ^ (7*i)=q at *;have h:n<q:=by omega
 have A:d<128:=by omega
 have j:d*q<=127*2 ^ 49:=Nat.mul_le_mul (by omega) O;have hs:Df .i64 (d:Int) ((7*i:Nat):Int)=((d*q:Nat):Int):=by
  unfold Df;rw[toNat_natCast,show Nat.min (7*i) IntKind.i64.bits=7*i from Nat.min_eq_left (by show 7*i<=64;omega)];have:(2:Int) ^ (7*i)=(q:Int):=by rw[<- E];push_cast;rfl
  rw[this,<- natCast_mul,vD _ (by omega)]
 rw[hs];have e:Ef .i64 (n:Int) ((d*q:Nat):Int)=IntKind.i64.wrap ((BitVec.ofInt 64 (n:Int)||| BitVec.ofInt 64 ((d*q:Nat):Int)).toNat:Int):=rfl;rw[e,BitVec.toNat_or,BitVec.ofInt_natCast,BitVec.ofInt_natCast,BitVec.toNat_ofNat,BitVec.toNat_ofNat,mod_eq_of_lt (by omega),mod_eq_of_lt (by omega)];have B:n||| d*q=d*q+n:=by have:=two_pow_add_eq_or_of_lt (i:=7*i) (b:=n) (by rw[E];exact h) d;rw[E,Nat.mul_comm q d]at this;rw[this,Nat.or_comm]
 rw[B,vD _ (by omega)]
 push_cast
 omega
def gnS(t:Nat)(l:List Int)(p:Nat×Int):St:=⟨[(1,.int t),(7,.int p.2),(25,.d (.cM 1 (ax l))),(26,.int l.length),(27,.int p.1)],[]⟩
attribute [local go_sem] u8 ak
def iD(b:List Int)(T:∀c∈b,0<=c/\c<=255)(Z:b.length<=1000000)(t:Nat)(J:t<=1000000)(q:Option (Int×Nat))(E:fK b t=q):aS G 127 [ak b,.int t] [] (Gj q) []:=by
 have u:(ax b).length=b.length:=by simp[ax]
 have U:decide ((t:Int)<0)=false:=decide_eq_false (by omega);refine MG func127 (hid:=by cases q<;>rfl) ?_;simp only[go_sem];simp only[U,u,go_sem];by_cases hlen:b.length<=t;case pos=>
  have h2:decide ((t:Int)>=(b.length:Int))=true:=decide_eq_true (by omega);have:q=none:=by rw[<- E];unfold fK;rw[drop_eq_nil_of_le hlen];rfl
  subst this;simp only[h2,Gj,yg,yh,Option.isSome_none,Option.isSome_some,Int.natCast_zero,go_sem]
 have h2:decide ((t:Int)>=(b.length:Int))=false:=decide_eq_false (by omega);have B:IntKind.i64.wrap ((t:Int)+8)=((t+8:Nat):Int):=by rw[aH (by omega) (by omega)];rfl
 have y:(if((t+8:Nat):Int)<(b.length:Int)then((t+8:Nat):Int)else(b.length:Int))=((t+((b.drop t).take 8).length:Nat):Int):=by split<;>simp<;>omega
 have x:(lQ ((b.drop t).take 8) 0 0).map (λp=>(p.1,t+p.2))=q:=by rw[<- E];unfold fK;rw[<- A4 (b.drop t) 0 0]
 have hr:((ax b).drop t).take (t+((b.drop t).take 8).length-t)=ax ((b.drop t).take 8):=by simp only[ax,Nat.add_sub_cancel_left,<- map_drop,map_take,length_take];rw[take_eq_take_iff];simp
 have v:∀c∈(b.drop t).take 8,0<=c/\c<=255:=λc K=>T c (mem_of_mem_drop (mem_of_mem_take K))
 have a:((b.drop t).take 8).length<=8:=by simp;omega
 have O:t<=t+((b.drop t).take 8).length/\t+((b.drop t).take 8).length<=b.length/\b.length<=b.length:=by simp;omega
 have o:(ax ((b.drop t).take 8)).length=((b.drop t).take 8).length:=by simp[ax]
 simp only[h2,B,u,y,go_sem];generalize(b.drop t).take 8=l at *;simp only[u,O,hr,o,go_sem];refine aQ [1,7,25,26,27] [] (λp:Nat×Int=>p.1<=l.length/\0<=p.2/\p.2<128 ^ p.1/\(lQ (l.drop p.1) p.1 p.2).map (λr=>(r.1,t+r.2))=q) (λp=>l.length-p.1) (gnS t l) (0,0) ?_ ⟨zero_le _,Int.le_refl _,by decide,by rw[drop_zero];exact x⟩ ?_
 .simp only[gnS,go_sem]
 clear x O hr y B h2 U E;rintro⟨i,n⟩ ⟨hi,hn0,D,A⟩;dsimp only at hi hn0 D A;simp only[gnS,go_sem];cases X:decide ((i:Int)<(l.length:Int))with
 |false=>
  have hi':i=l.length:=by have:=of_decide_eq_false X;omega
  rw[hi',drop_length]at A;have:q=none:=A.symm;subst this;simp only[Gj,yg,yh,Option.isSome_none,Option.isSome_some,Int.natCast_zero,go_sem]
 |true=>
 have hi':i<l.length:=by have:=of_decide_eq_true X;omega
 have V:=aG (f:=λn:Int=>[u8 n]) 0 hi';simp only[u8]at V;have K:=v (l.getD i 0) (by simp[getD,hi']);have hd:l.drop i=l.getD i 0::l.drop (i+1):=by rw[drop_eq_getElem_cons hi'];simp[getD,hi']
 rw[hd]at A;generalize l.getD i 0=c at *;have YL:=ZN n (c % 128) i (by omega) hn0 D (emod_nonneg _ (by decide)) (emod_lt_of_pos _ (by decide));have ac1:c.tmod 128=c % 128:=tmod_eq_emod_of_nonneg K.1;have S:IntKind.i64.wrap (c % 128)=c % 128:=aH (by omega) (by omega);have hw7:0<=IntKind.i64.wrap (7*(i:Int)):=by rw[aH (by omega) (by omega)];omega
 have hp8:(0:Int)<128 ^ i:=Int.pow_pos (by decide);have w:n+c % 128*128 ^ i<128 ^ (i+1):=by have:c % 128*128 ^ i<=127*128 ^ i:=Int.mul_le_mul_of_nonneg_right (by omega) (Int.le_of_lt hp8);rw[Int.pow_succ];omega
 have hn3:0<=n+c % 128*128 ^ i:=Int.add_nonneg hn0 (Int.mul_nonneg (by omega) (Int.le_of_lt hp8));simp only[ax,V,ac1,S,hw7,YL,ne_eq,not_false_eq_true,show((128:Int)=0)=False from by decide,go_sem];unfold lQ at A;rw[if_neg (by omega)]at A;by_cases e:128<=c;case pos=>
  rw[if_pos e]at A;simp only[decide_eq_true (show c>=128 from e),go_sem];refine aY (i+1,n+c % 128*128 ^ i) ?_ ?_ ⟨by dsimp only;omega,hn3,w,A⟩ (by dsimp only;omega)
  .simp only[go_sem]
  .simp only[gnS,wS i,ax,go_sem]
 rw[if_neg e]at A;simp only[decide_eq_false (show¬c>=128 from e),go_sem];by_cases j:c=0/\0<i;case pos=>rw[if_pos (.inl j)]at A;have:q=none:=A.symm;subst this;simp only[show(c==0)=true by rw[j.1];rfl,dT ((i:Int)>0),Gj,yg,yh,Option.isSome_none,Option.isSome_some,Int.natCast_zero,go_sem]
 have m:(c==0)=true->decide ((i:Int)>0)=false:=λh=>decide_eq_false (λh2=>j ⟨by simpa using h,by omega⟩)
 by_cases H:dS<n+c % 128*128 ^ i;case pos=>
  rw[if_pos (.inr H)]at A;have:q=none:=A.symm;subst this;cases h0:(c==0)with
  |true=>simp only[m h0,decide_eq_true (show n+c % 128*128 ^ i>9007199254740991 from H),Gj,yg,yh,Option.isSome_none,Option.isSome_some,Int.natCast_zero,go_sem]
  |false=>simp only[decide_eq_true (show n+c % 128*128 ^ i>9007199254740991 from H),Gj,yg,yh,Option.isSome_none,Option.isSome_some,Int.natCast_zero,go_sem]
 rw[if_neg (λh=>h.elim j H)]at A;have:q=some (n+c % 128*128 ^ i,t+(i+1)):=A.symm;subst this;have k:IntKind.i64.wrap ((t:Int)+(i:Int))=((t+i:Nat):Int):=by rw[aH (by omega) (by omega)];rfl
 cases h0:(c==0)with
 |true=>simp only[m h0,decide_eq_false (show¬n+c % 128*128 ^ i>9007199254740991 from H),k,wS (t+i),Gj,yg,yh,Option.isSome_none,Option.isSome_some,Nat.add_assoc,go_sem]
 |false=>simp only[decide_eq_false (show¬n+c % 128*128 ^ i>9007199254740991 from H),k,wS (t+i),Gj,yg,yh,Option.isSome_none,Option.isSome_some,Nat.add_assoc,go_sem]
end
section
variable(m n:Int)
def YC:=qx f194
def ad7:bM prog f194=some YC:=by kernel_rfl
attribute [local go_sem] u8
def XR(f:Nat){m:Int}(h:m<128):iT f m=[m]:=by
 cases f with
 |zero=>rfl
 |succ f=>rw[iT,if_neg (by omega)]
def Wm(h0:0<=m)(U:m<128):Ef .u8 m 128=m+128:=by
 obtain⟨d,rfl⟩:=eq_ofNat_of_zero_le h0;have:∀d:Fin 128,Ef .u8 (d.val:Int) 128=(d.val:Int)+128:=by decide
 exact this ⟨d,by omega⟩
def u8_in(h0:0<=m)(U:m<256):IntKind.u8.wrap m=m:=by simp[IntKind.wrap,IntKind.bits,IntKind.signed];omega
def Wu(p:Int×List Int):St:=⟨[(0,.int p.1),(3,.sl 0 p.2.length 1 0 p.2.length)],[some (.dat 5 1 (ax p.2))]⟩
def HZ(D:isNum n=true)(fin:St->Prop)(A:∀s:St,s.get 2=.sl 0 (aV n).length 1 0 (aV n).length->s.obj 0=.live (.dat 5 1 (ax (aV n)))->fin s) :
  W prog G fin [.c YC.2.1] ⟨dU 0 [.int n],[]⟩:=by
 have w:=of_decide_eq_true D;have Z:aV n=iT 8 n:=by unfold aV;rw[if_pos D]
 rw[Z]at A;have U:decide (n<0)=false:=decide_eq_false (by omega);have h2:decide (n>9007199254740991)=false:=decide_eq_false (by have:=w.2;unfold dS at this;omega);simp only[YC,U,h2,go_sem];refine aQ [0,3] [.t 3 5 1] (λp:Int×List Int=>p.2++iT (8-p.2.length) p.1=iT 8 n/\0<=p.1/\p.1*128 ^ p.2.length<=dS/\p.2.length<=7) (λp=>p.1.toNat) Wu (n,[]) ?_ ⟨rfl,w.1,by simpa using w.2,zero_le _⟩ ?_
 .simp only[Wu,ax,go_sem]
 rintro⟨m,pre⟩ ⟨hd,r,T,j⟩;dsimp only at hd r T j;generalize hk:pre.length=k at *;have hlen:(ax pre).length=k:=by simp[ax,hk]
 simp only[Wu,hk,go_sem];by_cases H:128<=m;case neg=>
  rw[XR _ (by omega)]at hd;have q:(iT 8 n).length=k+1:=by rw[<- hd];simp[hk]
  have u:(k=(ax pre).length/\(ax pre++[[DV.val (Value.int IntKind.u8 m)]]).length*1<=70368744177664):=⟨hlen.symm,by simp[hlen];omega⟩;simp only[dF (m>=128),u8_in m r (by omega),go_sem];rw[if_pos u];simp only[hlen,go_sem];refine A _ ?_ ?_
  .rw [q];rfl
  .simp [<- hd,ax,St.obj,an,u8]
 have S:k<=6:=by
  rcases Nat.lt_or_ge k 7 with h|h
  .omega
  .exfalso;have U:(128:Int) ^ 7<=128 ^ k:=by exact_mod_cast Nat.pow_le_pow_right (by decide) h
   have h2:128*(128:Int) ^ 7<=m*128 ^ k:=Int.mul_le_mul H U (by decide) r;unfold dS at T;omega
 have J:0<=m % 128:=emod_nonneg _ (by decide);have O:m % 128<128:=emod_lt_of_pos _ (by decide);have a:m.tmod 128=m % 128:=tmod_eq_emod_of_nonneg r;have e:vM .i64 m 7=m / 128:=FI m 7 (by decide);have u:(k=(ax pre).length/\(ax pre++[[DV.val (Value.int IntKind.u8 (m % 128+128))]]).length*1<=70368744177664):=⟨hlen.symm,by simp[hlen];omega⟩;simp only[dT (m>=128),a,u8_in (m % 128) J (by omega),Wm _ J O,e,ne_eq,not_false_eq_true,show((128:Int)=0)=False from by decide,go_sem];rw[if_pos u];simp only[hlen,go_sem];have b:(0:Int)<128 ^ k:=Int.pow_pos (by decide);refine aY (m / 128,pre++[m % 128+128]) ?_ ?_ ⟨?_,ediv_nonneg r (by decide),?_,by simp[hk];omega⟩ (by dsimp only;omega)
 .simp only[go_sem]
 .simp only[Wu,ax,map_append,length_append,hk,e,go_sem]
 .dsimp only;rw[<- hd,show 8-k=(8-(k+1))+1 by omega,iT,if_pos H];simp[hk]
 .dsimp only;have o:(pre++[m % 128+128]).length=k+1:=by simp[hk]
  have V:m / 128*128<=m:=Int.ediv_mul_le m (by decide);have X:m / 128*128*128 ^ k<=m*128 ^ k:=Int.mul_le_mul_of_nonneg_right V (Int.le_of_lt b);rw[o,Int.pow_succ,Int.mul_comm ((128:Int) ^ k) 128,<- Int.mul_assoc];omega
def Cs:∀(f:Nat) (m:Int),1<=(iT f m).length/\(iT f m).length<=f+1
 |0,m=>by simp[iT]
 |f+1,m=>by
  unfold iT;split
  .have:=Cs f (m / 128);simp;omega
  .simp
def Bx{n:Int}(h:isNum n=true):1<=(aV n).length:=by unfold aV;rw[if_pos h];exact(Cs 8 n).1
def fD:(aV n).length<=9:=by
 unfold aV;split
 .exact (Cs 8 n).2
 .simp
def H6(D:isNum n=true):aS G 194 [.int n] [] (.sl 0 (aV n).length 1 0 (aV n).length) [.dat 5 1 (ax (aV n))]:=by refine G9 func194 (by decide) ad7 rfl ?_;exact HZ n D _ (λs U h2=>uv (o:=0) [] (by simp[gi.of,RV.of,bQ,U,YC,qxE]) h2)
attribute [local go_sem] ak
def mL:aS G 194 [.int n] [] (ak (aV n)) []:=by
 refine G9 func194 (by decide) ad7 rfl ?_;by_cases D:isNum n=true
 .refine HZ n D _ (λs U h2=>dP [0] (vs:=[.sl 0 (aV n).length 1 0 (aV n).length]) (by simp[gi.of,RV.of,U,YC,qxE]) (λz j=>?_) ?_)
  .simp at j;subst j;exact⟨_,_,_,.inl h2⟩
  .simp [aR,aB,bz,h2,ax,ak,take_of_length_le]
 .have Z:aV n=[]:=by unfold aV;rw[if_neg D]
  rw[Z];by_cases h0:n<0
  .simp only[YC,decide_eq_true h0,go_sem];exact zR rfl (by simp[aR,aB,ak,ax,St.get,aN])
  .have h2:n>9007199254740991:=by
    unfold isNum dS at D;simp at D;omega
   simp only[YC,decide_eq_false h0,decide_eq_true h2,go_sem];exact zR rfl (by simp[aR,aB,ak,ax,St.get,aN])
def liS(l:List Int)(i:Nat):St:=⟨[(3,.sl 0 (aV l.length++(l.take i).flatMap aV).length 1 0 (aV l.length++(l.take i).flatMap aV).length),(10,.d (.cM 1 (gL l))),(11,.int l.length),(12,.int i)],[some (.dat 5 1 (ax (aV l.length++(l.take i).flatMap aV)))]⟩
attribute [local go_sem] gL
def Gw(l:List Int):(l.flatMap aV).length<=9*l.length:=by
 induction l with
 |nil=>simp
 |cons x l o=>rw[flatMap_cons,length_append,length_cons];have:=fD x;omega
def kj(l:List Int)(Z:l.length<=1000000):aS G 192 [.d (.cM 1 (gL l))] [] (ak (g_ l)) []:=by
 have m:(gL l).length=l.length:=by simp[gL]
 have y:isNum (l.length:Int)=true:=by unfold isNum dS;simp;omega
 refine tW func192 ?_;simp only[m,go_sem];refine tG (H6 (l.length:Int) y) rfl rfl rfl ?_;simp only[m,go_sem];refine aQ [3,10,11,12] [] (λi:Nat=>i<=l.length/\(l.take i).all isNum=true) (λi=>l.length-i) (liS l) 0 ?_ ⟨zero_le _,by simp⟩ ?_
 .simp only[liS,flatMap_nil,Int.natCast_zero,go_sem]
 rintro i ⟨hi,b⟩;generalize k:aV l.length++(l.take i).flatMap aV=pre at *;have t:pre.length<=9000009:=by rw[<- k,length_append];have U:=Gw (l.take i);have h2:=fD (l.length:Int);rw[length_take]at U;omega
 have o:(ax pre).length=pre.length:=by simp[ax]
 simp only[liS,k,go_sem];cases X:decide ((i:Int)<(l.length:Int))with
 |false=>
  have A:i=l.length:=by have:=of_decide_eq_false X;omega
  rw[A,take_length]at k b;have a:g_ l=pre:=by unfold g_;rw[if_pos b,k]
  simp only[go_sem];rw[a];exact dP [0] rfl (by simp[St.obj,an]) (by simp[St.obj,an,aR,St.get,aN,aB,bz,o,ax,take_of_length_le])
 |true=>
 have A:i<l.length:=by have:=of_decide_eq_true X;omega
 have V:=aG (f:=λn:Int=>[i64 n]) 0 A;have H:l.getD i 0∈l:=by simp[getD,A]
 have j:l.take (i+1)=l.take i++[l.getD i 0]:=by rw[take_add_one];simp[getD,A]
 generalize l.getD i 0=x at *;simp only[i64]at V;simp only[V,go_sem];refine a_ (mL x) ?_;have r:(ax (aV x)).length=(aV x).length:=by simp[ax]
 by_cases S:isNum x=true;case neg=>
  have a:aV x=[]:=by unfold aV;rw[if_neg S]
  have u:g_ l=[]:=by unfold g_;rw[if_neg];intro h;rw[all_eq_true]at h;exact S (h x H)
  have q:((((ax (aV x)).length:Nat):Int)==0)=true:=by rw[a];rfl
  simp only[q,u,go_sem];exact zR rfl (by simp[aR,aB,ak,ax,St.get,aN])
 have O:=Bx S;have E:=fD x;have q:((((ax (aV x)).length:Nat):Int)==0)=false:=by rw[r];exact beq_eq_false_iff_ne.2 (by omega)
 have e:(ax pre++ax (aV x)).length*1<=70368744177664:=by rw[length_append,o,r];omega
 simp only[q,go_sem];rw[if_pos ⟨o.symm,e⟩];simp only[o,r,go_sem];have c:aV l.length++(l.take (i+1)).flatMap aV=pre++aV x:=by rw[j,flatMap_append,<- append_assoc,k];simp
 refine aY (i+1) ?_ ?_ ⟨by omega,by rw[j,all_append,b];simp[S]⟩ (by omega)
 .simp only[go_sem]
 .simp only[liS,c,ax,map_append,length_append,wS i,go_sem]
end
section
def GG(b:Bool)(n:Int):aS G 196 [.bool b,.int n] [] (.int (tP b n)) []:=by refine iL func196 ?_;cases b<;>simp only[tP,go_sem]
def XL(a b c:Bool):Ef .i64 (Ef .i64 (tP a 1) (tP b 2)) (tP c 4)=tP a 1+tP b 2+tP c 4:=by cases a<;>cases b<;>cases c<;>decide
def iY(s:aa):ah:=.box 34 [bH s.nodes,qM s.jobs,.int s.goal,.int s.prior,.int s.mode,.int s.term]
def MS(s:aa)(i:Nat):St:=⟨[(1,.ptr 0 0),(3,.sl 1 (1+3*i) 1 0 (1+3*i)),(23,bH s.nodes),(24,.int s.nodes.length),(25,.int i)],[some (iY s),some (.dat 3 1 (gL (pL s i)))]⟩
def MR(s:aa)(i:Nat):St:=⟨[(1,.ptr 0 0),(3,.sl 1 (2+3*s.nodes.length+12*i) 1 0 (2+3*s.nodes.length+12*i)),(55,qM s.jobs),(56,.int s.jobs.length),(57,.int i)],[some (iY s),some (.dat 3 1 (gL (sB s i))),some (.dat 3 1 [[i64 s.jobs.length]])]⟩
attribute [local go_sem] gL ak iY
def V_(s:aa)(w:s.nodes.length<=1000000)(Z:s.jobs.length<=1000000):aS G 161 [aU s] [] (ak (kS s)) []:=by
 refine uW func161 ?_;by_cases o:s.nodes.length<=6;case neg=>
  have O:kS s=[]:=by unfold kS;rw[if_neg (by omega)]
  simp only[dT ((s.nodes.length:Int)>6),O,go_sem];exact zR rfl (by simp[aR,aB,ak,ax,St.get,aN])
 by_cases h:s.jobs.length<=24;case neg=>
  have O:kS s=[]:=by unfold kS;rw[if_neg (by omega)]
  simp only[dF ((s.nodes.length:Int)>6),dT ((s.jobs.length:Int)>24),O,go_sem];exact zR rfl (by simp[aR,aB,ak,ax,St.get,aN])
 have O:kS s=g_ (gp s):=by unfold kS;rw[if_pos ⟨o,h⟩]
 simp only[dF ((s.nodes.length:Int)>6),dF ((s.jobs.length:Int)>24),O,go_sem];refine aQ [1,3,23,24,25] [] (λi:Nat=>i<=s.nodes.length) (λi=>s.nodes.length-i) (MS s) 0 ?_ (zero_le _) ?_
 .simp only[MS,pL,flatMap_nil,Int.natCast_zero,Nat.mul_zero,go_sem]
 .intro i hi;have y:(gL (pL s i)).length=1+3*i:=by simp only[gL,length_map,mS s hi]
  simp only[MS,go_sem];cases X:decide ((i:Int)<(s.nodes.length:Int))with
  |true=>
   have A:i<s.nodes.length:=by have:=of_decide_eq_true X;omega
   have V:=aG (f:=cv) aq A;have a:=KT s A;generalize s.nodes.getD i aq=n at *;obtain⟨t,m,q,H,u⟩:=n;simp only[cv]at V;simp only[V,go_sem];refine cc (GG t 1) ?_;refine cc (GG m 2) ?_;refine cc (GG q 4) ?_;simp only[XL,go_sem];have e:∀r:List (List DV),r.length<=20->(map (λn:Int=>[DV.val (Value.int .i64 n)]) (pL s i)++r).length*8<=70368744177664:=λr hr=>by rw[length_append,length_map,mS s hi];omega
   rw[if_pos ⟨(mS s hi).symm,e _ (by simp)⟩];simp only[mS s hi,go_sem];refine aD (by decide) ?_;simp only[go_sem];refine aY (i+1) ?_ ?_ (by omega) (by omega)
   .simp only[go_sem]
   .simp only[MS,a,jF,uj,map_append,wS i,show 1+3*(i+1)=1+3*i+3 by omega,go_sem]
  |false=>
  have A:i=s.nodes.length:=by have:=of_decide_eq_false X;omega
  subst A;simp only[go_sem];have c:=mS s (Nat.le_refl s.nodes.length);have e:∀r:List (List DV),r.length<=20->(map (λn:Int=>[DV.val (Value.int .i64 n)]) (pL s s.nodes.length)++r).length*8<=70368744177664:=λr hr=>by rw[length_append,length_map,c];omega
  rw[if_pos ⟨c.symm,e _ (by simp)⟩];simp only[c,go_sem];refine aQ [1,3,55,56,57] [] (λk:Nat=>k<=s.jobs.length) (λk=>s.jobs.length-k) (MR s) 0 ?_ (zero_le _) ?_
  .simp only[MR,sB,flatMap_nil,map_append,Int.natCast_zero,Nat.mul_zero,show 1+3*s.nodes.length+1=2+3*s.nodes.length by omega,go_sem]
  intro k hk;have b:=yo s hk;have e:∀r:List (List DV),r.length<=20->(map (λn:Int=>[DV.val (Value.int .i64 n)]) (sB s k)++r).length*8<=70368744177664:=λr hr=>by rw[length_append,length_map,b];omega
  simp only[MR,go_sem];cases X:decide ((k:Int)<(s.jobs.length:Int))with
  |true=>
   have J:k<s.jobs.length:=by have:=of_decide_eq_true X;omega
   have V:=aG (f:=dH) az J;have a:=KU s J;generalize s.jobs.getD k az=j at *;simp only[dH]at V;simp only[V,go_sem];rw[if_pos ⟨b.symm,e _ (by simp)⟩];simp only[b,go_sem];refine aY (k+1) ?_ ?_ (by omega) (by omega)
   .simp only[go_sem]
   .simp only[MR,a,mC,map_append,wS k,show 2+3*s.nodes.length+12*(k+1)=2+3*s.nodes.length+12*k+12 by omega,go_sem]
  |false=>
  have J:k=s.jobs.length:=by have:=of_decide_eq_false X;omega
  subst J;simp only[go_sem];rw[if_pos ⟨b.symm,e _ (by simp)⟩];simp only[b,go_sem];have y:(gp s).length=2+3*s.nodes.length+12*s.jobs.length+4:=by unfold gp;rw[length_append,b];rfl
  refine tH [1] (kj (gp s) (by omega)) rfl (by simp[ay,aB,bz,an,y,gp,map_append,take_of_length_le,b,go_sem]) (by simp[an]) rfl ?_;simp only[go_sem];exact zR rfl (by simp[aR,aB,ak,ax,St.get,aN])
end
section
open Go.RowKit Go.Shelf
def II(n:Nat)(D:n<=100000):gd prog G 247 [.d (.val (.slice none 0 0)),.int n] [] (.sl 0 0 1 0 0) [.dat 5 1 []]:=by
 refine⟨by decide,λJ ι w vs S K=>?_⟩;obtain⟨c⟩:=vs
 match c,K with
 |[h,k],⟨h0,U,_⟩=>
 have h0:h=.slice none 0 0:=h0;have U:k=.int .i64 n:=U;subst h0 U;refine(callsIn_wide (n:=8)).1 ?_;refine callsIn_of_wp func247 rfl trivial ?_ rfl;simp only[ntmps247,Nat.reduceAdd,Nat.reduceSub,sG,sA];have m:IntKind.i64.wrap (n:Int)=n:=aH (by omega) (by omega);have T:Tryz.t5.bytes=1:=rfl;have b:∀(w':World) ,w'=w->aO G (an []) (an [some (.dat 5 1 [])]) J ι w (.sl 0 0 1 0 0) (.slice none 0 0) w':=by rintro w' rfl;obtain⟨A,E⟩:=aA.Mu S (base:=0) (cD (by simp)) 5 1;have e:(λo=>if o=0 then bK.live (.dat 5 1 [])else an (([]:List ah).map some) o)=an [some (.dat 5 1 [])]:=(iQ [] _).symm;rw[e]at A E;exact⟨J,ι,A,.inl ⟨rfl,none,rfl⟩,E⟩
 by_cases j:n=0
 .subst j
  gi_wp2
  refine bodyPost_ret (results_tmp rfl _ _ _) rfl ?_;exact⟨_,rfl,b _ rfl⟩
 .have a:Builtin.nextslicecap n 0=n:=by
   unfold Builtin.nextslicecap;rw[if_pos (by omega)]
  gi_wp2
  all_goals first
   |(exfalso;simp only[T,a]at *;omega)
   |skip
  refine bodyPost_ret (results_tmp rfl _ _ _) rfl ?_;refine⟨_,rfl,?_⟩;have q:=aO.dat (G:=G) (J:=J) (w:=w) (ι:=ι) S (base:=0) (cD (by simp)) 5 1 [] (Builtin.zeroCells #[Value.int IntKind.u8 0] n++Builtin.zeroCells #[Value.int IntKind.u8 0] ((Question.appendCap n 0 5).cut (w.tape w.drawn (Question.appendCap n 0 5))-n)) (w.drawn+1) ((Question.appendCap n 0 5).cut (w.tape w.drawn (Question.appendCap n 0 5))) (zero_le _) (by have:=grownCap_ge w n 0 5;unfold grownCap at this;simp only[Array.size_append,size_zeroCells];simp;omega) (λ_ _=>trivial);have e:(λo=>if o=0 then bK.live (.dat 5 1 [])else an (([]:List ah).map some) o)=an [some (.dat 5 1 [])]:=(iQ [] _).symm;rw[e]at q;exact q
end
section
variable(b:List Int)(n:Int)
def aaE(r:Int):Int:=if(rF .u32 r 1==0)=true then vM .u32 r 1 else vC .u32 (vM .u32 r 1) 3988292384
def zK(r:Int):Nat->Int
 |0=>r
 |k+1=>aaE (zK r k)
def vG(r:Int)(b:List Int):Nat->Int
 |0=>r
 |k+1=>zK (vC .u32 (vG r b k) (IntKind.u32.wrap (b.getD k 0))) 8
def fQ(s:Int)(b:List Int):Int:=if s<0\/s>4294967295 then 0 else IntKind.i64.wrap (vC .u32 4294967295 (vG (vC .u32 4294967295 (IntKind.u32.wrap s)) b b.length))
def nq(n:Int):List Int:=[IntKind.u8.wrap (vM .i64 n 24),IntKind.u8.wrap (vM .i64 n 16),IntKind.u8.wrap (vM .i64 n 8),IntKind.u8.wrap n]
def ud(b:List Int):Bool:=decide (4<=b.length)&&decide (nq (fQ 0 (b.take (b.length-4)))=b.drop (b.length-4))
def VD(r:Int)(b:List Int)(k:Nat):St:=⟨[(0,.d (.val (.int .u32 (vG r b k)))),(7,ak b),(8,.int b.length),(9,.int k)],[]⟩
def RI(x:Int)(b:List Int)(k:Nat)(j:Nat):St:=⟨[(0,.d (.val (.int .u32 (zK x j)))),(7,ak b),(8,.int b.length),(9,.int k),(17,.int j)],[]⟩
def Kj(r:Int)(b:List Int)(Z:b.length<=1000000):aS G 248 [.d (.val (.int .u32 r)),ak b] [] (.d (.val (.int .u32 (vG r b b.length)))) []:=by
 have u:(ax b).length=b.length:=by simp[ax]
 refine MG func248 ?_;simp only[ak,go_sem];refine aQ [0,7,8,9] [] (λk:Nat=>k<=b.length) (λk=>b.length-k) (VD r b) 0 ?_ (zero_le _) (λk hk=>?_)
 .simp only[VD,ak,u,vG,Int.natCast_zero,go_sem]
 simp only[VD,ak,go_sem];by_cases X:k<b.length
 .have V:=aG (f:=λn:Int=>[u8 n]) 0 X;rw[show b.map (λn:Int=>[u8 n])=ax b from rfl]at V;have a:vG r b (k+1)=zK (vC .u32 (vG r b k) (IntKind.u32.wrap (b.getD k 0))) 8:=rfl;generalize b.getD k 0=c at *;simp only[dT ((k:Int)<(b.length:Int)),V,u8,go_sem];generalize vC .u32 (vG r b k) (IntKind.u32.wrap c)=x at *;refine aQ [0,7,8,9,17] [] (λj:Nat=>j<=8) (λj=>8-j) (RI x b k) 0 ?_ (zero_le _) (λj hj=>?_)
  .simp only[RI,ak,zK,Int.natCast_zero,go_sem]
  simp only[RI,ak,go_sem];by_cases h:j<8
  .have e:zK x (j+1)=aaE (zK x j):=rfl;unfold aaE at e;generalize zK x j=y at *;simp only[dT ((j:Int)<8),go_sem];cases T:(rF .u32 y 1==0)with
   |true=>
    rw[T,if_pos rfl]at e;simp only[go_sem];refine aY (j+1) ?_ ?_ (by omega) (by omega)
    .simp only[go_sem]
    .simp only[RI,ak,e,wS j,go_sem]
   |false=>
    rw[T,if_neg Bool.false_ne_true]at e;simp only[go_sem];refine aY (j+1) ?_ ?_ (by omega) (by omega)
    .simp only[go_sem]
    .simp only[RI,ak,e,wS j,go_sem]
  .obtain rfl:j=8:=by omega
   simp only[show decide (((8:Nat):Int)<8)=false from rfl,go_sem];refine aY (k+1) ?_ ?_ (by omega) (by omega)
   .simp only[go_sem]
   .simp only[VD,ak,a,wS k,go_sem]
 .obtain rfl:k=b.length:=by omega
  simp only[dF ((b.length:Int)<(b.length:Int)),go_sem]
def Tg(s:Int)(b:List Int)(Z:b.length<=1000000):aS G 230 [.int s,ak b] [] (.int (fQ s b)) []:=by
 refine iL func230 ?_;by_cases U:s<0
 .simp only[decide_eq_true U,fQ,U,go_sem]
 by_cases h2:s>4294967295
 .simp only[decide_eq_false U,decide_eq_true h2,fQ,h2,go_sem]
 have H:fQ s b=IntKind.i64.wrap (vC .u32 4294967295 (vG (vC .u32 4294967295 (IntKind.u32.wrap s)) b b.length)):=if_neg (by omega);simp only[decide_eq_false U,decide_eq_false h2,H,go_sem];refine a_ (Kj (vC .u32 4294967295 (IntKind.u32.wrap s)) b Z) ?_;rfl
def xV(Z:b.length<=1000000):aS G 201 [ak b] [] (.int (fQ 0 b)) []:=by refine iL func201 ?_;refine a_ (Tg 0 b Z) trivial
def uE:aS G 200 [.int n] [] (ak (nq n)) []:=by refine uW func200 ?_;exact dP [0] rfl (by simp[St.obj,an]) (by simp[St.obj,an,aR,St.get,aN,aB,bz,ak,ax,nq,u8])
def nk:(nq n).length=4:=rfl
def DM(l:List Int){k:Nat}(h:k<l.length):l.take (k+1)=l.take k++[l.getD k 0]:=by rw[take_add_one];simp[h,getD]
def eqS(a b:List Int)(k:Nat):St:=⟨[(0,ak a),(1,ak b),(4,.bool false),(11,ak a),(12,.int a.length),(13,.int k)],[]⟩
def Qj(a b:List Int)(J:a.length<=1000000)(T:b.length<=1000000):aS G 199 [ak a,ak b] [] (.bool (decide (a=b))) []:=by
 have c:(ax a).length=a.length:=by simp[ax]
 have u:(ax b).length=b.length:=by simp[ax]
 refine MG func199 ?_;simp only[ak,go_sem];simp only[c,u,go_sem];by_cases Z:a.length=b.length;case neg=>simp only[show((a.length:Int) !=(b.length:Int))=true from bne_iff_ne.2 (by omega),go_sem];simp only[decide_eq_false (show¬a=b fromλh=>Z (by rw[h]))]
 simp only[show((a.length:Int) !=(b.length:Int))=false from by simp[Z],go_sem];refine aQ [0,1,4,11,12,13] [] (λk:Nat=>k<=a.length/\a.take k=b.take k) (λk=>a.length-k) (eqS a b) 0 ?_ ⟨zero_le _,rfl⟩ ?_
 .simp only[eqS,ak,c,Int.natCast_zero,go_sem]
 rintro k ⟨hk,O⟩;simp only[eqS,ak,go_sem];by_cases X:k<a.length
 .have e:=aG (f:=λn:Int=>[u8 n]) 0 X;have r:=aG (f:=λn:Int=>[u8 n]) 0 (show k<b.length by omega);rw[show a.map (λn:Int=>[u8 n])=ax a from rfl]at e;rw[show b.map (λn:Int=>[u8 n])=ax b from rfl]at r;simp only[dT ((k:Int)<(a.length:Int)),e,r,u8,go_sem];by_cases v:a.getD k 0=b.getD k 0
  .simp only[v,bne_self_eq_false,go_sem];refine aY (k+1) ?_ ?_ ⟨by omega,by rw[DM a X,DM b (by omega),O,v]⟩ (by omega)
   .simp only[go_sem]
   .simp only[eqS,ak,wS k,go_sem]
  .simp only[show(a.getD k 0 !=b.getD k 0)=true from bne_iff_ne.2 v,go_sem];exact(decide_eq_false λh=>v (by rw[h])).symm
 .obtain rfl:k=a.length:=by omega
  simp only[dF ((a.length:Int)<(a.length:Int)),go_sem];refine(decide_eq_true ?_).symm;rw[take_length,Z,take_length]at O;exact O
def iE(n:Nat):(ax b).take n=ax (b.take n):=by simp[ax,map_take]
def ga(n:Nat):(ax b).drop n=ax (b.drop n):=by simp[ax,map_drop]
def au:(ax b).length=b.length:=by simp[ax]
def Oy(Z:b.length<=1000000):aS G 166 [ak b] [] (.bool (ud b)) []:=by
 have u:(ax b).length=b.length:=by simp[ax]
 refine MG func166 ?_;simp only[ak,go_sem];simp only[u,aH (show -9223372036854775808<=(b.length:Int)-4 by omega) (show(b.length:Int)-4<=9223372036854775807 by omega),go_sem];by_cases y:4<=b.length
 .simp only[dT ((b.length:Int)-4>=0),u,go_sem];have c1:(0:Int)<=(b.length:Int)-4:=by omega
  have q:((b.length:Int)-4).toNat=b.length-4:=by omega
  have S:0<=b.length-4/\b.length-4<=b.length/\b.length<=b.length:=by omega
  have m:b.length-4<=b.length/\b.length<=b.length/\b.length<=b.length:=by omega
  have hi:ud b=decide (nq (fQ 0 (b.take (b.length-4)))=b.drop (b.length-4)):=by unfold ud;rw[decide_eq_true y,Bool.true_and]
  have j:=xV (G:=G) (b.take (b.length-4)) (by rw[length_take];omega);have v:=Qj (G:=G) (nq (fQ 0 (b.take (b.length-4)))) (b.drop (b.length-4)) (by rw[nk];decide) (by rw[length_drop];omega);simp only[ak]at j v;simp only[c1,q,S,Nat.sub_zero,iE,go_sem];refine cc j ?_;refine cc (uE (fQ 0 (b.take (b.length-4)))) ?_;have k:(ax (b.drop (b.length-4))).take (b.length-(b.length-4))=ax (b.drop (b.length-4)):=take_of_length_le (by rw[au,length_drop];exact Nat.le_refl _);simp only[c1,q,m,u,ga,k,ak,go_sem];refine cc v ?_;rw[hi]
 .simp only[dF ((b.length:Int)-4>=0),ud,decide_eq_false y,go_sem]
end
section
variable(r:List (List Int))
def Jf(l:List Int)(Z:l.length<=1000000):aS G 74 [ak l] [] (.sl 0 l.length 1 0 l.length) [.dat 5 1 (ax l)]:=by
 refine tW func74 ?_;simp only[ak,go_sem];cases l with
 |nil=>
  simp only[ax,go_sem];refine⟨?_,?_⟩
  .exact uv [.t 2 5 1] rfl rfl
  .exact uv [] rfl rfl
 |cons n l=>
  have hr:(ax (n::l)).length=(n::l).length:=au _;have h0:¬(n::l).length=0:=by simp
  have T:(l.length+1)*1<=70368744177664:=by simp at Z;omega
  simp only[hr,h0,take_of_length_le (show(ax (n::l)).length<=(n::l).length by rw[hr];exact Nat.le_refl _),Nat.le_refl,go_sem];simp only[T,go_sem];exact uv [] rfl rfl
def k_(l:List Int)(Z:l.length<=1000000):aS G 74 [ak l] [] (ak l) []:=by
 refine tW func74 ?_;simp only[ak,go_sem];cases l with
 |nil=>
  simp only[ax,go_sem];refine⟨?_,?_⟩
  .exact dP [] rfl (by simp) (by simp[aR,St.get,aN,aB])
  .exact dP [0] rfl (by simp[St.obj,an]) (by simp[St.obj,an,aR,St.get,aN,aB,bz])
 |cons n l=>
  have hr:(ax (n::l)).length=(n::l).length:=au _;have h0:¬(n::l).length=0:=by simp
  have T:(l.length+1)*1<=70368744177664:=by simp at Z;omega
  simp only[hr,h0,take_of_length_le (show(ax (n::l)).length<=(n::l).length by rw[hr];exact Nat.le_refl _),Nat.le_refl,go_sem];simp only[T,go_sem];exact dP [0] rfl (by simp[St.obj,an]) (by simp[St.obj,an,aR,St.get,aN,aB,bz,take_of_length_le,hr])
def mV(a b:List Int):ax (a++b)=ax a++ax b:=by simp[ax]
def bS(r:List (List Int)):List (List DV):=r.map λb=>[.cM 1 (ax b)]
def cat(r:List (List Int))(k:Nat):List Int:=(r.take k).flatten
def Jj{k:Nat}(h:k<r.length):cat r (k+1)=cat r k++r.getD k []:=by unfold cat;rw[take_add_one,flatten_append];simp[h,getD]
def UH(k:Nat):(cat r k).length<=r.flatten.length:=by
 have:r.flatten=(r.take k).flatten++(r.drop k).flatten:=by rw[<- flatten_append,take_append_drop]
 rw[this,length_append];exact le_add_right _ _
def XV(r:List (List Int))(k:Nat):St:=⟨[(0,.d (.cM 1 (bS r))),(2,.d (.val (.slice none 0 0))),(3,.int (cat r k).length),(9,.d (.cM 1 (bS r))),(10,.int r.length),(11,.int k)],[]⟩
def XU(r:List (List Int))(k:Nat):St:=⟨[(6,.sl 0 (cat r k).length 1 0 (cat r k).length),(25,.d (.cM 1 (bS r))),(26,.int r.length),(27,.int k)],[some (.dat 5 1 (ax (cat r k)))]⟩
def vm(Z:r.length<=100)(u:r.flatten.length<=100000):aS G 229 [.d (.cM 1 (bS r))] [] (ak r.flatten) []:=by
 have a:(bS r).length=r.length:=by simp[bS]
 refine tW func229 ?_;simp only[ak,go_sem];refine aQ [0,2,3,9,10,11] [] (λk:Nat=>k<=r.length) (λk=>r.length-k) (XV r) 0 ?_ (zero_le _) (λk hk=>?_)
 .simp only[XV,a,Int.natCast_zero,cat,flatten_nil,go_sem]
 simp only[XV,go_sem];by_cases X:k<r.length
 .have V:=aG (f:=λb:List Int=>[DV.cM 1 (ax b)]) [] X;rw[show r.map (λb:List Int=>[DV.cM 1 (ax b)])=bS r from rfl]at V;have K:=congrArg length (Jj r X);rw[length_append]at K;have U:=UH r (k+1);generalize r.getD k []=b at *;have S:IntKind.i64.wrap (((cat r k).length:Int)+(b.length:Int))=((cat r (k+1)).length:Int):=by rw[aH (by omega) (by omega),K];omega
  simp only[dT ((k:Int)<(r.length:Int)),V,au,S,dF ((((cat r (k+1)).length:Nat):Int)<0),go_sem];refine aY (k+1) ?_ ?_ (by omega) (by omega)
  .simp only[go_sem]
  .simp only[XV,wS k,go_sem]
 obtain rfl:k=r.length:=by omega
 have e:cat r r.length=r.flatten:=by unfold cat;rw[take_length]
 simp only[dF ((r.length:Int)<(r.length:Int)),e,go_sem];refine acj (II r.flatten.length u) ?_;refine aQ [6,25,26,27] [] (λk:Nat=>k<=r.length) (λk=>r.length-k) (XU r) 0 ?_ (zero_le _) (λk hk=>?_)
 .simp only[XU,a,Int.natCast_zero,cat,flatten_nil,ax,go_sem]
 simp only[XU,go_sem];by_cases X:k<r.length
 .have V:=aG (f:=λb:List Int=>[DV.cM 1 (ax b)]) [] X;rw[show r.map (λb:List Int=>[DV.cM 1 (ax b)])=bS r from rfl]at V;have hs:=Jj r X;have K:=congrArg length hs;rw[length_append]at K;have U:=UH r (k+1);generalize r.getD k []=b at *;have T:(cat r k).length+b.length<=100000:=by omega
  simp only[dT ((k:Int)<(r.length:Int)),V,au,<- mV,<- hs,show(cat r (k+1)).length*1<=70368744177664 by omega,<- K,go_sem];refine aY (k+1) ?_ ?_ (by omega) (by omega)
  .simp only[go_sem]
  .simp only[XU,wS k,go_sem]
 obtain rfl:k=r.length:=by omega
 simp only[dF ((r.length:Int)<(r.length:Int)),e,go_sem];exact dP [0] rfl (by simp[St.obj,an]) (by simp[St.obj,an,aR,St.get,aN,aB,bz,take_of_length_le,au])
def s4(a b c:List Int):Nat->List Int
 |0=>[]
 |1=>a
 |2=>a++b
 |3=>a++b++c
 |_=>a++b++c++[1]
def f4(a b c:List Int):List ah:=[.box 100 [.d (.cM 1 (ax a)),.d (.cM 1 (ax b)),.d (.cM 1 (ax c)),.sl 1 1 1 0 1],.dat 5 1 [[.val (.int .u8 1)]]]
def Mb(a b c:List Int)(k:Nat):St:=⟨[(0,.sl 0 0 1 0 4),(2,.d (.val (.slice none 0 0))),(3,.int (s4 a b c k).length),(9,.sl 0 0 1 0 4),(10,.int 4),(11,.int k)],(f4 a b c).map some⟩
def Ma(a b c:List Int)(k:Nat):St:=⟨[(6,.sl 2 (s4 a b c k).length 1 0 (s4 a b c k).length),(25,.sl 0 0 1 0 4),(26,.int 4),(27,.int k)],(f4 a b c).map some++[some (.dat 5 1 (ax (s4 a b c k)))]⟩
def zH(o:Bool)(a b c:List Int)(u:(a++b++c).length<=10000):aS G 229 [.sl 0 0 1 0 4] (f4 a b c) (if o=true then .sl 2 (a++b++c++[1]).length 1 0 (a++b++c++[1]).length else ak (a++b++c++[1])) (f4 a b c++if o=true then[.dat 5 1 (ax (a++b++c++[1]))]else[]):=by
 rw[length_append,length_append]at u;have j:(s4 a b c 0).length=0:=rfl;have w:(s4 a b c 1).length=a.length:=rfl;have e:(s4 a b c 2).length=a.length+b.length:=length_append;have O:(s4 a b c 3).length=a.length+b.length+c.length:=by simp[s4];omega
 have A:(s4 a b c 4).length=a.length+b.length+c.length+1:=by simp[s4];omega
 have w0:IntKind.i64.wrap (((s4 a b c 0).length:Int)+((ax a).length:Int))=((s4 a b c 1).length:Int):=by rw[aH (by rw[au];omega) (by rw[au];omega),au];omega
 have n:IntKind.i64.wrap (((s4 a b c 1).length:Int)+((ax b).length:Int))=((s4 a b c 2).length:Int):=by rw[aH (by rw[au];omega) (by rw[au];omega),au];omega
 have r:IntKind.i64.wrap (((s4 a b c 2).length:Int)+((ax c).length:Int))=((s4 a b c 3).length:Int):=by rw[aH (by rw[au];omega) (by rw[au];omega),au];omega
 have y:IntKind.i64.wrap (((s4 a b c 3).length:Int)+1)=((s4 a b c 4).length:Int):=by rw[aH (by omega) (by omega)];omega
 have r0:ax (s4 a b c 0)++ax a=ax (s4 a b c 1):=by rfl
 have r1:ax (s4 a b c 1)++ax b=ax (s4 a b c 2):=by rw[<- mV];rfl
 have K:ax (s4 a b c 2)++ax c=ax (s4 a b c 3):=by rw[<- mV];rfl
 have T:ax (s4 a b c 3)++[[DV.val (.int .u8 1)]]=ax (s4 a b c 4):=by rw[show s4 a b c 4=s4 a b c 3++[1]from rfl,mV];rfl
 have v:((s4 a b c 0).length=(ax (s4 a b c 0)).length/\(ax (s4 a b c 1)).length*1<=70368744177664):=⟨(au _).symm,by rw[au];omega⟩;have q:(ax (s4 a b c 0)).length+(ax a).length=(s4 a b c 1).length:=by rw[au,au];omega
 have c1:((s4 a b c 1).length=(ax (s4 a b c 1)).length/\(ax (s4 a b c 2)).length*1<=70368744177664):=⟨(au _).symm,by rw[au];omega⟩;have B:(ax (s4 a b c 1)).length+(ax b).length=(s4 a b c 2).length:=by rw[au,au];omega
 have S:((s4 a b c 2).length=(ax (s4 a b c 2)).length/\(ax (s4 a b c 3)).length*1<=70368744177664):=⟨(au _).symm,by rw[au];omega⟩;have V:(ax (s4 a b c 2)).length+(ax c).length=(s4 a b c 3).length:=by rw[au,au];omega
 have m:((s4 a b c 3).length=(ax (s4 a b c 3)).length/\(ax (s4 a b c 4)).length*1<=70368744177664):=⟨(au _).symm,by rw[au];omega⟩;have X:(ax (s4 a b c 3)).length+1=(s4 a b c 4).length:=by rw[au];omega
 refine tW func229 ?_;simp only[f4,go_sem];refine aQ [0,2,3,9,10,11] [] (λk:Nat=>k<=4) (λk=>4-k) (Mb a b c) 0 ?_ (zero_le _) (λk hk=>?_)
 .simp only[Mb,f4,s4,Int.natCast_zero,go_sem]
 simp only[Mb,f4,go_sem]
 match k,hk with
 |0,_=>
  simp only[show decide (((0:Nat):Int)<4)=true from rfl,w0,dF ((((s4 a b c 1).length:Nat):Int)<0),go_sem];refine aY 1 ?_ ?_ (by decide) (by decide)
  .simp only[go_sem]
  .simp only[Mb,f4,show IntKind.i64.wrap 1=1 from rfl,go_sem]
 |1,_=>
  simp only[show decide (((1:Nat):Int)<4)=true from rfl,n,dF ((((s4 a b c 2).length:Nat):Int)<0),go_sem];refine aY 2 ?_ ?_ (by decide) (by decide)
  .simp only[go_sem]
  .simp only[Mb,f4,show IntKind.i64.wrap 2=2 from rfl,go_sem]
 |2,_=>
  simp only[show decide (((2:Nat):Int)<4)=true from rfl,r,dF ((((s4 a b c 3).length:Nat):Int)<0),go_sem];refine aY 3 ?_ ?_ (by decide) (by decide)
  .simp only[go_sem]
  .simp only[Mb,f4,show IntKind.i64.wrap 3=3 from rfl,go_sem]
 |3,_=>
  simp only[show decide (((3:Nat):Int)<4)=true from rfl,y,dF ((((s4 a b c 4).length:Nat):Int)<0),go_sem];refine aY 4 ?_ ?_ (by decide) (by decide)
  .simp only[go_sem]
  .simp only[Mb,f4,show IntKind.i64.wrap 4=4 from rfl,go_sem]
 |4,_=>
  simp only[show decide (((4:Nat):Int)<4)=false from rfl,go_sem];have h:(s4 a b c 4).length<=100000:=by omega
  refine acj (II (s4 a b c 4).length h) ?_;refine aQ [6,25,26,27] [] (λk:Nat=>k<=4) (λk=>4-k) (Ma a b c) 0 ?_ (zero_le _) (λk hk=>?_)
  .simp only[Ma,f4,j,Int.natCast_zero,go_sem,sA];rfl
  simp only[Ma,f4,go_sem,sA]
  match k,hk with
  |0,_=>
   simp only[show decide (((0:Nat):Int)<4)=true from rfl,r0,v,q,go_sem];refine aY 1 ?_ ?_ (by decide) (by decide)
   .simp only[go_sem]
   .simp only[Ma,f4,show IntKind.i64.wrap 1=1 from rfl,go_sem,sA]
  |1,_=>
   simp only[show decide (((1:Nat):Int)<4)=true from rfl,r1,c1,B,go_sem];refine aY 2 ?_ ?_ (by decide) (by decide)
   .simp only[go_sem]
   .simp only[Ma,f4,show IntKind.i64.wrap 2=2 from rfl,go_sem,sA]
  |2,_=>
   simp only[show decide (((2:Nat):Int)<4)=true from rfl,K,S,V,go_sem];refine aY 3 ?_ ?_ (by decide) (by decide)
   .simp only[go_sem]
   .simp only[Ma,f4,show IntKind.i64.wrap 3=3 from rfl,go_sem,sA]
  |3,_=>
   simp only[show decide (((3:Nat):Int)<4)=true from rfl,T,m,X,go_sem];refine aY 4 ?_ ?_ (by decide) (by decide)
   .simp only[go_sem]
   .simp only[Ma,f4,show IntKind.i64.wrap 4=4 from rfl,go_sem,sA]
  |4,_=>
   simp only[show decide (((4:Nat):Int)<4)=false from rfl,go_sem];cases o
   .refine ue [] [0,1] [2] (vs:=[.sl 2 (s4 a b c 4).length 1 0 (s4 a b c 4).length]) rfl rfl (by decide) (by simp) (by simp[St.obj,an,bQ]) rfl rfl ?_;simp[St.obj,an,aR,aB,bz,ak,take_of_length_le,au,s4,bQ]
   .refine ue [] [0,1,2] [] (vs:=[.sl 2 (s4 a b c 4).length 1 0 (s4 a b c 4).length]) rfl rfl (by decide) (by simp) (by simp) rfl rfl ?_;simp[aR,aB,s4]
def cu(p:List Int):List Int:=if p.length=0\/p.length>4000 then[]else aV p.length++p++nq (fQ 0 p)++[1]
def qP(p:List Int)(Z:p.length<=1000000):aS G 215 [ak p] [] (ak (cu p)) []:=by
 refine tW func215 ?_;simp only[ak,au,go_sem];by_cases h0:p.length=0
 .have O:cu p=[]:=if_pos (.inl h0);simp only[show((p.length:Int)==0)=true by rw[beq_iff_eq];omega,go_sem];exact dP [] rfl (by simp) (by simp[aR,St.get,aN,aB,O,ax])
 have q:((p.length:Int)==0)=false:=beq_eq_false_iff_ne.2 (by omega);by_cases U:p.length>4000
 .have O:cu p=[]:=if_pos (.inr U);simp only[q,au,dT ((p.length:Int)>4000),go_sem];exact dP [] rfl (by simp) (by simp[aR,St.get,aN,aB,O,ax])
 have O:cu p=aV p.length++p++nq (fQ 0 p)++[1]:=if_neg (by omega);simp only[q,au,dF ((p.length:Int)>4000),go_sem];have D:=mL (G:=G) (p.length:Int);have j:=xV (G:=G) p Z;have hs:=uE (G:=G) (fQ 0 p);simp only[ak]at D j hs;refine a_ D ?_;refine a_ j ?_;refine a_ hs ?_;have b:=fD (p.length:Int);have a:=nk (fQ 0 p);refine dz [1,0] (zH false (aV p.length) p (nq (fQ 0 p)) (by rw[length_append,length_append];omega)) rfl (by simp only[ay,aB,go_sem]) (by decide) (by simp only[f4,go_sem]) (by simp only[f4,go_sem]) (Nat.le_refl _) ?_;simp only[f4,ak,Bool.false_eq_true,go_sem];rw[<- O];exact dP [] rfl (by simp) (by simp[aR,St.get,aN,aB])
def Dt(p:List Int)(h0:1<=p.length)(U:p.length<=4000):aS G 215 [ak p] [] (.sl 0 (cu p).length 1 0 (cu p).length) [.dat 5 1 (ax (cu p))]:=by
 refine tW func215 ?_;have Z:p.length<=1000000:=by omega
 simp only[ak,au,go_sem];have q:((p.length:Int)==0)=false:=beq_eq_false_iff_ne.2 (by omega);have O:cu p=aV p.length++p++nq (fQ 0 p)++[1]:=if_neg (by omega);simp only[q,au,dF ((p.length:Int)>4000),go_sem];have D:=mL (G:=G) (p.length:Int);have j:=xV (G:=G) p Z;have hs:=uE (G:=G) (fQ 0 p);simp only[ak]at D j hs;refine a_ D ?_;refine a_ j ?_;refine a_ hs ?_;have b:=fD (p.length:Int);have a:=nk (fQ 0 p);refine dz [1,0] (zH true (aV p.length) p (nq (fQ 0 p)) (by rw[length_append,length_append];omega)) rfl (by simp only[ay,aB,go_sem]) (by decide) (by simp only[f4,go_sem]) (by simp only[f4,go_sem]) (by simp[f4]) ?_;simp only[f4,ak,go_sem,sA];rw[<- O];refine ue [] [2] [] (vs:=[.sl 2 (cu p).length 1 0 (cu p).length]) rfl rfl (by decide) (by simp) (by simp) rfl rfl ?_;simp[aR,aB]
end
section
variable(b:List Int)
def cT(b:List Int)(a:Nat):List Int×Nat×Int:=
 if a>b.length then([],a,2)else if a=b.length\/b.getD a 0=0 then([],a,0)else
 match fK b a with
 |none=>([],a,2)
 |some (n,fr)=>
  if n>4000\/n+4>=(b.length:Int)-fr then([],a,2)
  else if ud ((b.drop fr).take (n.toNat+4))=false\/b.getD (fr+n.toNat+4) 0≠1 then([],a,2)
  else((b.drop fr).take n.toNat,fr+n.toNat+5,1)
def pU(q:List Int×Nat×Int):LV:=.cZ [ak q.1,.int q.2.1,.int q.2.2]
def qQ(T:∀c∈b,0<=c/\c<=255)(Z:b.length<=1000000)(a:Nat)(J:a<=1000000):aS G 98 [ak b,.int a] [] (pU (cT b a)) []:=by
 have u:(ax b).length=b.length:=au b;refine tW func98 ?_;simp only[ak,go_sem];simp only[dF ((a:Int)<0),u,go_sem];by_cases U:a>b.length
 .have A:cT b a=([],a,2):=if_pos U;simp only[dT ((a:Int)>(b.length:Int)),go_sem];exact dP [] rfl (by simp) (by simp[aR,St.get,aN,aB,ay,A,pU,ak,ax,LV.int])
 simp only[dF ((a:Int)>(b.length:Int)),go_sem];by_cases h2:a=b.length
 .have A:cT b a=([],a,0):=by unfold cT;rw[if_neg U,if_pos (.inl h2)]
  simp only[show((a:Int)==(b.length:Int))=true by rw[beq_iff_eq];omega,u,go_sem];exact dP [] rfl (by simp) (by simp[aR,St.get,aN,aB,ay,A,pU,ak,ax,LV.int])
 have X:a<b.length:=by omega
 have V:=aG (f:=λn:Int=>[u8 n]) 0 X;rw[show b.map (λn:Int=>[u8 n])=ax b from rfl]at V;simp only[show((a:Int)==(b.length:Int))=false from beq_eq_false_iff_ne.2 (by omega),u,V,u8,go_sem];by_cases B:b.getD a 0=0
 .have A:cT b a=([],a,0):=by unfold cT;rw[if_neg U,if_pos (.inr B)]
  simp only[B,go_sem];exact dP [] rfl (by simp) (by simp[aR,St.get,aN,aB,ay,A,pU,ak,ax,LV.int])
 simp only[beq_eq_false_iff_ne.2 B,go_sem];have w:cT b a=match fK b a with
  |none=>([],a,2)
  |some (n,fr)=>if n>4000\/n+4>=(b.length:Int)-fr then([],a,2)
   else if ud ((b.drop fr).take (n.toNat+4))=false\/b.getD (fr+n.toNat+4) 0≠1 then([],a,2)
   else((b.drop fr).take n.toNat,fr+n.toNat+5,1):=by
  show(if a>b.length then _ else _)=_;rw[if_neg U,if_neg (by omega)]
 have D:=iD (G:=G) b T Z a J (fK b a) rfl;simp only[ak]at D;cases E:fK b a with
 |none=>rw[E]at D w;simp only[Gj,yg,yh,Option.isSome]at D;refine a_ D ?_;exact dP [] rfl (by simp) (by simp[aR,St.get,aN,aB,ay,w,pU,ak,ax,LV.int])
 |some q=>
 obtain⟨n,fr⟩:=q;have hr:=gw (λc K=>(T c K).1) E;rw[E]at D w;simp only[Gj,yg,yh,Option.isSome]at D;simp only at w;refine a_ D ?_;by_cases y:n>4000
 .rw [if_pos (.inl y)]at w;simp only[decide_eq_true y,go_sem];exact dP [] rfl (by simp) (by simp[aR,St.get,aN,aB,ay,w,pU,ak,ax,LV.int])
 have k:IntKind.i64.wrap (n+4)=n+4:=aH (by omega) (by omega);have r:IntKind.i64.wrap ((b.length:Int)-(fr:Int))=(b.length:Int)-fr:=aH (by omega) (by omega);simp only[decide_eq_false y,u,k,r,go_sem];by_cases O:n+4>=(b.length:Int)-fr
 .rw [if_pos (.inr O)]at w;simp only[decide_eq_true O,go_sem];exact dP [] rfl (by simp) (by simp[aR,St.get,aN,aB,ay,w,pU,ak,ax,LV.int])
 rw[if_neg (by omega)]at w;obtain⟨m,rfl⟩:=eq_ofNat_of_zero_le hr.1;rw[toNat_natCast]at w;have e:IntKind.i64.wrap ((fr:Int)+(m:Int))=((fr+m:Nat):Int):=by rw[aH (by omega) (by omega)];omega
 have H:IntKind.i64.wrap (((fr+m:Nat):Int)+4)=((fr+m+4:Nat):Int):=by rw[aH (by omega) (by omega)];omega
 have w5:IntKind.i64.wrap (((fr+m+4:Nat):Int)+1)=((fr+m+5:Nat):Int):=by rw[aH (by omega) (by omega)];omega
 have c1:(0:Int)<=((fr+m+4:Nat):Int):=by omega
 have S:fr<=fr+m+4/\fr+m+4<=b.length/\b.length<=b.length:=by omega
 have o:fr+m+4-fr=m+4:=by omega
 have hs:=Oy (G:=G) ((b.drop fr).take (m+4)) (by rw[length_take,length_drop];omega);simp only[ak]at hs;simp only[decide_eq_false O,e,H,c1,u,S,o,ga,iE,go_sem];refine a_ hs ?_;cases j:ud ((b.drop fr).take (m+4))with
 |false=>rw[if_pos (.inl j)]at w;simp only[go_sem];exact dP [] rfl (by simp) (by simp[aR,St.get,aN,aB,ay,w,pU,ak,ax,LV.int])
 |true=>
 have v:=aG (f:=λn:Int=>[u8 n]) 0 (show fr+m+4<b.length by omega);rw[show b.map (λn:Int=>[u8 n])=ax b from rfl]at v;simp only[H,c1,v,u8,go_sem];by_cases h:b.getD (fr+m+4) 0=1
 .rw [if_neg (by rw[j,h];simp)]at w;have x:fr<=fr+m/\fr+m<=fr+m/\fr+m<=b.length:=by omega
  have t:fr+m-fr=m:=by omega
  have K:=k_ (G:=G) ((b.drop fr).take m) (by rw[length_take,length_drop];omega);simp only[ak]at K;simp only[h,bne_self_eq_false,u,x,t,ga,iE,go_sem];refine a_ K ?_;simp only[H,w5,go_sem];exact dP [] rfl (by simp) (by simp[aR,St.get,aN,aB,ay,w,pU,ak,LV.int])
 .rw [if_pos (.inr h)]at w;simp only[show(b.getD (fr+m+4) 0 !=1)=true from bne_iff_ne.2 h,go_sem];exact dP [] rfl (by simp) (by simp[aR,St.get,aN,aB,ay,w,pU,ak,ax,LV.int])
def wV{b:List Int}(T:∀c∈b,0<=c){a:Nat}(h:(cT b a).2.2=1):a<(cT b a).2.1/\(cT b a).2.1<=b.length/\(cT b a).1.length<=4000:=by
 unfold cT at h ⊢;split at h
 .exact absurd h (by simp)
 rename_i U;rw[if_neg U];split at h
 .exact absurd h (by simp)
 rename_i h2;rw[if_neg h2];cases E:fK b a with
 |none=>rw[E]at h;exact absurd h (by simp)
 |some q=>
 obtain⟨n,fr⟩:=q;have hr:=gw T E;rw[E]at h;simp only at h ⊢;split at h
 .exact absurd h (by simp)
 rename_i B;rw[if_neg B];split at h
 .exact absurd h (by simp)
 rename_i y;rw[if_neg y];refine⟨by dsimp only;omega,by dsimp only;omega,?_⟩;rw[length_take,length_drop];omega
def xB(b:List Int):Nat->List (List Int)->Nat->List (List Int)×Nat
 |0,l,a=>(l,a)
 |f+1,l,a=>if(cT b a).2.2=1 then xB b f (l++[(cT b a).1]) (cT b a).2.1 else(l,a)
def X2(b:List Int)(q:List (List Int)×Nat):St:=⟨[(0,ak b),(1,.int q.2),(6,.sl 0 q.1.length 1 0 q.1.length)],[some (.dat 100 1 (bS q.1))]⟩
def Gu(T:∀c∈b,0<=c/\c<=255)(Z:b.length<=1000000)(a:Nat)(X:a<=b.length)(R:List (List Int)×Nat)(w:xB b (b.length+1) [] a=R):aS G 122 [ak b,.int a] [] (.cZ [.d (.cM 1 (bS R.1)),.int R.2]) []:=by
 refine tW func122 ?_;simp only[ak,go_sem];refine aQ [0,1,6] [.t 6 100 1] (λq:List (List Int)×Nat=>q.2<=b.length/\q.1.length<=q.2/\∃f,b.length-q.2<f/\xB b f q.1 q.2=R) (λq=>b.length-q.2) (X2 b) ([],a) ?_ ⟨X,zero_le _,_,by dsimp only;omega,w⟩ ?_
 .simp only[X2,ak,bS,go_sem]
 rintro⟨l,x⟩ ⟨S,j,f,A,D⟩;dsimp only at S j A D;simp only[X2,ak,go_sem];have V:=qQ (G:=G) b T Z x (by omega);simp only[ak,pU]at V;refine a_ V ?_;obtain⟨f,rfl⟩:∃g,f=g+1:=⟨f-1,by omega⟩;unfold xB at D;by_cases U:(cT b x).2.2=1
 .rw [if_pos U]at D;have v:=wV (λc K=>(T c K).1) U;have e:(bS l).length=l.length:=by simp[bS]
  have y:bS l++[[DV.cM 1 (ax (cT b x).1)]]=bS (l++[(cT b x).1]):=by simp[bS]
  have h:(bS (l++[(cT b x).1])).length*24<=70368744177664:=by
   have:(bS (l++[(cT b x).1])).length=l.length+1:=by simp[bS]
   omega
  simp only[U,bne_self_eq_false,go_sem];rw[e,y,if_pos ⟨rfl,h⟩];simp only[go_sem];refine aY (l++[(cT b x).1],(cT b x).2.1) ?_ ?_ ⟨v.2.1,by simp;omega,f,by dsimp only;omega,D⟩ (by dsimp only;omega)
  .simp only[go_sem]
  .simp only[X2,ak,length_append,go_sem]
 .rw [if_neg U]at D;simp only[show((cT b x).2.2 !=1)=true from bne_iff_ne.2 U,go_sem];subst D;exact dP [0] rfl (by simp[St.obj,an]) (by simp[St.obj,an,aR,St.get,aN,aB,ay,bz,bS,take_of_length_le,LV.int])
end
section
variable(k:Nat)(π:Nat->Nat)
structure eE where
 ce:Int
 cd:List Int
 se:Int
 sd:List Int
def gU:eE:=⟨0,[],0,[]⟩
def ep:List Int->LV
 |[]=>.d (.val (.slice none 0 0))
 |x::l=>ak (x::l)
def Nq(x:eE):List LV:=[.int x.ce,ep x.cd,.int x.se,ep x.sd]
def eF(room term:Int)(sh:List eE)(wr:Int):List ah:=[.box 119 ([.int room,.int term]++(sh.flatMap Nq++[.int wr]))]
def xl(d:List Int):bV k (ep d)=true:=by cases d<;>rfl
def XT(d:List Int):rn π (ep d)=ep d:=by cases d<;>rfl
def eB(k:Nat):∀a b:List LV,bn k (a++b)=(bn k a&&bn k b)
 |[],b=>by simp[bn]
 |x::a,b=>by simp only[cons_append,bn,eB k a b,Bool.and_assoc]
def gF(π:Nat->Nat):∀a b:List LV,kC π (a++b)=kC π a++kC π b
 |[],b=>rfl
 |x::a,b=>by simp only[cons_append,kC,gF π a b]
def gV(sh:List eE):bn k (sh.flatMap Nq)=true:=by
 induction sh with
 |nil=>rfl
 |cons x sh o=>simp only[flatMap_cons,eB,o,Nq,bn,xl,LV.int,bV,Bool.and_true]
def kQ(sh:List eE):kC π (sh.flatMap Nq)=sh.flatMap Nq:=by
 induction sh with
 |nil=>rfl
 |cons x sh o=>simp only[flatMap_cons,gF,o,Nq,kC,XT,LV.int,rn]
attribute [go_sem] gF kQ eB gV
def dX(room term:Int)(sh:List eE)(wr:Int):(eF room term sh wr).all (aP k)=true:=by simp only[eF,all_cons,all_nil,aP,Bool.and_true,eB,gV];rfl
def FD(room:Int):aS G 25 [.int room] [] (.ptr 0 0) (eF (if room>0 then room else 0) 0 (replicate 25 gU) 0):=by refine uW func25 ?_;refine ue [] [0] [] (vs:=[.ptr 0 0]) rfl rfl (by decide) (by simp) (by simp) rfl rfl ?_;simp[aR,aB]
def rQ(room term:Int)(sh:List eE)(wr t:Int):aS G 50 [.ptr 0 0,.int t] (eF room term sh wr) (.cZ []) (eF room (if t>term then t else term) sh wr):=by refine Lv func50 (dX _ _ _ _ _) ?_;simp only[eF,go_sem,sA]
def Dd(room term:Int)(sh:List eE)(wr:Int):aS G 22 [.ptr 0 0] (eF room term sh wr) (.int term) (eF room term sh wr):=by refine Lv func22 (dX _ _ _ _ _) ?_;simp only[eF,go_sem,sA]
def mH(room term:Int)(sh:List eE)(wr:Int)(k:Nat)(hk:1<=k/\k<=24):aS G 95 [.ptr 0 0,.int k] (eF room term sh wr) (.ptr 0 (2+4*k)) (eF room term sh wr):=by refine Lv func95 (dX _ _ _ _ _) ?_;simp only[eF,go_sem,sA];simp only[dF ((k:Int)<1),dF ((k:Int)>24),go_sem];simp only[show k<25 by omega,show 2+k*4=2+4*k by omega,go_sem]
def AX(room term:Int)(sh:List eE)(wr:Int)(k:Int)(hk:k<1\/k>24):aS G 95 [.ptr 0 0,.int k] (eF room term sh wr) (.d (.val (.pointer none))) (eF room term sh wr):=by
 refine Lv func95 (dX _ _ _ _ _) ?_;simp only[eF,go_sem,sA];by_cases U:k<1
 .simp only[decide_eq_true U,go_sem]
 .simp only[decide_eq_false U,dT (k>24),go_sem]
def vO(sh:List eE):(sh.flatMap Nq).length=4*sh.length:=by
 induction sh with
 |nil=>rfl
 |cons x sh o=>rw[flatMap_cons,length_append,o];show 4+_=_;rw[length_cons];omega
def ML(x:eE):∀(sh:List eE) (k:Nat),k<sh.length->(sh.flatMap Nq).take (4*k)++Nq x++(sh.flatMap Nq).drop (4*k+4)=(sh.set k x).flatMap Nq
 |[],k,h=>absurd h (not_lt_zero _)
 |y::sh,0,_=>by simp[flatMap_cons,Nq]
 |y::sh,k+1,h=>by have o:=ML x sh k (by simpa using h);rw[set_cons_succ,flatMap_cons,flatMap_cons,<- o,show 4*(k+1)=4*k+4 by omega,show 4*k+4+4=(4*k+4)+4 by omega];simp[Nq]
def Hx(a b w:LV)(x:eE)(sh:List eE)(k:Nat)(h:k<sh.length):(a::b::(sh.flatMap Nq++[w])).take (2+4*k)++Nq x++(sh.flatMap Nq++[w]).drop (2+4*k+2)=a::b::((sh.set k x).flatMap Nq++[w]):=by have Z:=vO sh;rw[<- ML x sh k h,show 2+4*k=(4*k+1)+1 by omega,take_succ_cons,take_succ_cons,show 4*k+1+1+2=4*k+4 by omega,take_append_of_le_length (by omega),drop_append_of_le_length (by omega)];simp
def vK(room term:Int)(sh:List eE)(wr:Int)(k:Nat)(hk:1<=k/\k<=24)(hs:sh.length=25):aS G 51 [.ptr 0 0,.int k] (eF room term sh wr) (.cZ []) (eF room term (sh.set k gU) wr):=by
 have hj:=mH (G:=G) room term sh wr k hk;simp only[eF,sA]at hj;refine Lv func51 (dX _ _ _ _ _) ?_;simp only[eF,go_sem,sA];refine kG [0] hj ?_;have Z:=vO sh;have u:=Hx (.int room) (.int term) (.int wr) gU sh k (by omega);have c1:2+4*k+2<=(sh.flatMap Nq++[LV.int wr]).length:=by rw[length_append,Z];simp;omega
 simp only[LV.int,Nq,gU,ep]at u c1;rw[if_pos c1,u];simp only[go_sem];rfl
end
def wO(l:List Int)(s:Int):List ah:=[.box 123 [.sl 1 l.length 1 0 l.length,.d (.val (.slice none 0 0)),.int s],.dat 5 1 (ax l)]
def ux(a:Nat)(b:List Int):List (List DV):=[[i64 a,.cM 1 (ax b)]]
def jH(l:List Int)(s:Int)(a:Nat)(b:List Int):List ah:=[.box 123 [.sl 1 l.length 1 0 l.length,.sl 2 1 2 0 1,.int s],.dat 5 1 (ax l),.dat 147 2 (ux a b)]
def br(l:List Int)(a:Nat)(b:List Int):List Int:=l.take a++b++l.drop (a+b.length)
def dD{l b:List Int}{a:Nat}(h:a+b.length<=l.length):(br l a b).length=l.length:=by unfold br;rw[length_append,length_append,length_take,length_drop];omega
def aeh:Nat×C×List RV:=(10,
(.seq (.mj [qo 4 (.mv (qk 0))])
 (.seq (.mj [qm 5 0,
 qo 6 (.kL (.t 5)),
 qo 7 (.B0 0 (.t 6)),
 qm 8 1,
 qo 9 ((.more (.ata (.t 7) (.t 8)))),
 qm 4 9])
 .ret)),
[(.t 4)])
def YA:bM prog Tryz.f32=some aeh:=by kernel_rfl
def zF(n:Nat)(U:1<=n)(h2:n<=65536):aS G 26 [.int n] [] (.ptr 0 0) (wO (replicate n 0) 0):=by
 refine uW func26 ?_;simp only[dF ((n:Int)<1),dF ((n:Int)>65536),go_sem];have c1:n*1<=70368744177664/\(n:Int)<=9223372036854775807:=by omega
 simp only[c1,go_sem];refine ue [] [1,0] [] (vs:=[.ptr 1 0]) rfl rfl (by decide) (by simp) (by simp) ?_ ?_ ?_
 .simp only[wO,length_replicate,ax,map_replicate,u8];rfl
 .simp only[wO,length_replicate,ax,map_replicate,u8,go_sem]
 .simp [aR,aB]
def iS(l:List Int)(s:Int):aS G 46 [.ptr 0 0] (wO l s) (.int l.length) (wO l s):=by refine oO func46 rfl ?_;simp only[wO,go_sem]
def QS(l:List Int)(s:Int):aS G 32 [.ptr 0 2,.int 1] (wO l s) (.int (IntKind.i64.wrap (s+1))) (wO l (IntKind.i64.wrap (s+1))):=by refine eY func32 (by decide) YA rfl rfl rfl rfl ?_;simp only[aeh,go_sem];simp only[wO,go_sem]
def gN(l:List Int)(s:Int)(a:Nat)(b:List Int)(h:a+b.length<=l.length)(Z:l.length<=65536):aS G 36 [.ptr 0 0,.int a,ak b] (wO l s) (.int 0) (jH l s a b):=by
 refine tW func36 ?_;simp only[wO,ak,go_sem];have B:IntKind.i64.wrap ((l.length:Int)-(b.length:Int))=(l.length:Int)-b.length:=aH (by omega) (by omega);simp only[au,dF ((a:Int)<0),dF ((b.length:Int)>(l.length:Int)),B,dF ((a:Int)>(l.length:Int)-(b.length:Int)),go_sem];have K:=k_ (G:=G) b (by omega);simp only[ak]at K;refine cc K ?_;refine dQ ?_;refine ue [] [0,1,3] [] (vs:=[.int 0]) rfl rfl (by decide) (by simp) (by simp) ?_ ?_ ?_
 .simp only[jH,ux];rfl
 .simp only[jH,ux,go_sem]
 .simp [aR,aB,LV.int]
def dwS(l:List Int)(s:Int)(a:Nat)(b:List Int)(k:Nat):St:=⟨[(3,.int (if k=0 then 0 else(b.length:Int))),(11,.sl 2 1 2 0 1),(12,.int 1),(13,.int k)],(jH l s a b).map some⟩
def Dx(l:List Int)(s:Int)(a:Nat)(b:List Int)(T:b.length<=1000000):aS G 76 [.ptr 0 0] (jH l s a b) (.int b.length) (jH l s a b):=by
 refine oO func76 rfl ?_;simp only[jH,ux,go_sem];refine aQ [3,11,12,13] [] (λk:Nat=>k<=1) (λk=>1-k) (dwS l s a b) 0 ?_ (zero_le _) (λk hk=>?_)
 .simp only[dwS,jH,ux,go_sem]
 simp only[dwS,jH,ux,go_sem]
 match k,hk with
 |0,_=>
  have B:IntKind.i64.wrap (0+(b.length:Int))=b.length:=by rw[aH (by omega) (by omega)];omega
  simp only[show decide (((0:Nat):Int)<1)=true from rfl,au,B,show(0:Nat)=0 from rfl,go_sem];refine aY 1 ?_ ?_ (by decide) (by decide)
  .simp only[go_sem]
  .simp only[dwS,jH,ux,show IntKind.i64.wrap 1=1 from rfl,show¬(1:Nat)=0 by decide,go_sem]
 |1,_=>simp only[show decide (((1:Nat):Int)<1)=false from rfl,show¬(1:Nat)=0 by decide,go_sem]
def h_(keep:Int)(b:List Int):Nat:=(max 0 (min keep b.length)).toNat
def ddS(l:List Int)(s:Int)(a:Nat)(b:List Int)(keep:Int)(k:Nat):St:=⟨[(0,.ptr 0 0),(1,.int (if k=0 then keep else IntKind.i64.wrap (keep-((h_ keep b:Nat):Int)))),(10,.sl 2 1 2 0 1),(11,.int 1),(12,.int k)],if k=0 then(jH l s a b).map some else(jH (br l a (b.take (h_ keep b))) s a b).map some⟩
def Xc(l:List Int)(s:Int)(a:Nat)(b:List Int)(h:a+b.length<=l.length)(Z:1<=l.length/\l.length<=65536)(keep:Int):aS G 75 [.ptr 0 0,.int keep] (jH l s a b) (.cZ []) (wO (br l a (b.take (h_ keep b))) s++[.dat 147 2 (ux a b)]):=by
 obtain⟨m,H⟩:∃m,l.length=m+1:=⟨l.length-1,by omega⟩;refine tW func75 ?_;simp only[jH,ux,go_sem];refine aQ [0,1,10,11,12] [] (λk:Nat=>k<=1) (λk=>1-k) (ddS l s a b keep) 0 ?_ (zero_le _) (λk hk=>?_)
 .simp only[ddS,jH,ux,go_sem]
 simp only[ddS,jH,ux,go_sem]
 match k,hk with
 |0,_=>
  have V:(if(if(b.length:Int)<keep then(b.length:Int)else keep)>0 then(if(b.length:Int)<keep then(b.length:Int)else keep)else 0)=((h_ keep b:Nat):Int):=by unfold h_;split<;>split<;>omega
  have u:h_ keep b<=b.length:=by unfold h_;omega
  have c1:a<=m+1/\m+1<=m+1:=by omega
  have S:0<=h_ keep b/\h_ keep b<=b.length/\b.length<=b.length:=by omega
  have x:(0:Int)<=((h_ keep b:Nat):Int):=by omega
  simp only[show decide (((0:Nat):Int)<1)=true from rfl,au,H,V,show(0:Nat)=0 from rfl,c1,S,x,iE,Nat.sub_zero,go_sem];have D:(b.take (h_ keep b)).length<=b.length:=by rw[length_take];omega
  have n:a+(m+1-a)<=m+1/\(b.take (h_ keep b)).length<=m+1-a/\ax l≠[]:=⟨by omega,by omega,λe=>by have:=congrArg length e;rw[au,H]at this;exact absurd this (by simp)⟩;have c:ax (l.take a)++ax (b.take (h_ keep b))++ax (l.drop (a+(b.take (h_ keep b)).length))=ax (br l a (b.take (h_ keep b))):=by rw[<- mV,<- mV];rfl
  have t:(br l a (b.take (h_ keep b))).length=m+1:=by rw[dD (by omega),H]
  rw[if_pos n,ga,c];simp only[go_sem];refine dQ ?_;refine aY 1 ?_ ?_ (by decide) (by decide)
  .simp only[go_sem]
  .simp only[ddS,jH,ux,t,show IntKind.i64.wrap 1=1 from rfl,show¬(1:Nat)=0 by decide,go_sem]
 |1,_=>
  simp only[show decide (((1:Nat):Int)<1)=false from rfl,show¬(1:Nat)=0 by decide,go_sem];refine ue [] [0,1,2] [] (vs:=[]) rfl rfl (by decide) (by simp) (by simp) ?_ ?_ ?_
  .simp only[wO,ux];rfl
  .simp only[wO,ux,go_sem,sA]
  .simp [aR,aB,ay]
def Pz(b:List Int):h_ b.length b=b.length:=by unfold h_;omega
def iR(l:List Int)(s:Int)(a:Nat)(b:List Int)(h:a+b.length<=l.length)(Z:1<=l.length/\l.length<=65536):aS G 38 [.ptr 0 0] (jH l s a b) (.cZ []) (wO (br l a b) (IntKind.i64.wrap (s+1))++[.dat 147 2 (ux a b)]):=by have hd:=Xc (G:=G) l s a b h Z b.length;rw[Pz,take_length]at hd;have S:=Dx (G:=G) l s a b (by omega);have X:=QS (G:=G) (br l a b) s;simp only[jH,wO,ux,sA]at hd S X;refine oO func38 rfl ?_;simp only[jH,wO,ux,go_sem,sA];refine bJ [0,1,2] S ?_;refine bJ [0,1,2] hd ?_;refine bJ [0,1] X trivial
def L8(l:List Int)(Z:1<=l.length/\l.length<=1000000):aS G 74 [.sl 0 l.length 1 0 l.length] [.dat 5 1 (ax l)] (.sl 1 l.length 1 0 l.length) [.dat 5 1 (ax l),.dat 5 1 (ax l)]:=by
 obtain⟨m,H⟩:∃m,l.length=m+1:=⟨l.length-1,by omega⟩;have hr:(ax l).length=m+1:=by rw[au,H]
 have u:(ax l).take (m+1)=ax l:=take_of_length_le (by omega);rw[H];refine uW func74 ?_;have T:(m+1)*1<=70368744177664:=by omega
 simp only[hr,u,Nat.le_refl,go_sem];simp only[hr,T,go_sem];refine ue [] [0,1] [] (vs:=[.sl 1 (m+1) 1 0 (m+1)]) rfl rfl (by decide) (by simp) (by simp) rfl rfl ?_;simp[aR,aB]
def jx(l:List Int)(s:Int)(Z:1<=l.length/\l.length<=65536):aS G 37 [.ptr 0 0] (wO l s) (ak l) (wO l s):=by
 obtain⟨m,H⟩:∃m,l.length=m+1:=⟨l.length-1,by omega⟩;refine tW func37 ?_;simp only[wO,go_sem];have K:=L8 (G:=G) l (by omega);refine bJ [1] K ?_;refine aQ [3,16,17,18] [] (λk:Nat=>k=0) (λk=>1-k) (λ_=>⟨[(3,.sl 2 l.length 1 0 l.length),(16,.d (.val (.slice none 0 0))),(17,.int 0),(18,.int 0)],(wO l s++[ah.dat 5 1 (ax l)]).map some⟩) 0 ?_ rfl (λk hk=>?_)
 .simp only[wO,go_sem,sA]
 simp only[wO,go_sem,sA];refine ue [] [0,1] [2] (vs:=[.sl 2 l.length 1 0 l.length]) rfl rfl (by decide) (by simp) (by simp[St.obj,an,bQ]) rfl rfl ?_;simp[St.obj,an,aR,aB,bz,ak,take_of_length_le,au,bQ]
def Dy(l:List Int)(s:Int)(keep:Int):aS G 75 [.ptr 0 0,.int keep] (wO l s) (.cZ []) (wO l s):=by
 refine oO func75 rfl ?_;simp only[wO,go_sem];refine aQ [0,11,12] [] (λk:Nat=>k=0) (λk=>1-k) (λ_=>⟨[(0,.ptr 0 0),(11,.int 0),(12,.int 0)],(wO l s).map some⟩) 0 ?_ rfl (λk hk=>?_)
 .simp only[wO,go_sem]
 simp only[wO,go_sem]
def Dz(l:List Int)(s:Int)(a:Nat)(b:List Int)(h:a+b.length<=l.length)(Z:1<=l.length/\l.length<=65536)(keep:Int):aS G 120 [.ptr 0 0,.int keep] (jH l s a b) (.cZ []) (wO (br l a (b.take (h_ keep b))) s++[.dat 147 2 (ux a b)]):=by have hd:=Xc (G:=G) l s a b h Z keep;simp only[jH,wO,ux,sA]at hd;refine oO func120 rfl ?_;simp only[jH,wO,ux,go_sem,sA];refine bJ [0,1,2] hd trivial
def nQ(l:List Int)(s:Int)(keep:Int):aS G 120 [.ptr 0 0,.int keep] (wO l s) (.cZ []) (wO l s):=by have hd:=Dy (G:=G) l s keep;simp only[wO]at hd;refine oO func120 rfl ?_;simp only[wO,go_sem];refine bJ [0,1] hd trivial
def BO(l:List Int)(s:Int)(fr sz us:Nat):List ah:=[.box 218 [.ptr 1 0,.int fr,.int sz,.int us],.box 123 [.sl 2 l.length 1 0 l.length,.d (.val (.slice none 0 0)),.int s],.dat 5 1 (ax l)]
def CD(n:Nat):ax (replicate n 0)=replicate n [u8 0]:=by simp[ax]
def zf(l:List Int)(s:Int)(fr sz us a:Nat)(A:fr+sz<=l.length)(X:a<sz)(Z:1<=l.length/\l.length<=65536):aS G 123 [.ptr 0 0,.int a] (BO l s fr sz us) (.cZ []) (BO (br l (fr+a) (replicate (sz-a) 0)) (IntKind.i64.wrap (s+1)) fr sz us):=by
 have T:=jx (G:=G) l s Z;have hk:=gN (G:=G) l s (fr+a) (replicate (sz-a) 0) (by rw[length_replicate];omega) Z.2;have hs:=iR (G:=G) l s (fr+a) (replicate (sz-a) 0) (by rw[length_replicate];omega) Z;simp only[wO,jH,ux,ak,CD,length_replicate,sA]at T hk hs;have B:IntKind.i64.wrap ((fr:Int)+(a:Int))=((fr+a:Nat):Int):=by rw[aH (by omega) (by omega)];omega
 have r:IntKind.i64.wrap ((fr:Int)+(sz:Int))=((fr+sz:Nat):Int):=by rw[aH (by omega) (by omega)];omega
 have c1:fr+a<=fr+sz/\fr+sz<=l.length/\l.length<=l.length:=by omega
 have S:(0:Int)<=((fr+sz:Nat):Int):=by omega
 have m:(0:Int)<=((fr+a:Nat):Int):=by omega
 have o:fr+sz-(fr+a)=sz-a:=by omega
 have K:=Jf (G:=G) ((l.drop (fr+a)).take (sz-a)) (by rw[length_take,length_drop];omega);have e:((l.drop (fr+a)).take (sz-a)).length=sz-a:=by rw[length_take,length_drop];omega
 rw[e]at K;simp only[ak]at K;refine tW func123 ?_;simp only[BO,go_sem];refine fV [1,2] T ?_;simp only[B,r,c1,S,m,o,au,ga,iE,go_sem];refine CP K ?_;refine dQ ?_;have k:sz-a=(ax ((l.drop (fr+a)).take (sz-a))).length/\sz-a<=(ax ((l.drop (fr+a)).take (sz-a))).length/\0<sz-a:=by rw[au,e];omega
 have t:(ax ((l.drop (fr+a)).take (sz-a))).drop (sz-a)=[]:=drop_eq_nil_of_le (by rw[au,e];exact Nat.le_refl _);have D:(br l (fr+a) (replicate (sz-a) 0)).length=l.length:=dD (by rw[length_replicate];omega);rw[if_pos k];simp only[B,t,go_sem];refine CQ [1,2] [3] hk rfl (by simp[ay,aB,bz,an,u8,au,e,go_sem]) (by decide) (by decide) (by simp[an]) (by simp only[go_sem,u8,au,e]) (by simp only[go_sem,u8,au,e]) (by simp) ?_;simp only[go_sem,u8,au,e];refine dQ ?_;refine dz [1,2,4] hs rfl ?_ (by decide) ?_ ?_ (by simp) ?_<;>simp only[ay,aB,go_sem,u8]
 refine ue [] [0,1,2] [] (vs:=[]) rfl rfl (by decide) (by simp) (by simp) rfl rfl ?_;simp[aR,aB,ay]
def Br(l:List Int)(a:Nat):br l a []=l:=by unfold br;simp
def F2(l:List Int)(s:Int)(fr sz us:Nat)(A:fr+sz<=l.length)(Z:1<=l.length/\l.length<=65536):aS G 123 [.ptr 0 0,.int sz] (BO l s fr sz us) (.cZ []) (BO l (IntKind.i64.wrap (s+1)) fr sz us):=by
 have T:=jx (G:=G) l s Z;have hk:=gN (G:=G) l s (fr+sz) [] (by simp;omega) Z.2;have hs:=iR (G:=G) l s (fr+sz) [] (by simp;omega) Z;rw[Br]at hs;simp only[wO,jH,ux,ak,ax,map_nil,sA]at T hk hs;rw[show l.map (λn:Int=>[u8 n])=ax l from rfl]at T hk hs;have r:IntKind.i64.wrap ((fr:Int)+(sz:Int))=((fr+sz:Nat):Int):=by rw[aH (by omega) (by omega)];omega
 have c1:fr+sz<=fr+sz/\fr+sz<=l.length/\l.length<=l.length:=by omega
 have S:(0:Int)<=((fr+sz:Nat):Int):=by omega
 have K:=k_ (G:=G) [] (by simp);simp only[ak,ax,map_nil]at K;refine tW func123 ?_;simp only[BO,go_sem];refine fV [1,2] T ?_;simp only[r,c1,S,Nat.sub_self,au,Nat.le_refl,go_sem];refine cc K ?_;refine dQ ?_;simp only[r,go_sem];refine fV [1,2] hk ?_;refine dQ ?_;refine bJ [1,2,3] hs ?_;refine ue [] [0,1,2] [] (vs:=[]) rfl rfl (by decide) (by simp) (by simp) rfl rfl ?_;simp[aR,aB,ay]
def F3(l:List Int)(s:Int)(fr sz us a:Nat)(A:fr+sz<=l.length)(X:a<=sz)(Z:1<=l.length/\l.length<=65536):aS G 123 [.ptr 0 0,.int a] (BO l s fr sz us) (.cZ []) (BO (br l (fr+a) (replicate (sz-a) 0)) (IntKind.i64.wrap (s+1)) fr sz us):=by
 by_cases h:a<sz
 .exact zf l s fr sz us a A h Z
 .obtain rfl:a=sz:=by omega
  rw[Nat.sub_self,replicate_zero,Br];exact F2 l s fr a us A Z
def rZ(sz us n:Nat):Bool:=decide (1<=n/\n<=4000/\(aV n).length+n+5+us<=sz)
def zh(l:List Int)(s:Int)(fr sz us n:Nat)(y:us<=sz)(hs:sz<=65536)(D:n<=1000000):aS G 193 [.ptr 0 0,.int n] (BO l s fr sz us) (.bool (rZ sz us n)) (BO l s fr sz us):=by
 have H:=mL (G:=G) (n:Int);have V:=fD (n:Int);simp only[ak]at H;refine oO func193 rfl ?_;simp only[BO,go_sem];by_cases U:1<=n;case neg=>simp only[dF ((n:Int)>=1),go_sem];simp only[rZ,dF (1<=n/\n<=4000/\(aV n).length+n+5+us<=sz)]
 by_cases h2:n<=4000;case neg=>simp only[dT ((n:Int)>=1),dF ((n:Int)<=4000),go_sem];simp only[rZ,dF (1<=n/\n<=4000/\(aV n).length+n+5+us<=sz)]
 simp only[dT ((n:Int)>=1),dT ((n:Int)<=4000),go_sem];refine cc H ?_;have B:IntKind.i64.wrap (((aV n).length:Int)+(n:Int))=(((aV n).length+n:Nat):Int):=by rw[aH (by omega) (by omega)];omega
 have r:IntKind.i64.wrap ((((aV n).length+n:Nat):Int)+5)=(((aV n).length+n+5:Nat):Int):=by rw[aH (by omega) (by omega)];omega
 have e:IntKind.i64.wrap ((sz:Int)-(us:Int))=((sz-us:Nat):Int):=by rw[aH (by omega) (by omega)];omega
 simp only[au,B,r,e,go_sem];exact decide_eq_decide.2 (by omega)
def lgW(l:List Int)(s:Int)(fr sz us a:Nat)(b:List Int):List ah:=[.box 218 [.ptr 1 0,.int fr,.int sz,.int us],.box 123 [.sl 2 l.length 1 0 l.length,.sl 3 1 2 0 1,.int s],.dat 5 1 (ax l),.dat 147 2 (ux a b)]
def ny{p:List Int}(h:1<=p.length/\p.length<=4000):(cu p).length=(aV p.length).length+p.length+5:=by unfold cu;rw[if_neg (by omega)];simp only[length_append,nk,length_cons,length_nil]
def K_(l:List Int)(s:Int)(fr sz us:Nat)(p:List Int)(A:fr+sz<=l.length)(y:us<=sz)(Z:1<=l.length/\l.length<=65536)(hr:rZ sz us p.length=true):aS G 197 [.ptr 0 0,ak p] (BO l s fr sz us) (.int 0) (lgW l s fr sz (us+(cu p).length) (fr+us) (cu p)):=by
 have X:1<=p.length/\p.length<=4000/\(aV p.length).length+p.length+5+us<=sz:=of_decide_eq_true hr;have t:=ny ⟨X.1,X.2.1⟩;have E:=zh (G:=G) l s fr sz us p.length y (by omega) (by omega);have O:=qP (G:=G) p (by omega);have S:=gN (G:=G) l s (fr+us) (cu p) (by omega) Z.2;rw[hr]at E;simp only[BO,wO,jH,ux,ak]at E O S;refine tW func197 ?_;simp only[BO,ak,go_sem];simp only[au,show((p.length:Int)==0)=false from beq_eq_false_iff_ne.2 (by omega),go_sem];simp only[au,dF ((p.length:Int)>4000),go_sem];refine bJ [0,1,2] E ?_;refine a_ O ?_;have B:IntKind.i64.wrap ((fr:Int)+(us:Int))=((fr+us:Nat):Int):=by rw[aH (by omega) (by omega)];omega
 have r:IntKind.i64.wrap ((us:Int)+((cu p).length:Int))=((us+(cu p).length:Nat):Int):=by rw[aH (by omega) (by omega)];omega
 simp only[B,go_sem];refine fV [1,2] S ?_;refine aD rfl ?_;simp only[au,r,go_sem];refine ue [] [0,1,2,3] [] (vs:=[.int 0]) rfl rfl (by decide) (by simp) (by simp) rfl rfl ?_;simp[aR,aB,LV.int]
def wJ(l:List Int)(s:Int)(fr sz us:Nat)(A:fr+sz<=l.length)(j:1<=sz)(Z:1<=l.length/\l.length<=65536):aS G 82 [.ptr 0 0] (BO l s fr sz us) (.cZ []) (BO (br l fr (replicate sz 0)) (IntKind.i64.wrap (s+1)) fr sz 0):=by have D:=zf (G:=G) l s fr sz us 0 A (by omega) Z;simp only[BO,Nat.add_zero,Nat.sub_zero]at D;refine oO func82 rfl ?_;simp only[BO,go_sem];refine bJ [0,1,2] D trivial
def sK(b:List Int)(a:Nat):(∀c∈(cT b a).1,c∈b)/\(cT b a).1.length<=b.length:=by
 unfold cT;split
 .simp
 split
 .simp
 cases fK b a with
 |none=>simp
 |some q=>
 obtain⟨n,fr⟩:=q;simp only;split
 .simp
 split
 .simp
 refine⟨λc K=>mem_of_mem_drop (mem_of_mem_take K),?_⟩;dsimp only;rw[length_take,length_drop];omega
def od(l:List Int)(s:Int)(fr sz:Nat):List ah:=[.box 216 [.ptr 1 0,.int fr,.int sz],.box 123 [.sl 2 l.length 1 0 l.length,.d (.val (.slice none 0 0)),.int s],.dat 5 1 (ax l)]
def eL(l:List Int)(fr sz k:Nat):List Int:=(l.drop (fr+k*sz)).take sz
def jq(l:List Int)(fr sz k:Nat):Option (List Int×Int):=
 if(cT (eL l fr sz k) 0).2.2=1 then(fK (cT (eL l fr sz k) 0).1 0).map λq=>((cT (eL l fr sz k) 0).1.drop q.2,q.1)else none
def qA:Option (List Int×Int)->LV
 |none=>.cZ [ak [],.int 0,.bool false]
 |some q=>.cZ [ak q.1,.int q.2,.bool true]
def Ea(l:List Int)(s:Int)(fr sz k:Nat)(h:fr+k*sz<=1000000):aS G 180 [.ptr 0 0,.int k] (od l s fr sz) (.int ((fr+k*sz:Nat):Int)) (od l s fr sz):=by
 have w0:IntKind.i64.wrap ((k:Int)*(sz:Int))=((k*sz:Nat):Int):=by rw[show(k:Int)*(sz:Int)=((k*sz:Nat):Int)by simp,aH (by omega) (by omega)]
 have B:IntKind.i64.wrap ((fr:Int)+((k*sz:Nat):Int))=((fr+k*sz:Nat):Int):=by rw[aH (by omega) (by omega)];omega
 refine oO func180 rfl ?_;simp only[od,w0,B,go_sem]
def su(l:List Int)(s:Int)(fr sz k:Nat)(T:∀c∈l,0<=c/\c<=255)(h:fr+k*sz+sz<=l.length)(Z:1<=l.length/\l.length<=65536):aS G 125 [.ptr 0 0,.int k] (od l s fr sz) (qA (jq l fr sz k)) (od l s fr sz):=by
 have O:=Ea (G:=G) l s fr sz k (by omega);have H:=jx (G:=G) l s Z;have a:(eL l fr sz k).length=sz:=by unfold eL;rw[length_take,length_drop];omega
 have u:∀c∈eL l fr sz k,0<=c/\c<=255:=λc K=>T c (mem_of_mem_drop (mem_of_mem_take K))
 have V:=qQ (G:=G) (eL l fr sz k) u (by omega) 0 (by omega);have e:=sK (eL l fr sz k) 0;have y:jq l fr sz k=if(cT (eL l fr sz k) 0).2.2=1 then(fK (cT (eL l fr sz k) 0).1 0).map λq=>((cT (eL l fr sz k) 0).1.drop q.2,q.1)else none:=rfl
 have t:(l.drop (fr+k*sz)).take sz=eL l fr sz k:=rfl;generalize jq l fr sz k=v at *;generalize fr+k*sz=pl at *;generalize eL l fr sz k=b at *;simp only[wO,od,ak,pU]at O H V;have r:IntKind.i64.wrap ((pl:Int)+(sz:Int))=((pl+sz:Nat):Int):=by rw[aH (by omega) (by omega)];omega
 have c1:pl<=pl+sz/\pl+sz<=l.length/\l.length<=l.length:=by omega
 have S:(0:Int)<=((pl+sz:Nat):Int):=by omega
 have o:pl+sz-pl=sz:=by omega
 refine tW func125 ?_;simp only[od,go_sem];refine bJ [0,1,2] O ?_;refine fV [1,2] H ?_;simp only[r,c1,S,o,au,ga,iE,t,go_sem];refine cc V ?_;refine dQ ?_;have D:=iD (G:=G) (cT b 0).1 (λc K=>u c (e.1 c K)) (by omega) 0 (by omega) (fK (cT b 0).1 0) rfl;simp only[ak]at D;cases E:fK (cT b 0).1 0 with
 |none=>
  rw[E]at D y;simp only[Gj,yg,yh,Option.isSome]at D;refine a_ D ?_;have j:v=none:=by rw[y];split<;>rfl
  by_cases U:(cT b 0).2.2=1
  .simp only[U,bne_self_eq_false,go_sem];refine ue [] [0,1,2] [] (vs:=[.d (.val (.slice none 0 0)),.int 0,.bool false]) rfl rfl (by decide) (by simp) (by simp) rfl rfl ?_;simp[aR,aB,ay,j,qA,ak,ax,LV.int,LV.bool]
  .simp only[show((cT b 0).2.2 !=1)=true from bne_iff_ne.2 U,go_sem];refine ue [] [0,1,2] [] (vs:=[.d (.val (.slice none 0 0)),.int 0,.bool false]) rfl rfl (by decide) (by simp) (by simp) rfl rfl ?_;simp[aR,aB,ay,j,qA,ak,ax,LV.int,LV.bool]
 |some q=>
 obtain⟨n,nx⟩:=q;have hr:=gw (λc K=>(u c (e.1 c K)).1) E;rw[E]at D y;simp only[Gj,yg,yh,Option.isSome]at D;refine a_ D ?_;by_cases U:(cT b 0).2.2=1
 .rw [if_pos U]at y;have m:nx<=(cT b 0).1.length/\(cT b 0).1.length<=(cT b 0).1.length:=by omega
  have X:(ax ((cT b 0).1.drop nx)).take ((cT b 0).1.length-nx)=ax ((cT b 0).1.drop nx):=take_of_length_le (by rw[au,length_drop];exact Nat.le_refl _);simp only[U,bne_self_eq_false,au,m,ga,X,go_sem];refine ue [] [0,1,2] [] (vs:=[.d (.cM 1 (ax ((cT b 0).1.drop nx))),.int n,.bool true]) rfl rfl (by decide) (by simp) (by simp) rfl rfl ?_;simp[aR,aB,ay,y,qA,ak,LV.int,LV.bool]
 .rw [if_neg U]at y;simp only[show((cT b 0).2.2 !=1)=true from bne_iff_ne.2 U,go_sem];refine ue [] [0,1,2] [] (vs:=[.d (.val (.slice none 0 0)),.int 0,.bool false]) rfl rfl (by decide) (by simp) (by simp) rfl rfl ?_;simp[aR,aB,ay,y,qA,ak,ax,LV.int,LV.bool]
def nJ(l:List Int)(fr sz:Nat):Nat->Int×Int
 |0=>(-1,-1)
 |k+1=>match jq l fr sz k with
  |none=>nJ l fr sz k
  |some q=>if q.2>(nJ l fr sz k).2 then((k:Int),q.2)else nJ l fr sz k
def Wt(l:List Int)(s:Int)(fr sz:Nat)(k:Nat):St:=⟨[(0,.ptr 0 0),(3,.int (nJ l fr sz k).1),(4,.int (nJ l fr sz k).2),(9,.int k)],(od l s fr sz).map some⟩
def BE(l:List Int)(s:Int)(fr sz:Nat)(T:∀c∈l,0<=c/\c<=255)(h:fr+2*sz<=l.length)(Z:1<=l.length/\l.length<=65536):aS G 124 [.ptr 0 0] (od l s fr sz) (.int (nJ l fr sz 2).1) (od l s fr sz):=by
 have S:=su (G:=G) l s fr sz 0 T (by omega) Z;have w:=su (G:=G) l s fr sz 1 T (by omega) Z;simp only[od]at S w;refine oO func124 rfl ?_;simp only[od,go_sem];refine aQ [0,3,4,9] [] (λk:Nat=>k<=2) (λk=>2-k) (Wt l s fr sz) 0 ?_ (zero_le _) (λk hk=>?_)
 .simp only[Wt,od,nJ,Int.natCast_zero,go_sem]
 simp only[Wt,od,go_sem]
 match k,hk with
 |0,_=>
  have E:nJ l fr sz (0+1)=match jq l fr sz 0 with
   |none=>nJ l fr sz 0
   |some q=>if q.2>(nJ l fr sz 0).2 then(((0:Nat):Int),q.2)else nJ l fr sz 0:=rfl
  simp only[show decide (((0:Nat):Int)<2)=true from rfl,go_sem];refine bJ [0,1,2] S ?_;cases y:jq l fr sz 0 with
  |none=>
   rw[y]at E;simp only[qA,go_sem];refine aY 1 ?_ ?_ (by decide) (by decide)
   .simp only[go_sem]
   .simp only[Wt,od,E,show IntKind.i64.wrap 1=1 from rfl,go_sem]
  |some q=>
   rw[y]at E;simp only at E;simp only[qA,go_sem];by_cases V:q.2>(nJ l fr sz 0).2
   .rw [if_pos V]at E;simp only[decide_eq_true V,go_sem];refine aY 1 ?_ ?_ (by decide) (by decide)
    .simp only[go_sem]
    .simp only[Wt,od,E,show IntKind.i64.wrap 1=1 from rfl,go_sem]
   .rw [if_neg V]at E;simp only[decide_eq_false V,go_sem];refine aY 1 ?_ ?_ (by decide) (by decide)
    .simp only[go_sem]
    .simp only[Wt,od,E,show IntKind.i64.wrap 1=1 from rfl,go_sem]
 |1,_=>
  have E:nJ l fr sz (1+1)=match jq l fr sz 1 with
   |none=>nJ l fr sz 1
   |some q=>if q.2>(nJ l fr sz 1).2 then(((1:Nat):Int),q.2)else nJ l fr sz 1:=rfl
  simp only[show decide (((1:Nat):Int)<2)=true from rfl,go_sem];refine bJ [0,1,2] w ?_;cases y:jq l fr sz 1 with
  |none=>
   rw[y]at E;simp only[qA,go_sem];refine aY 2 ?_ ?_ (by decide) (by decide)
   .simp only[go_sem]
   .simp only[Wt,od,E,show IntKind.i64.wrap 2=2 from rfl,go_sem]
  |some q=>
   rw[y]at E;simp only at E;simp only[qA,go_sem];by_cases V:q.2>(nJ l fr sz 1).2
   .rw [if_pos V]at E;simp only[decide_eq_true V,go_sem];refine aY 2 ?_ ?_ (by decide) (by decide)
    .simp only[go_sem]
    .simp only[Wt,od,E,show IntKind.i64.wrap 2=2 from rfl,go_sem]
   .rw [if_neg V]at E;simp only[decide_eq_false V,go_sem];refine aY 2 ?_ ?_ (by decide) (by decide)
    .simp only[go_sem]
    .simp only[Wt,od,E,show IntKind.i64.wrap 2=2 from rfl,go_sem]
 |2,_=>simp only[show decide (((2:Nat):Int)<2)=false from rfl,go_sem]
def wv(l:List Int)(fr sz:Nat):∀k,-1<=(nJ l fr sz k).1/\(nJ l fr sz k).1<(k:Int)
 |0=>by simp[nJ]
 |k+1=>by
  have:=wv l fr sz k;unfold nJ;cases jq l fr sz k with
  |none=>simp only;omega
  |some q=>
   simp only;split
   .dsimp only;omega
   .omega
def fR(l:List Int)(fr sz:Nat):Option (List Int×Int):=if(nJ l fr sz 2).1<0 then none else jq l fr sz (nJ l fr sz 2).1.toNat
def wK(l:List Int)(s:Int)(fr sz:Nat)(T:∀c∈l,0<=c/\c<=255)(h:fr+2*sz<=l.length)(Z:1<=l.length/\l.length<=65536):aS G 79 [.ptr 0 0] (od l s fr sz) (qA (fR l fr sz)) (od l s fr sz):=by
 have D:=BE (G:=G) l s fr sz T h Z;have hr:=wv l fr sz 2;have u:fR l fr sz=if(nJ l fr sz 2).1<0 then none else jq l fr sz (nJ l fr sz 2).1.toNat:=rfl
 generalize(nJ l fr sz 2).1=m at *;simp only[od]at D;refine tW func79 ?_;simp only[od,go_sem];refine bJ [0,1,2] D ?_;by_cases H:m<0
 .rw [if_pos H]at u;simp only[decide_eq_true H,go_sem];refine ue [] [0,1,2] [] (vs:=[.d (.val (.slice none 0 0)),.int 0,.bool false]) rfl rfl (by decide) (by simp) (by simp) rfl rfl ?_;simp[aR,aB,ay,u,qA,ak,ax,LV.int,LV.bool]
 rw[if_neg H]at u;obtain⟨k,rfl⟩:=eq_ofNat_of_zero_le (show 0<=m by omega);rw[toNat_natCast]at u;have hk:k*sz+sz<=2*sz:=by
  have:k<=1:=by omega
  have:=mul_le_mul_right sz this;omega
 have O:=su (G:=G) l s fr sz k T (by omega) Z;rw[<- u]at O;simp only[od]at O;simp only[decide_eq_false H,go_sem];refine bJ [0,1,2] D ?_;refine bJ [0,1,2] O ?_;cases E:fR l fr sz with
 |none=>simp only[qA,ak,go_sem];refine ue [] [0,1,2] [] (vs:=[.d (.cM 1 (ax [])),.int 0,.bool false]) rfl rfl (by decide) (by simp) (by simp) rfl rfl ?_;simp[aR,aB,ay,LV.int,LV.bool]
 |some q=>simp only[qA,ak,go_sem];refine ue [] [0,1,2] [] (vs:=[.d (.cM 1 (ax q.1)),.int q.2,.bool true]) rfl rfl (by decide) (by simp) (by simp) rfl rfl ?_;simp[aR,aB,ay,LV.int,LV.bool]
def dw(l:List Int)(fr sz:Nat):Nat:=if(nJ l fr sz 2).1=0 then 1 else 0
def gE(b:List Int)(cA:Int):List Int:=cu (aV cA++b)
def slW(l:List Int)(s:Int)(fr sz a:Nat)(b:List Int):List ah:=[.box 216 [.ptr 1 0,.int fr,.int sz],.box 123 [.sl 2 l.length 1 0 l.length,.sl 3 1 2 0 1,.int s],.dat 5 1 (ax l),.dat 147 2 (ux a b)]
def SP(cA:Int):Option (List Int×Int)->Bool
 |none=>false
 |some q=>decide (cA<=q.2)
def fo(l:List Int)(fr sz:Nat)(b:List Int)(cA:Int):Int:=
 if(aV cA).length=0 then 1 else if SP cA (fR l fr sz)=true then 6
 else if(gE b cA).length=0\/(gE b cA).length>sz then 3 else 0
def Hu(l:List Int)(s:Int)(fr sz:Nat)(b:List Int)(cA:Int)(T:∀c∈l,0<=c/\c<=255)(h:fr+2*sz<=l.length)(j:1<=sz)(Z:1<=l.length/\l.length<=65536)(v:b.length<=90000)(J:fo l fr sz b cA=0):aS G 228 [.ptr 0 0,ak b,.int cA] (od l s fr sz) (.int 0) (slW (br l (fr+dw l fr sz*sz) (replicate sz 0)) (IntKind.i64.wrap (s+1)) fr sz (fr+dw l fr sz*sz) (gE b cA)):=by
 have hk:dw l fr sz*sz+sz<=2*sz:=by
  have:dw l fr sz<=1:=by unfold dw;split<;>omega
  have:=mul_le_mul_right sz this;omega
 have u:=wK (G:=G) l s fr sz T h Z;have D:=BE (G:=G) l s fr sz T h Z;have H:=mL (G:=G) cA;have hr:=wv l fr sz 2;simp only[od,ak]at u D H;unfold fo at J;split at J
 .exact absurd J (by decide)
 rename_i g1;split at J
 .exact absurd J (by decide)
 rename_i g2;split at J
 .exact absurd J (by decide)
 rename_i g3;have o:(((aV cA).length:Int)==0)=false:=beq_eq_false_iff_ne.2 (by omega);have S:IntKind.i64.wrap (1-(nJ l fr sz 2).1)=1-(nJ l fr sz 2).1:=aH (by omega) (by omega);have O:=Ea (G:=G) l s fr sz (dw l fr sz) (by omega);have y:(if 1-(nJ l fr sz 2).1>0 then 1-(nJ l fr sz 2).1 else 0).tmod 2=((dw l fr sz:Nat):Int):=by
  unfold dw;have:(nJ l fr sz 2).1 = -1\/(nJ l fr sz 2).1=0\/(nJ l fr sz 2).1=1:=by omega
  rcases this with e|e|e<;>rw[e]<;>decide
 have a:sz*1<=70368744177664/\(sz:Int)<=9223372036854775807:=by omega
 have B:(gE b cA).length<=sz:=by omega
 generalize w:dw l fr sz=K at *;generalize m:fr+K*sz=A at *;have U:=gN (G:=G) l s A (replicate sz 0) (by rw[length_replicate];omega) Z.2;have x:=iR (G:=G) l s A (replicate sz 0) (by rw[length_replicate];omega) Z;have t:(br l A (replicate sz 0)).length=l.length:=dD (by rw[length_replicate];omega);have r:=gN (G:=G) (br l A (replicate sz 0)) (IntKind.i64.wrap (s+1)) A (gE b cA) (by rw[t];omega) (by rw[t];exact Z.2);simp only[od,wO,jH,ux,ak,CD,length_replicate,sA]at O U x r;refine tW func228 ?_;simp only[od,ak,go_sem];refine a_ H ?_;simp only[au,o,go_sem];refine bJ [0,1,2] u ?_;have k:=vm (G:=G) [aV cA,b] (by simp) (by simp;have:=fD cA;omega);have n:=qP (G:=G) (aV cA++b) (by rw[length_append];have:=fD cA;omega);rw[show cu (aV cA++b)=gE b cA from rfl]at n;simp only[flatten_cons,flatten_nil,append_nil,bS,map_cons,map_nil,ak]at k n;have V:(((gE b cA).length:Int)==0)=false:=beq_eq_false_iff_ne.2 (by omega);have X:decide (((gE b cA).length:Int)>(sz:Int))=false:=decide_eq_false (by omega);cases E:fR l fr sz with
 |none=>
  simp only[qA,ak,go_sem];refine a_ H ?_;refine tH [3] k rfl (by simp[ay,aB,bz,an,bS,go_sem]) (by simp[an]) rfl ?_;simp only[go_sem];refine a_ n ?_;simp only[au,V,X,go_sem];refine bJ [0,1,2] D ?_;simp only[S,y,go_sem];refine bJ [0,1,2] O ?_;simp only[a,go_sem];refine CQ [1,2] [4] U rfl (by simp[ay,aB,bz,an,u8,au,go_sem]) (by decide) (by decide) (by simp[an]) (by simp only[go_sem,u8,au]) (by simp only[go_sem,u8,au]) (by simp) ?_;simp only[go_sem,u8,au];refine dQ ?_;refine dz [1,2,5] x rfl ?_ (by decide) ?_ ?_ (by simp) ?_<;>simp only[ay,aB,go_sem,u8]
  refine bJ [1,2] r ?_;refine ue [] [0,1,2,6] [] (vs:=[.int 0]) rfl rfl (by decide) (by simp) (by simp) rfl rfl ?_;simp[aR,aB,LV.int]
 |some q=>
  rw[E]at g2;have g4:¬cA<=q.2:=λe=>g2 (decide_eq_true e)
  simp only[qA,ak,decide_eq_false g4,go_sem];refine a_ H ?_;refine tH [3] k rfl (by simp[ay,aB,bz,an,bS,go_sem]) (by simp[an]) rfl ?_;simp only[go_sem];refine a_ n ?_;simp only[au,V,X,go_sem];refine bJ [0,1,2] D ?_;simp only[S,y,go_sem];refine bJ [0,1,2] O ?_;simp only[a,go_sem];refine CQ [1,2] [4] U rfl (by simp[ay,aB,bz,an,u8,au,go_sem]) (by decide) (by decide) (by simp[an]) (by simp only[go_sem,u8,au]) (by simp only[go_sem,u8,au]) (by simp) ?_;simp only[go_sem,u8,au];refine dQ ?_;refine dz [1,2,5] x rfl ?_ (by decide) ?_ ?_ (by simp) ?_<;>simp only[ay,aB,go_sem,u8]
  refine bJ [1,2] r ?_;refine ue [] [0,1,2,6] [] (vs:=[.int 0]) rfl rfl (by decide) (by simp) (by simp) rfl rfl ?_;simp[aR,aB,LV.int]
def FG(l:List Int)(s:Int)(fr sz:Nat)(b:List Int)(cA:Int)(T:∀c∈l,0<=c/\c<=255)(h:fr+2*sz<=l.length)(V:1<=sz)(Z:1<=l.length/\l.length<=65536)(v:b.length<=90000)(J:fo l fr sz b cA≠0):aS G 228 [.ptr 0 0,ak b,.int cA] (od l s fr sz) (.int (fo l fr sz b cA)) (od l s fr sz):=by
 have u:=wK (G:=G) l s fr sz T h Z;have H:=mL (G:=G) cA;simp only[od,ak]at u H;have k:=vm (G:=G) [aV cA,b] (by simp) (by simp;have:=fD cA;omega);have n:=qP (G:=G) (aV cA++b) (by rw[length_append];have:=fD cA;omega);rw[show cu (aV cA++b)=gE b cA from rfl]at n;simp only[flatten_cons,flatten_nil,append_nil,bS,map_cons,map_nil,ak]at k n;refine tW func228 ?_;simp only[od,ak,go_sem];refine a_ H ?_;simp only[au,go_sem];by_cases g1:(aV cA).length=0
 .have hs:fo l fr sz b cA=1:=if_pos g1;simp only[show(((aV cA).length:Int)==0)=true by rw[beq_iff_eq];omega,hs,go_sem];refine ue [] [0,1,2] [] (vs:=[.int 1]) rfl rfl (by decide) (by simp) (by simp) rfl rfl ?_;simp[aR,aB,LV.int]
 have x:fo l fr sz b cA=if SP cA (fR l fr sz)=true then 6 else if(gE b cA).length=0\/(gE b cA).length>sz then 3 else 0:=if_neg g1
 simp only[show(((aV cA).length:Int)==0)=false from beq_eq_false_iff_ne.2 (by omega),go_sem];refine bJ [0,1,2] u ?_;have A:SP cA (fR l fr sz)=false->fo l fr sz b cA=3/\((gE b cA).length=0\/(gE b cA).length>sz):=by
  intro e;rw[e,if_neg Bool.false_ne_true]at x;by_cases g:(gE b cA).length=0\/(gE b cA).length>sz
  .rw [if_pos g]at x;exact⟨x,g⟩
  .rw [if_neg g]at x;exact absurd x J
 cases E:fR l fr sz with
 |none=>
  rw[E]at A;obtain⟨a,g3⟩:=A rfl;simp only[qA,ak,a,go_sem];refine a_ H ?_;refine tH [3] k rfl (by simp[ay,aB,bz,an,bS,go_sem]) (by simp[an]) rfl ?_;simp only[go_sem];refine a_ n ?_;simp only[au,go_sem];by_cases m:(gE b cA).length=0
  .simp only[show(((gE b cA).length:Int)==0)=true by rw[beq_iff_eq];omega,go_sem];refine ue [] [0,1,2] [] (vs:=[.int 3]) rfl rfl (by decide) (by simp) (by simp) rfl rfl ?_;simp[aR,aB,LV.int]
  .simp only[show(((gE b cA).length:Int)==0)=false from beq_eq_false_iff_ne.2 (by omega),au,dT (((gE b cA).length:Int)>(sz:Int)),go_sem];refine ue [] [0,1,2] [] (vs:=[.int 3]) rfl rfl (by decide) (by simp) (by simp) rfl rfl ?_;simp[aR,aB,LV.int]
 |some q=>
  simp only[qA,ak,go_sem];by_cases g4:cA<=q.2
  .have j:SP cA (some q)=true:=decide_eq_true g4;rw[E,j,if_pos rfl]at x;simp only[decide_eq_true g4,x,go_sem];refine ue [] [0,1,2] [] (vs:=[.int 6]) rfl rfl (by decide) (by simp) (by simp) rfl rfl ?_;simp[aR,aB,LV.int]
  rw[E]at A;obtain⟨a,g3⟩:=A (decide_eq_false g4);simp only[decide_eq_false g4,a,go_sem];refine a_ H ?_;refine tH [3] k rfl (by simp[ay,aB,bz,an,bS,go_sem]) (by simp[an]) rfl ?_;simp only[go_sem];refine a_ n ?_;simp only[au,go_sem];by_cases m:(gE b cA).length=0
  .simp only[show(((gE b cA).length:Int)==0)=true by rw[beq_iff_eq];omega,go_sem];refine ue [] [0,1,2] [] (vs:=[.int 3]) rfl rfl (by decide) (by simp) (by simp) rfl rfl ?_;simp[aR,aB,LV.int]
  .simp only[show(((gE b cA).length:Int)==0)=false from beq_eq_false_iff_ne.2 (by omega),au,dT (((gE b cA).length:Int)>(sz:Int)),go_sem];refine ue [] [0,1,2] [] (vs:=[.int 3]) rfl rfl (by decide) (by simp) (by simp) rfl rfl ?_;simp[aR,aB,LV.int]
def jK(l:List Int)(fr sz:Nat)(b:List Int)(cA:Int):List Int:=br (br l (fr+dw l fr sz*sz) (replicate sz 0)) (fr+dw l fr sz*sz) (gE b cA)
def Sc(l:List Int)(s:Int)(fr sz:Nat)(b:List Int)(cA:Int)(T:∀c∈l,0<=c/\c<=255)(h:fr+2*sz<=l.length)(j:1<=sz)(Z:1<=l.length/\l.length<=65536)(n:b.length<=90000)(J:fo l fr sz b cA=0):aS G 195 [.ptr 0 0,ak b,.int cA] (od l s fr sz) (.int 0) (od (jK l fr sz b cA) (IntKind.i64.wrap (IntKind.i64.wrap (s+1)+1)) fr sz):=by
 have S:=Hu (G:=G) l s fr sz b cA T h j Z n J;have hk:dw l fr sz*sz+sz<=2*sz:=by
  have:dw l fr sz<=1:=by unfold dw;split<;>omega
  have:=mul_le_mul_right sz this;omega
 have B:(gE b cA).length<=sz:=by
  unfold fo at J;split at J
  .exact absurd J (by decide)
  split at J
  .exact absurd J (by decide)
  split at J
  .exact absurd J (by decide)
  omega
 have m:fr+dw l fr sz*sz+sz<=l.length:=by omega
 have v:jK l fr sz b cA=br (br l (fr+dw l fr sz*sz) (replicate sz 0)) (fr+dw l fr sz*sz) (gE b cA):=rfl;generalize fr+dw l fr sz*sz=A at *;have t:(br l A (replicate sz 0)).length=l.length:=dD (by rw[length_replicate];omega);have hs:=iR (G:=G) (br l A (replicate sz 0)) (IntKind.i64.wrap (s+1)) A (gE b cA) (by rw[t];omega) (by rw[t];exact Z);rw[<- v]at hs;simp only[od,slW,wO,jH,ux,ak,sA]at S hs;refine tW func195 ?_;simp only[od,ak,go_sem];refine bJ [0,1,2] S ?_;refine bJ [1,2,3] hs ?_;refine ue [] [0,1,2] [] (vs:=[.int 0]) rfl rfl (by decide) (by simp) (by simp) rfl rfl ?_;simp[aR,aB,LV.int]
def Hz(l:List Int)(s:Int)(fr sz:Nat)(b:List Int)(cA:Int)(T:∀c∈l,0<=c/\c<=255)(h:fr+2*sz<=l.length)(j:1<=sz)(Z:1<=l.length/\l.length<=65536)(v:b.length<=90000)(J:fo l fr sz b cA≠0):aS G 195 [.ptr 0 0,ak b,.int cA] (od l s fr sz) (.int (fo l fr sz b cA)) (od l s fr sz):=by have S:=FG (G:=G) l s fr sz b cA T h j Z v J;generalize fo l fr sz b cA=e at *;simp only[od,ak]at S;refine oO func195 rfl ?_;simp only[od,ak,go_sem];refine bJ [0,1,2] S ?_;simp only[show(e !=0)=true from bne_iff_ne.2 J,go_sem]
def dkS(l:List Int)(s:Int)(fr sz:Nat):List ah:=[.box 123 [.sl 1 l.length 1 0 l.length,.d (.val (.slice none 0 0)),.int s],.dat 5 1 (ax l),.box 216 [.ptr 0 0,.int fr,.int sz]]
def tX(l:List Int)(s:Int)(fr sz:Nat)(h:fr+2*sz<=l.length)(j:1<=sz)(Z:1<=l.length/\l.length<=65536):aS G 77 [.ptr 0 0,.int fr,.int sz] (wO l s) (.cZ [.ptr 2 0,.int 0]) (dkS l s fr sz):=by
 have hs:=iS (G:=G) l s;simp only[wO]at hs;have B:IntKind.i64.wrap (2*(sz:Int))=((2*sz:Nat):Int):=by rw[aH (by omega) (by omega)];omega
 have r:IntKind.i64.wrap ((l.length:Int)-((2*sz:Nat):Int))=((l.length-2*sz:Nat):Int):=by rw[aH (by omega) (by omega)];omega
 have A:IntKind.i64.wrap ((l.length:Int).tdiv 2)=((l.length / 2:Nat):Int):=by rw[tdiv_eq_ediv_of_nonneg (by omega),aH (by omega) (by omega)];omega
 refine tW func77 ?_;simp only[wO,go_sem];simp only[dF ((fr:Int)<0),dF ((sz:Int)<1),go_sem];refine bJ [0,1] hs ?_;simp only[A,dF ((sz:Int)>((l.length / 2:Nat):Int)),go_sem];refine bJ [0,1] hs ?_;simp only[B,r,dF ((fr:Int)>((l.length-2*sz:Nat):Int)),go_sem];refine ue [] [0,1,2] [] (vs:=[.ptr 2 0,.int 0]) rfl rfl (by decide) (by simp) (by simp) rfl rfl ?_;simp[aR,aB,ay,LV.int]
def rW(l:List Int)(fr sz:Nat):List Int:=(l.drop fr).take sz
def vP{l:List Int}{fr sz:Nat}(h:fr+sz<=l.length):(rW l fr sz).length=sz:=by unfold rW;rw[length_take,length_drop];omega
def Hy{l:List Int}{fr sz:Nat}(T:∀c∈l,0<=c/\c<=255):∀c∈rW l fr sz,0<=c/\c<=255:=λc K=>T c (mem_of_mem_drop (mem_of_mem_take K))
def jk(l:List Int)(fr sz:Nat):List (List Int)×Nat:=xB (rW l fr sz) (sz+1) [] 0
def dkL(l:List Int)(s:Int)(fr sz us:Nat):List ah:=[.box 123 [.sl 1 l.length 1 0 l.length,.d (.val (.slice none 0 0)),.int s],.dat 5 1 (ax l),.box 218 [.ptr 0 0,.int fr,.int sz,.int us]]
def zi(l:List Int)(s:Int)(fr sz:Nat)(T:∀c∈l,0<=c/\c<=255)(A:fr+sz<=l.length)(j:1<=sz)(Z:1<=l.length/\l.length<=65536)(v:(jk l fr sz).2<=sz):aS G 78 [.ptr 0 0,.int fr,.int sz] (wO l s) (.cZ [.ptr 2 0,.d (.cM 1 (bS (jk l fr sz).1)),.int 0]) (dkL (br l (fr+(jk l fr sz).2) (replicate (sz-(jk l fr sz).2) 0)) (IntKind.i64.wrap (s+1)) fr sz (jk l fr sz).2):=by
 have hs:=iS (G:=G) l s;have E:=jx (G:=G) l s Z;have a:=vP A;have X:=Gu (G:=G) (rW l fr sz) (Hy T) (by omega) 0 (zero_le _) (jk l fr sz) (by rw[a];rfl);have D:=F3 (G:=G) l s fr sz (jk l fr sz).2 (jk l fr sz).2 A v Z;generalize jk l fr sz=R at *;simp only[wO,BO,ak]at hs E X D;have B:IntKind.i64.wrap ((l.length:Int)-(sz:Int))=((l.length-sz:Nat):Int):=by rw[aH (by omega) (by omega)];omega
 have r:IntKind.i64.wrap ((fr:Int)+(sz:Int))=((fr+sz:Nat):Int):=by rw[aH (by omega) (by omega)];omega
 have c1:fr<=fr+sz/\fr+sz<=l.length/\l.length<=l.length:=by omega
 have S:(0:Int)<=((fr+sz:Nat):Int):=by omega
 have o:fr+sz-fr=sz:=by omega
 refine tW func78 ?_;simp only[wO,go_sem];simp only[dF ((fr:Int)<0),dF ((sz:Int)<1),go_sem];refine bJ [0,1] hs ?_;simp only[dF ((sz:Int)>(l.length:Int)),go_sem];refine bJ [0,1] hs ?_;simp only[B,dF ((fr:Int)>((l.length-sz:Nat):Int)),go_sem];refine bJ [0,1] E ?_;simp only[r,c1,S,o,au,ga,iE,go_sem];refine a_ X ?_;refine bJ [2,0,1] D ?_;have t:(br l (fr+R.2) (replicate (sz-R.2) 0)).length=l.length:=dD (by rw[length_replicate];omega);refine ue [] [0,1,2] [] (vs:=[.ptr 2 0,.d (.cM 1 (bS R.1)),.int 0]) rfl rfl (by decide) (by simp) (by simp) rfl rfl ?_;simp[aR,aB,ay,LV.int]
section
variable(n:Nat)
def zl(n:Nat)(l:List Int)(s cnt cA:Int)(us:Nat):List ah:=[.box 155 [.ptr 1 0,.ptr 2 0,.ptr 3 0,.int cnt,.int cA],.box 123 [.sl 4 n 1 0 n,.d (.val (.slice none 0 0)),.int s],.box 216 [.ptr 1 0,.int 0,.int ((n / 4:Nat):Int)],.box 218 [.ptr 1 0,.int ((2*(n / 4):Nat):Int),.int ((n-2*(n / 4):Nat):Int),.int us],.dat 5 1 (ax l)]
def KE(l:List Int)(s cnt cA:Int)(us:Nat)(p:List Int)(O:p.length<=90000):aS G 198 [.ptr 0 0,ak p] (zl n l s cnt cA us) (ak (aV cnt++p)) (zl n l s cnt cA us):=by have H:=mL (G:=G) cnt;have k:=vm (G:=G) [aV cnt,p] (by simp) (by simp;have:=fD cnt;omega);simp only[flatten_cons,flatten_nil,append_nil,bS,map_cons,map_nil,ak]at k H;refine tW func198 ?_;simp only[zl,ak,go_sem];refine a_ H ?_;refine tH [5] k rfl (by simp[ay,aB,bz,an,bS,go_sem]) (by simp[an]) rfl ?_;simp only[go_sem];refine ue [] [0,1,2,3,4] [] (vs:=[.d (.cM 1 (ax (aV cnt++p)))]) rfl rfl (by decide) (by simp) (by simp) rfl rfl ?_;simp[aR,aB]
def ov(n us:Nat)(cnt:Int)(k:Nat):Bool:=decide (1<=k/\k<=3900)&&rZ (n-2*(n / 4)) us (k+(aV cnt).length)
def DY(l:List Int)(s cnt cA:Int)(us k:Nat)(Z:l.length=n)(D:n<=65536)(y:us<=n-2*(n / 4))(hk:k<=900000):aS G 159 [.ptr 0 0,.int k] (zl n l s cnt cA us) (.bool (ov n us cnt k)) (zl n l s cnt cA us):=by
 have H:=mL (G:=G) cnt;have V:=fD cnt;have hr:=zh (G:=G) l s (2*(n / 4)) (n-2*(n / 4)) us (k+(aV cnt).length) y (by omega) (by omega);have B:IntKind.i64.wrap ((k:Int)+((aV cnt).length:Int))=((k+(aV cnt).length:Nat):Int):=by rw[aH (by omega) (by omega)];omega
 simp only[ak,BO,Z]at H hr;refine oO func159 rfl ?_;simp only[zl,go_sem];by_cases U:1<=k;case neg=>simp only[dF ((k:Int)>=1),ov,dF (1<=k/\k<=3900),go_sem]
 by_cases h2:k<=3900;case neg=>simp only[dT ((k:Int)>=1),dF ((k:Int)<=3900),ov,dF (1<=k/\k<=3900),go_sem]
 simp only[dT ((k:Int)>=1),dT ((k:Int)<=3900),ov,dT ((1<=k/\k<=3900)),go_sem];refine cc H ?_;simp only[au,B,go_sem];refine fV [3,1,4] hr ?_;refine dQ trivial
def jnW(n:Nat)(l:List Int)(s cnt cA:Int)(us a:Nat)(b:List Int):List ah:=[.box 155 [.ptr 1 0,.ptr 2 0,.ptr 3 0,.int cnt,.int cA],.box 123 [.sl 4 n 1 0 n,.sl 5 1 2 0 1,.int s],.box 216 [.ptr 1 0,.int 0,.int ((n / 4:Nat):Int)],.box 218 [.ptr 1 0,.int ((2*(n / 4):Nat):Int),.int ((n-2*(n / 4):Nat):Int),.int us],.dat 5 1 (ax l),.dat 147 2 (ux a b)]
def fh(cnt:Int)(p:List Int):List Int:=cu (aV cnt++p)
def BR(l:List Int)(s cnt cA:Int)(us:Nat)(p:List Int)(Z:l.length=n)(D:1<=n/\n<=65536)(y:us<=n-2*(n / 4))(hr:ov n us cnt p.length=true):aS G 162 [.ptr 0 0,ak p] (zl n l s cnt cA us) (.int 0) (jnW n l s (IntKind.i64.wrap (cnt+1)) cA (us+(fh cnt p).length) (2*(n / 4)+us) (fh cnt p)):=by
 have X:=hr;unfold ov at X;rw[Bool.and_eq_true,decide_eq_true_eq]at X;obtain⟨⟨k1,k2⟩,k3⟩:=X;have o:(aV cnt++p).length=p.length+(aV cnt).length:=by rw[length_append,Nat.add_comm]
 have E:=DY (G:=G) n l s cnt cA us p.length Z D.2 y (by omega);have v:=KE (G:=G) n l s cnt cA us p (by omega);have a:=K_ (G:=G) l s (2*(n / 4)) (n-2*(n / 4)) us (aV cnt++p) (by omega) y (by omega) (by rw[o];exact k3);rw[hr]at E;rw[show cu (aV cnt++p)=fh cnt p from rfl]at a;simp only[zl,BO,lgW,ux,ak,Z]at E v a;refine tW func162 ?_;simp only[zl,ak,go_sem];simp only[au,show((p.length:Int)==0)=false from beq_eq_false_iff_ne.2 (by omega),go_sem];simp only[au,dF ((p.length:Int)>3900),go_sem];refine bJ [0,1,2,3,4] E ?_;refine oL [0,1,2,3,4] v ?_;refine fV [3,1,4] a ?_;refine dQ ?_;refine ue [] [0,1,2,3,4,5] [] (vs:=[.int 0]) rfl rfl (by decide) (by simp) (by simp) rfl rfl ?_;simp[aR,aB,LV.int]
def Iu(l:List Int)(s cnt cA:Int)(us:Nat)(p:List Int)(Z:l.length=n)(D:1<=n/\n<=65536)(y:us<=n-2*(n / 4))(hr:ov n us cnt p.length=true):aS G 93 [.ptr 0 0,ak p] (zl n l s cnt cA us) (.int 0) (zl n (br l (2*(n / 4)+us) (fh cnt p)) (IntKind.i64.wrap (s+1)) (IntKind.i64.wrap (cnt+1)) cA (us+(fh cnt p).length)):=by
 have S:=BR (G:=G) n l s cnt cA us p Z D y hr;have E:2*(n / 4)+us+(fh cnt p).length<=n:=by
  have X:=hr;unfold ov rZ at X;rw[Bool.and_eq_true,decide_eq_true_eq,decide_eq_true_eq]at X;have o:(aV cnt++p).length=p.length+(aV cnt).length:=by rw[length_append,Nat.add_comm]
  unfold fh;rw[ny (by omega),o];omega
 have a:=iR (G:=G) l s (2*(n / 4)+us) (fh cnt p) (by omega) (by omega);have c:(br l (2*(n / 4)+us) (fh cnt p)).length=n:=by rw[dD (by omega),Z]
 simp only[zl,jnW,wO,jH,ux,ak,c,Z,sA]at S a;refine tW func93 ?_;simp only[zl,ak,go_sem];refine bJ [0,1,2,3,4] S ?_;refine bJ [1,4,5] a ?_;refine ue [] [0,1,2,3,4] [] (vs:=[.int 0]) rfl rfl (by decide) (by simp) (by simp) rfl rfl ?_;simp[aR,aB,LV.int]
def DT{l:List Int}{sz:Nat}{b:List Int}{cA:Int}(h:2*sz<=l.length)(J:fo l 0 sz b cA=0):(jK l 0 sz b cA).length=l.length:=by
 have hk:dw l 0 sz*sz+sz<=2*sz:=by
  have:dw l 0 sz<=1:=by unfold dw;split<;>omega
  have:=mul_le_mul_right sz this;omega
 have B:(gE b cA).length<=sz:=by
  unfold fo at J;split at J
  .exact absurd J (by decide)
  split at J
  .exact absurd J (by decide)
  split at J
  .exact absurd J (by decide)
  omega
 unfold jK;have U:(br l (0+dw l 0 sz*sz) (replicate sz 0)).length=l.length:=dD (by rw[length_replicate];omega);rw[dD (by rw[U];omega),U]
def zI(n:Nat)(l:List Int)(eO:List Int)(cnt:Int):List Int:=br (jK l 0 (n / 4) eO cnt) (2*(n / 4)) (replicate (n-2*(n / 4)) 0)
def Je(l:List Int)(s cnt cA:Int)(us:Nat)(eO:List Int)(Z:l.length=n)(D:64<=n/\n<=65536)(T:∀c∈l,0<=c/\c<=255)(t:eO.length<=90000)(X:cA≠cnt)(J:fo l 0 (n / 4) eO cnt=0):aS G 160 [.ptr 0 0,ak eO] (zl n l s cnt cA us) (.int 0) (zl n (zI n l eO cnt) (IntKind.i64.wrap (IntKind.i64.wrap (IntKind.i64.wrap (s+1)+1)+1)) cnt cnt 0):=by
 have h:=Sc (G:=G) l s 0 (n / 4) eO cnt T (by omega) (by omega) (by omega) t J;have S:=DT (l:=l) (sz:=n / 4) (b:=eO) (cA:=cnt) (by omega) J;have e:=wJ (G:=G) (jK l 0 (n / 4) eO cnt) (IntKind.i64.wrap (IntKind.i64.wrap (s+1)+1)) (2*(n / 4)) (n-2*(n / 4)) us (by omega) (by omega) (by omega);have a:(br (jK l 0 (n / 4) eO cnt) (2*(n / 4)) (replicate (n-2*(n / 4)) 0)).length=n:=by rw[dD (by rw[length_replicate];omega),S,Z]
 simp only[od,BO,ak,S,Z,a]at h e;refine tW func160 ?_;simp only[zl,zI,ak,go_sem];simp only[show(cA==cnt)=false from beq_eq_false_iff_ne.2 X,go_sem];refine fV [2,1,4] h ?_;refine dQ ?_;refine bJ [3,1,4] e ?_;refine ue [] [0,1,2,3,4] [] (vs:=[.int 0]) rfl rfl (by decide) (by simp) (by simp) rfl rfl ?_;simp[aR,aB,LV.int]
def zZ(l:List Int)(s cnt:Int)(us:Nat)(eO:List Int):aS G 160 [.ptr 0 0,ak eO] (zl n l s cnt cnt us) (.int 3) (zl n l s cnt cnt us):=by refine oO func160 rfl ?_;simp only[zl,ak,go_sem]
def Cw(l:List Int)(s cnt cA:Int)(us:Nat)(eO:List Int)(Z:l.length=n)(D:64<=n/\n<=65536)(T:∀c∈l,0<=c/\c<=255)(t:eO.length<=90000)(v:cA≠cnt)(J:fo l 0 (n / 4) eO cnt≠0):aS G 160 [.ptr 0 0,ak eO] (zl n l s cnt cA us) (.int 3) (zl n l s cnt cA us):=by have h:=Hz (G:=G) l s 0 (n / 4) eO cnt T (by omega) (by omega) (by omega) t J;generalize fo l 0 (n / 4) eO cnt=e at *;simp only[od,ak,Z]at h;refine oO func160 rfl ?_;simp only[zl,ak,show(cA==cnt)=false from beq_eq_false_iff_ne.2 v,go_sem];refine oL [2,1,4] h ?_;simp only[show(e !=0)=true from bne_iff_ne.2 J,go_sem]
end
section
variable(n fr a m sz:Nat)
def aew:=qx f126
def ad_:bM prog f126=some aew:=by kernel_rfl
def EH:cT (replicate m 0) 0=([],0,0):=by
 unfold cT;rw[if_neg (by omega),if_pos];cases m with
 |zero=>exact .inl rfl
 |succ m=>exact .inr rfl
def take_zero(b:Nat)(h:a+b<=n):((replicate n (0:Int)).drop a).take b=replicate b 0:=by rw[drop_replicate,take_replicate,Nat.min_eq_left (by omega)]
def OX(h:fr+sz<=n):jk (replicate n 0) fr sz=([],0):=by unfold jk rW;rw[take_zero n fr sz h];unfold xB;rw[EH];rfl
def Ec(k:Nat)(h:fr+k*sz+sz<=n):jq (replicate n 0) fr sz k=none:=by unfold jq eL;rw[take_zero n (fr+k*sz) sz h,EH];rfl
def BM(h:fr+2*sz<=n):fR (replicate n 0) fr sz=none:=by
 have h0:=Ec n fr sz 0 (by omega);have U:=Ec n fr sz 1 (by omega);unfold fR;have:nJ (replicate n 0) fr sz 2=(-1,-1):=by simp only[nJ,h0,U]
 rw[this];rfl
def KN(h:a+m<=n):br (replicate n 0) a (replicate m 0)=replicate n 0:=by unfold br;rw[take_replicate,drop_replicate,length_replicate,replicate_append_replicate,replicate_append_replicate,Nat.min_eq_left (by omega)];congr 1;omega
def XH(p q:Nat):LV:=.fn (.func 126) [] [.ptr p 0,.ptr q 0]
def uh(rs:List (List Int))(fr:Int):aS G 80 [.d (.cM 1 (bS rs)),.int fr] [] (XH 0 1) [.box 103 [.d (.cM 1 (bS rs))],.box 3 [.int fr]]:=by refine uW func80 ?_;exact ue [] [0,1] [] rfl rfl (by simp) (λ_ h=>by cases h) (λ_ h=>by cases h) rfl rfl (by simp[XH,bQ,St.obj,an,aR,St.get,aN,aB,ay])
def ZW(n:Nat)(l:List Int)(s cnt cA:Int)(us:Nat):List ah:=[.box 123 [.sl 1 n 1 0 n,.d (.val (.slice none 0 0)),.int s],.dat 5 1 (ax l),.box 155 [.ptr 0 0,.ptr 3 0,.ptr 4 0,.int cnt,.int cA],.box 216 [.ptr 0 0,.int 0,.int ((n / 4:Nat):Int)],.box 218 [.ptr 0 0,.int ((2*(n / 4):Nat):Int),.int ((n-2*(n / 4):Nat):Int),.int us]]
def LS:aS G 81 [.d (.cM 1 []),.int 0] [] (.bool false) []:=by refine iL func81 trivial
def bOp(n:Nat)(s:Int):List (Option ah):=[some (.box 123 [.sl 1 n 1 0 n,.d (.val (.slice none 0 0)),.int s]),some (.dat 5 1 (ax (replicate n 0))),some (.box 216 [.ptr 0 0,.int 0,.int ((n / 4:Nat):Int)]),some (.box 218 [.ptr 0 0,.int ((2*(n / 4):Nat):Int),.int ((n-2*(n / 4):Nat):Int),.int 0]),some (.box 155 [.ptr 0 0,.ptr 2 0,.ptr 3 0,.int 0,.int (-1)]),some (.box 102 [.ptr 4 0]),some (.box 103 [.d (.val (.slice none 0 0))]),some (.box 103 [.d (.cM 1 [])]),some (.box 3 [.int 0])]
def Lg(s:Int)(D:64<=n/\n<=65536):aS G 39 [.ptr 0 0] (wO (replicate n 0) s) (.cZ [.ptr 2 0,ak [],.d (.cM 1 []),.int 0]) (ZW n (replicate n 0) (IntKind.i64.wrap (s+1)) 0 (-1) 0):=by
 have hlen:(replicate n (0:Int)).length=n:=length_replicate;have u:=iS (G:=G) (replicate n 0) s;have h:=tX (G:=G) (replicate n 0) s 0 (n / 4) (by rw[hlen];omega) (by omega) (by rw[hlen];omega);have j:∀c∈replicate n (0:Int),0<=c/\c<=255:=λc K=>by rw[eq_of_mem_replicate K];decide
 have w:=OX n (2*(n / 4)) (n-2*(n / 4)) (by omega);have a:=zi (G:=G) (replicate n 0) s (2*(n / 4)) (n-2*(n / 4)) j (by rw[hlen];omega) (by omega) (by rw[hlen];omega) (by rw[w];dsimp only;omega);have b:=wK (G:=G) (replicate n 0) (IntKind.i64.wrap (s+1)) 0 (n / 4) j (by rw[hlen];omega) (by rw[hlen];omega);rw[BM n 0 (n / 4) (by omega)]at b;rw[w]at a;simp only[Nat.add_zero,Nat.sub_zero,KN n (2*(n / 4)) (n-2*(n / 4)) (by omega)]at a;simp only[wO,dkS,dkL,od,qA,ak,hlen,bS,map_nil]at u h a b;have B:IntKind.i64.wrap ((n:Int).tdiv 4)=((n / 4:Nat):Int):=by rw[tdiv_eq_ediv_of_nonneg (by omega),aH (by omega) (by omega)];omega
 have r:IntKind.i64.wrap (2*((n / 4:Nat):Int))=((2*(n / 4):Nat):Int):=by rw[aH (by omega) (by omega)];omega
 have y:IntKind.i64.wrap ((n:Int)-((2*(n / 4):Nat):Int))=((n-2*(n / 4):Nat):Int):=by rw[aH (by omega) (by omega)];omega
 refine tW func39 ?_;simp only[wO,hlen,go_sem];refine bJ [0,1] u ?_;simp only[dF ((n:Int)<64),go_sem];refine bJ [0,1] u ?_;simp only[B,go_sem];refine bJ [0,1] h ?_;simp only[r,go_sem];refine bJ [0,1] u ?_;simp only[r,y,go_sem];refine bJ [0,1] a ?_;refine bJ [2,0,1] b ?_;have e:=uh (G:=G) [] 0;simp only[bS,map_nil,XH]at e;refine acj e ?_;refine Za rfl (λm o=>m=mq/\o=bOp n (IntKind.i64.wrap (s+1))++[none]) ?_ ?_;case refine_2=>rintro m af ⟨rfl,rfl⟩;refine .inl ⟨rfl,?_⟩;simp only[bOp,go_sem,sA];have q:=LS (G:=G);refine a_ q ?_;refine ue [] [0,1,4,2,3] [] (vs:=[.ptr 4 0,.d (.cM 1 (ax [])),.d (.val (.slice none 0 0)),.int 0]) rfl rfl (by decide) (by simp) (by simp) rfl rfl ?_;simp[aR,aB,ay,ak,LV.int]
 simp only[go_sem,sA];refine TD func126 (by decide) ad_ rfl rfl rfl ?_;simp only[aew,go_sem];refine aQ [10,11,4294967294] [] (λk:Nat=>k=0) (λk=>1-k) (λ_=>⟨[(10,.int 0),(11,.int 0),(4294967294,mq)],bOp n (IntKind.i64.wrap (s+1))++[none]⟩) 0 ?_ rfl (λk hk=>?_)
 .simp only[bOp,go_sem,sA]
 simp only[bOp,go_sem,sA]
end
section
variable(b:List Int)
attribute [local go_sem] Gj
def aeV:=qx f130
def aeG:bM prog f130=some aeV:=by kernel_rfl
def HN(b:List Int)(p:Nat)(k:Bool):List ah:=[.box 100 [ak b],.box 3 [.int p],.box 4 [.bool k]]
attribute [local go_sem] HN ak
attribute [local simp] HN
def Bb(T:∀c∈b,0<=c/\c<=255)(Z:b.length<=1000000)(t:Nat)(X:t<=1000000)(q:Option (Int×Nat))(E:fK b t=q)(p:Nat)(k:Bool) :
  aS G 130 [.int t,.ptr 0 0,.ptr 1 0,.ptr 2 0] (HN b p k) (.int (yg q)) (HN b (yh q) q.isSome):=by
 refine FB func130 (by decide) aeG rfl rfl rfl rfl ?_;simp only[aeV,go_sem];refine a_ (iD b T Z t X q E) trivial
def glS(b:List Int)(n:Int)(p:List Int×Nat):St:=⟨[(9,.ptr 1 0),(10,.ptr 2 0),(11,.fn (.func 130) [] [.ptr 0 0,.ptr 1 0,.ptr 2 0]),(13,.sl 3 p.1.length 1 0 p.1.length),(26,.int n),(27,.int p.1.length)],(HN b p.2 true++[ah.dat 3 1 (gL p.1)]).map some⟩
def Ca:Option (List Int×Nat)->LV
 |none=>.cZ [.d (.val (.slice none 0 0)),.int 0,.bool false]
 |some (xs,e)=>.cZ [.sl 0 xs.length 1 0 xs.length,.int e,.bool true]
def Cb:Option (List Int×Nat)->List ah
 |none=>[]
 |some (xs,e)=>[.dat 3 1 (gL xs)]
def mO(T:∀c∈b,0<=c/\c<=255)(Z:b.length<=1000000)(many:Nat)(H:many<=1000)(q:Option (List Int×Nat))(E:uX b 0 many=q):aS G 84 [ak b,.int 0,.int many] [] (Ca q) (Cb q):=by
 refine uW func84 ?_;refine dz [0,1,2] (Bb b T Z 0 (by decide) _ rfl 0 false) rfl ?_ (by decide) ?_ ?_ (by simp) ?_<;>simp only[ay,aB,go_sem,Int.natCast_zero]
 unfold uX at E;cases D:fK b 0 with
 |none=>rw[D]at E;subst E;simp only[yg,yh,Option.isSome_none,Ca,Cb,go_sem];exact kA (aC:=[]) ⟨rfl,rfl⟩ rfl rfl rfl
 |some np=>
 obtain⟨n,p0⟩:=np;rw[D]at E;dsimp only at E;obtain⟨V,a,S,w⟩:=gw (λc K=>(T c K).1) D;by_cases B:(many:Int)<n;case pos=>rw[if_pos B]at E;subst E;simp only[yg,yh,Option.isSome_some,decide_eq_true (show n>(many:Int)from B),Ca,Cb,go_sem];exact kA (aC:=[]) ⟨rfl,rfl⟩ rfl rfl rfl
 rw[if_neg B]at E;simp only[yg,yh,Option.isSome_some,decide_eq_false (show¬n>(many:Int)from B),go_sem];refine aQ [9,10,11,13,26,27] [.t 13 3 1] (λp:List Int×Nat=>p.1.length<=n.toNat/\p.2<=b.length/\(sJ b (n.toNat-p.1.length) p.2).map (λr=>(p.1++r.1,r.2))=q) (λp=>n.toNat-p.1.length) (glS b n) ([],p0) ?_ ⟨zero_le _,w,?_⟩ ?_
 .simp only[glS,gL,Int.natCast_zero,go_sem]
 .dsimp only;rw[<- E];simp
 clear D S w E;rintro⟨xs,p⟩ ⟨hk,O,A⟩;dsimp only at hk O A;generalize j:xs.length=k at *;simp only[glS,j,go_sem];cases X:decide ((k:Int)<n)with
 |false=>
  have J:k=n.toNat:=by have:=of_decide_eq_false X;omega
  rw[show n.toNat-k=0 by omega]at A;have:q=some (xs,p):=by rw[<- A];simp[sJ]
  subst this;simp only[Ca,Cb,j,go_sem];refine ue [] [3] [] (vs:=[.sl 3 k 1 0 k,.int p,.bool true]) rfl rfl (by decide) (by simp) (by simp) ?_ ?_ ?_
  .simp [St.obj,an,bQ,bP]
  .simp [aP]
  .simp [aR,aB,ay,bQ,St.obj,an,LV.int,LV.bool]
 |true=>
 have J:k<n.toNat:=by have:=of_decide_eq_true X;omega
 rw[show n.toNat-k=(n.toNat-(k+1))+1 by omega]at A;unfold sJ at A;simp only[go_sem];cases D:fK b p with
 |none=>
  rw[D]at A;have:q=none:=by rw[<- A];rfl
  subst this;refine dz [0,1,2] (Bb b T Z p (by omega) _ D p true) rfl ?_ (by decide) ?_ ?_ (by simp) ?_<;>simp only[ay,aB,go_sem,yg,yh,Option.isSome_none]
  simp only[Ca,Cb,go_sem];exact kA (aC:=[]) ⟨rfl,rfl⟩ rfl rfl rfl
 |some np=>
 obtain⟨x,m⟩:=np;rw[D]at A;dsimp only at A;refine dz [0,1,2] (Bb b T Z p (by omega) _ D p true) rfl ?_ (by decide) ?_ ?_ (by simp) ?_<;>simp only[ay,aB,go_sem,yg,yh,Option.isSome_some]
 obtain⟨hx0,o,h,v⟩:=gw (λc K=>(T c K).1) D;have e:∀row:List DV,(gL xs++[row]).length*8<=70368744177664:=λrow=>by simp[gL,j];omega
 have y:(gL xs).length=k:=by simp[gL,j]
 have u:k=(gL xs).length/\(gL xs++[[DV.val (Value.int .i64 x)]]).length*8<=70368744177664:=⟨y.symm,e _⟩;rw[if_pos u];simp only[y,go_sem];have U:(xs++[x]).length=k+1:=by simp[j]
 refine aY (xs++[x],m) ?_ ?_ ⟨by dsimp only;omega,v,?_⟩ (by dsimp only;omega)
 .simp only[go_sem]
 .simp only[glS,U,gL,map_append,wS k,go_sem]
 .dsimp only;rw[U,<- A];cases sJ b (n.toNat-(k+1)) m with
  |none=>rfl
  |some r=>simp
def zy(T:∀c∈b,0<=c/\c<=255)(Z:b.length<=1000000)(many:Nat)(H:many<=1000)(xs:List Int)(e:Nat)(h:uX b 0 many=some (xs,e)):aS G 84 [ak b,.int 0,.int many] [] (.cZ [.sl 0 xs.length 1 0 xs.length,.int e,.bool true]) [.dat 3 1 (gL xs)]:=mO b T Z many H _ h
def pT(T:∀c∈b,0<=c/\c<=255)(Z:b.length<=1000000)(many:Nat)(H:many<=1000)(h:uX b 0 many=none):aS G 84 [ak b,.int 0,.int many] [] (.cZ [.d (.val (.slice none 0 0)),.int 0,.bool false]) []:=mO b T Z many H _ h
end
section
open Go.RowKit
def pM:Value:=.iface 162 (.agg #[])
def sC:aS G 85 [.bool true] [] (.cZ []) []:=by refine iL func85 trivial
def mU:xF prog G 85 [.bool false] [] pM []:=by
 refine⟨by decide,λJ ι w vs S K=>?_⟩;obtain⟨c⟩:=vs
 match c,K with
 |[v],⟨B,_⟩=>
 have B:v=.bool false:=B;subst B
 go_enter func85,ntmps85
 have O:∀(u:TypeId) (v:Value) (w:World),(Instr.panic (.iface u v)).run prog w=.halt (.panic (.iface u v)) w:=λ_ _ _=>rfl
 go_wp2
 exact⟨rfl,rfl,aO.stay S trivial⟩
end
section
variable(xs:List Int)(k:Nat)(most:Int)
def aev:=qx f132
def ad9:bM prog f132=some aev:=by kernel_rfl
def aea:=qx f131
def ZZ:bM prog f131=some aea:=by kernel_rfl
def PL(l:List Int):List (List DV):=l.map λx=>[i64 x]
def Bd(xs:List Int)(k:Nat):List ah:=[.box 169 [.sl 1 xs.length 1 k (xs.length-k)],.dat 3 1 (PL xs)]
attribute [local go_sem] Bd PL
attribute [local simp] Bd
def BY(hk:k<xs.length)(a:xs.length<=1000000):aS G 132 [.ptr 0 0] (Bd xs k) (.int (xs.getD k 0)) (Bd xs (k+1)):=by
 have V:=aG (f:=λx:Int=>[i64 x]) 0 hk;generalize xs.getD k 0=x at *;refine eY func132 (by decide) ad9 rfl rfl rfl rfl ?_;simp only[aev,go_sem];have U:decide (((xs.length-k:Nat):Int)>0)=true:=decide_eq_true (by omega);simp only[U,go_sem];refine a_ sC ?_;have h2:0<xs.length-k:=by omega
 have B:xs.length-k-1=xs.length-(k+1):=by omega
 have y:1<=xs.length-k/\xs.length-k<=xs.length-k:=by omega
 simp only[h2,V,if_pos y,B,go_sem]
def cR:xF prog G 132 [.ptr 0 0] (Bd xs xs.length) pM (Bd xs xs.length):=by
 refine ME func132 (by decide) ad9 rfl rfl ?_ ?_
 .simp only[go_sem]
 have U:decide (((xs.length-xs.length:Nat):Int)>0)=false:=decide_eq_false (by omega);simp only[aev,U,go_sem];refine qb mU rfl rfl rfl ?_;simp only[ur,DB,go_sem]
def uK(hk:k<xs.length)(a:xs.length<=1000000)(H:xs.getD k 0<=most):aS G 131 [.ptr 0 0,.int most] (Bd xs k) (.int (xs.getD k 0)) (Bd xs (k+1)):=by refine eY func131 (by decide) ZZ rfl rfl rfl rfl ?_;simp only[aea,go_sem];refine bJ [0,1] (BY xs k hk a) ?_;rw[decide_eq_true H];refine a_ sC trivial
def WW(hk:k<xs.length)(a:xs.length<=1000000)(H:¬xs.getD k 0<=most):xF prog G 131 [.ptr 0 0,.int most] (Bd xs k) pM (Bd xs (k+1)):=by
 refine ME func131 (by decide) ZZ rfl rfl ?_ ?_
 .simp only[go_sem]
 simp only[aea,go_sem];refine bJ [0,1] (BY xs k hk a) ?_;rw[decide_eq_false H];refine qb mU rfl rfl rfl ?_;simp only[ur,DB,go_sem]
def qw:xF prog G 131 [.ptr 0 0,.int most] (Bd xs xs.length) pM (Bd xs xs.length):=by
 refine ME func131 (by decide) ZZ rfl rfl ?_ ?_
 .simp only[go_sem]
 simp only[aea,go_sem];refine iG [0,1] (cR xs) trivial
end
section
variable(xs:List Int)
def ae0:=qx f86
def aet:bM prog f86=some ae0:=by kernel_rfl
attribute [local go_sem] Bd PL
attribute [local simp] Bd
def lX:LV:=.d (.val (.slice none 0 0))
attribute [local go_sem] lX
def abn(xs:List Int):Except Nat aa->St->Prop
 |.ok s=>Rj [.cn 2 6] 2 (.agg [.sl 2 s.nodes.length 5 0 s.nodes.length,.sl 3 s.jobs.length 12 0 s.jobs.length,.int s.goal,.int s.prior,.int s.mode,.int s.term]) (Bd xs xs.length++[.dat 92 5 (s.nodes.map cv),.dat 54 12 (s.jobs.map dH)])
 |.error _=>λ_=>False
def LC(xs:List Int):Except Nat aa->List It
 |.ok _=>[]
 |.error k=>[.pn (DB pM (Bd xs k))]
def VY(xs:List Int)(n:Int)(ns:List bh):St:=⟨[(0,.ptr 0 0),(2,.ptr 2 0),(3,.ptr 3 0),(7,.int n),(8,.int ns.length)],
 [some (.box 169 [.sl 1 xs.length 1 (1+3*ns.length) (xs.length-(1+3*ns.length))]),some (.dat 3 1 (PL xs)),some (.box 34 [lX,lX,.int 0,.int 0,.int 0,.int 0]),
  some (.box 34 [.sl 4 ns.length 5 0 ns.length,lX,.int 0,.int 0,.int 0,.int 0]),some (.dat 92 5 (ns.map cv))]⟩
def VZ(xs:List Int)(m:Int)(ns:List bh)(p0:Nat)(b:List bT):St:=⟨[(0,.ptr 0 0),(2,.ptr 2 0),(3,.ptr 3 0),(33,.int m),(34,.int b.length)],
 [some (.box 169 [.sl 1 xs.length 1 (p0+12*b.length) (xs.length-(p0+12*b.length))]),some (.dat 3 1 (PL xs)),some (.box 34 [lX,lX,.int 0,.int 0,.int 0,.int 0]),
  some (.box 34 [.sl 4 ns.length 5 0 ns.length,.sl 5 b.length 12 0 b.length,.int 0,.int 0,.int 0,.int 0]),some (.dat 92 5 (ns.map cv)),some (.dat 54 12 (b.map dH))]⟩
def AZ(adX:xs.length<=400)(h0:∀x∈xs,0<=x):W prog G (abn xs (mw xs)) (.c ae0.2.1::LC xs (mw xs)) ⟨dU 0 [.ptr 0 0],(Bd xs 0).map some⟩:=by
 generalize E:mw xs=q;replace E:mw (xs.drop 0)=q:=E;simp only[ae0,go_sem];cases Z:xs.drop 0 with
 |nil=>have hk:=cQ Z (zero_le _);rw[Z,mw]at E;subst E;simp only[LC];have K:=qw (G:=G) xs 6;rw[<- hk]at K;refine iG [0,1] K trivial
 |cons n l=>
 obtain⟨hk,S,hd⟩:=cC Z;have hn0:0<=n:=h0 n (by rw[<- S];simp[getD,hk]);rw[Z,mw]at E;split at E;case isFalse hn6=>subst E;simp only[LC];have K:=WW (G:=G) xs 0 6 hk (by omega) (by rw[S];exact hn6);refine iG [0,1] K trivial
 rename_i hn6;have K:=uK (G:=G) xs 0 6 hk (by omega) (by rw[S];exact hn6);rw[S]at K;refine bJ [0,1] K ?_;refine aQ [0,2,3,7,8] [.b 3 0 92 5] (λns:List bh=>ns.length<=n.toNat/\1+3*ns.length<=xs.length/\je (n.toNat-ns.length) ns (1+3*ns.length) (xs.drop (1+3*ns.length))=q) (λns=>n.toNat-ns.length) (VY xs n) [] ?_ ⟨zero_le _,by rw[length_nil];omega,by rw[<- hd]at E;exact E⟩ ?_
 .simp only[VY,go_sem,Int.natCast_zero,Nat.mul_zero]
 clear K E hd Z S;rintro ns ⟨hi,O,A⟩;generalize B:ns.length=i at *;simp only[VY,B,go_sem];cases X:decide ((i:Int)<n)with
 |false=>
  have D:i=n.toNat:=by have:=of_decide_eq_false X;omega
  rw[show n.toNat-i=0 by omega,zc]at A;simp only[go_sem];cases Z:xs.drop (1+3*i)with
  |nil=>have hk:=cQ Z O;rw[Z]at A;replace A:Except.error (1+3*i)=q:=A;subst A;simp only[LC];have K:=qw (G:=G) xs 24;rw[<- hk]at K;refine iG [0,1] K trivial
  |cons m l=>
  obtain⟨hk,S,hd⟩:=cC Z;have hm0:0<=m:=h0 m (by rw[<- S];simp[getD,hk]);rw[Z]at A;by_cases Xn:m<=24;case neg=>rw[KM _ _ _ _ Xn]at A;subst A;simp only[LC];have K:=WW (G:=G) xs (1+3*i) 24 hk (by omega) (by rw[S];exact Xn);refine iG [0,1] K trivial
  have K:=uK (G:=G) xs (1+3*i) 24 hk (by omega) (by rw[S];exact Xn);rw[S]at K;rw[Ee _ _ _ _ Xn]at A;refine bJ [0,1] K ?_;generalize hp0:1+3*i+1=p0 at *;have adS:ns.length<=6:=by omega
  refine aQ [0,2,3,33,34] [.b 3 1 54 12] (λjs:List bT=>js.length<=m.toNat/\p0+12*js.length<=xs.length/\sw ns (m.toNat-js.length) js (p0+12*js.length) (xs.drop (p0+12*js.length))=q) (λjs=>m.toNat-js.length) (VZ xs m ns p0) [] ?_ ⟨zero_le _,by rw[length_nil];omega,by rw[<- hd]at A;exact A⟩ ?_
  .simp only[VZ,B,go_sem,Int.natCast_zero,Nat.mul_zero]
  clear K A hd Z S hk hp0;rintro js ⟨hjm,hP,A⟩;generalize T:js.length=k at *;generalize hPk:p0+12*k=P at *;simp only[VZ,T,hPk,B,go_sem];cases ab2:decide ((k:Int)<m)with
  |false=>
   have hkm:k=m.toNat:=by have:=of_decide_eq_false ab2;omega
   rw[show m.toNat-k=0 by omega,Bp]at A;simp only[go_sem];generalize zq:xs.drop P=l0 at A;cases h:l0 with
   |nil=>
    have hk:=cQ (zq.trans h) (by omega);have a:Except.error (P+0)=q:=by rw[<- A,h];rfl
    rw[show P+0=P from rfl]at a;subst a;simp only[LC];have K:=cR (G:=G) xs;rw[<- hk]at K;refine iG [0,1] K trivial
   |cons x0 l1=>
   obtain⟨H,hx0,hd1⟩:=cC (zq.trans h);have K:=BY (G:=G) xs P H (by omega);rw[hx0]at K;refine bJ [0,1] K ?_;clear K;cases t:l1 with
   |nil=>
    have hk:=cQ (hd1.trans t) (by omega);have a:Except.error (P+1)=q:=by rw[<- A,h,t];rfl
    rw[show P+1=P+1 from rfl]at a;subst a;simp only[LC];have K:=cR (G:=G) xs;rw[<- hk]at K;refine iG [0,1] K trivial
   |cons x1 l2=>
   obtain⟨w,hx1,hd2⟩:=cC (hd1.trans t);have K:=BY (G:=G) xs (P+1) w (by omega);rw[hx1]at K;refine bJ [0,1] K ?_;clear K;cases r:l2 with
   |nil=>
    have hk:=cQ (hd2.trans r) (by omega);have a:Except.error (P+2)=q:=by rw[<- A,h,t,r];rfl
    rw[show P+2=P+1+1 from rfl]at a;subst a;simp only[LC];have K:=cR (G:=G) xs;rw[<- hk]at K;refine iG [0,1] K trivial
   |cons x2 l3=>
   obtain⟨J,hx2,hd3⟩:=cC (hd2.trans r);have K:=BY (G:=G) xs (P+1+1) J (by omega);rw[hx2]at K;refine bJ [0,1] K ?_;clear K;cases Dn:l3 with
   |nil=>
    have hk:=cQ (hd3.trans Dn) (by omega);have a:Except.error (P+3)=q:=by rw[<- A,h,t,r,Dn];rfl
    rw[show P+3=P+1+1+1 from rfl]at a;subst a;simp only[LC];have K:=cR (G:=G) xs;rw[<- hk]at K;refine iG [0,1] K trivial
   |cons x3 l4=>
   obtain⟨Hs,hx3,Xt⟩:=cC (hd3.trans Dn);have K:=BY (G:=G) xs (P+1+1+1) Hs (by omega);rw[hx3]at K;refine bJ [0,1] K ?_;clear K;cases JQ:l4 with
   |cons y l5=>
    obtain⟨hk4,_,_⟩:=cC (Xt.trans JQ);have a:Except.error (P+4)=q:=by rw[<- A,h,t,r,Dn,JQ];rfl
    rw[show P+4=P+1+1+1+1 from rfl]at a;subst a;simp only[LC];have U:(((xs.length-(P+1+1+1+1):Nat):Int)==0)=false:=by simp;omega
    simp only[U,go_sem];refine qb mU rfl rfl rfl ?_;simp only[ur,TE,DB,go_sem]
   |nil=>
   have hk:=cQ (Xt.trans JQ) (by omega);have a:Except.ok ⟨ns,js,x0,x1,x2,x3⟩=q:=by rw[<- A,h,t,r,Dn,JQ];rfl
   subst a;simp only[LC];have U:(((xs.length-(P+1+1+1+1):Nat):Int)==0)=true:=by simp;omega
   simp only[U,go_sem];refine a_ sC ?_;simp only[abn];clear hPk;rw[hk];subst B T;refine ue [] [0,1,4,5] [] rfl rfl (by decide) (by simp) (by simp) rfl rfl ?_;show aB _ _ _ (.agg [.sl 4 ns.length 5 0 ns.length,.sl 5 js.length 12 0 js.length,.int x0,.int x1,.int x2,.int x3]) _;simp[aB,ay,LV.int]
  |true=>
  have hkm:k<m.toNat:=by have:=of_decide_eq_true ab2;omega
  rw[show m.toNat-k=(m.toNat-(k+1))+1 by omega]at A;simp only[go_sem];generalize zq:xs.drop P=l0 at A;cases h:l0 with
  |nil=>
   have hk:=cQ (zq.trans h) (by omega);have a:Except.error (P+0)=q:=by rw[<- A,h];rfl
   rw[show P+0=P from rfl]at a;subst a;simp only[LC];have K:=cR (G:=G) xs;rw[<- hk]at K;refine iG [0,1] K trivial
  |cons x0 l1=>
  obtain⟨H,hx0,hd1⟩:=cC (zq.trans h);have K:=BY (G:=G) xs P H (by omega);rw[hx0]at K;refine bJ [0,1] K ?_;clear K;cases t:l1 with
  |nil=>
   have hk:=cQ (hd1.trans t) (by omega);have a:Except.error (P+1)=q:=by rw[<- A,h,t];rfl
   rw[show P+1=P+1 from rfl]at a;subst a;simp only[LC];have K:=cR (G:=G) xs;rw[<- hk]at K;refine iG [0,1] K trivial
  |cons x1 l2=>
  obtain⟨w,hx1,hd2⟩:=cC (hd1.trans t);have K:=BY (G:=G) xs (P+1) w (by omega);rw[hx1]at K;refine bJ [0,1] K ?_;clear K;cases r:l2 with
  |nil=>
   have hk:=cQ (hd2.trans r) (by omega);have a:Except.error (P+2)=q:=by rw[<- A,h,t,r];rfl
   rw[show P+2=P+1+1 from rfl]at a;subst a;simp only[LC];have K:=cR (G:=G) xs;rw[<- hk]at K;refine iG [0,1] K trivial
  |cons x2 l3=>
  obtain⟨J,hx2,hd3⟩:=cC (hd2.trans r);have K:=BY (G:=G) xs (P+1+1) J (by omega);rw[hx2]at K;refine bJ [0,1] K ?_;clear K;cases Dn:l3 with
  |nil=>
   have hk:=cQ (hd3.trans Dn) (by omega);have a:Except.error (P+3)=q:=by rw[<- A,h,t,r,Dn];rfl
   rw[show P+3=P+1+1+1 from rfl]at a;subst a;simp only[LC];have K:=cR (G:=G) xs;rw[<- hk]at K;refine iG [0,1] K trivial
  |cons x3 l4=>
  obtain⟨Hs,hx3,Xt⟩:=cC (hd3.trans Dn);have K:=BY (G:=G) xs (P+1+1+1) Hs (by omega);rw[hx3]at K;refine bJ [0,1] K ?_;clear K;cases JQ:l4 with
  |nil=>
   have hk:=cQ (Xt.trans JQ) (by omega);have a:Except.error (P+4)=q:=by rw[<- A,h,t,r,Dn,JQ];rfl
   rw[show P+4=P+1+1+1+1 from rfl]at a;subst a;simp only[LC];have K:=cR (G:=G) xs;rw[<- hk]at K;refine iG [0,1] K trivial
  |cons x4 l5=>
  obtain⟨hk4,hx4,hd5⟩:=cC (Xt.trans JQ);have K:=BY (G:=G) xs (P+1+1+1+1) hk4 (by omega);rw[hx4]at K;refine bJ [0,1] K ?_;clear K;cases Ve:l5 with
  |nil=>
   have hk:=cQ (hd5.trans Ve) (by omega);have a:Except.error (P+5)=q:=by rw[<- A,h,t,r,Dn,JQ,Ve];rfl
   rw[show P+5=P+1+1+1+1+1 from rfl]at a;subst a;simp only[LC];have K:=cR (G:=G) xs;rw[<- hk]at K;refine iG [0,1] K trivial
  |cons x5 l6=>
  obtain⟨hk5,hx5,hd6⟩:=cC (hd5.trans Ve);have K:=BY (G:=G) xs (P+1+1+1+1+1) hk5 (by omega);rw[hx5]at K;refine bJ [0,1] K ?_;clear K;cases JP:l6 with
  |nil=>
   have hk:=cQ (hd6.trans JP) (by omega);have a:Except.error (P+6)=q:=by rw[<- A,h,t,r,Dn,JQ,Ve,JP];rfl
   rw[show P+6=P+1+1+1+1+1+1 from rfl]at a;subst a;simp only[LC];have K:=cR (G:=G) xs;rw[<- hk]at K;refine iG [0,1] K trivial
  |cons x6 l7=>
  obtain⟨hk6,hx6,hd7⟩:=cC (hd6.trans JP);have K:=BY (G:=G) xs (P+1+1+1+1+1+1) hk6 (by omega);rw[hx6]at K;refine bJ [0,1] K ?_;clear K;cases YV:l7 with
  |nil=>
   have hk:=cQ (hd7.trans YV) (by omega);have a:Except.error (P+7)=q:=by rw[<- A,h,t,r,Dn,JQ,Ve,JP,YV];rfl
   rw[show P+7=P+1+1+1+1+1+1+1 from rfl]at a;subst a;simp only[LC];have K:=cR (G:=G) xs;rw[<- hk]at K;refine iG [0,1] K trivial
  |cons x7 l8=>
  obtain⟨hk7,hx7,hd8⟩:=cC (hd7.trans YV);have K:=BY (G:=G) xs (P+1+1+1+1+1+1+1) hk7 (by omega);rw[hx7]at K;refine bJ [0,1] K ?_;clear K;cases YU:l8 with
  |nil=>
   have hk:=cQ (hd8.trans YU) (by omega);have a:Except.error (P+8)=q:=by rw[<- A,h,t,r,Dn,JQ,Ve,JP,YV,YU];rfl
   rw[show P+8=P+1+1+1+1+1+1+1+1 from rfl]at a;subst a;simp only[LC];have K:=cR (G:=G) xs;rw[<- hk]at K;refine iG [0,1] K trivial
  |cons x8 l9=>
  obtain⟨hk8,hx8,hd9⟩:=cC (hd8.trans YU);have K:=BY (G:=G) xs (P+1+1+1+1+1+1+1+1) hk8 (by omega);rw[hx8]at K;refine bJ [0,1] K ?_;clear K;cases hl9:l9 with
  |nil=>
   have hk:=cQ (hd9.trans hl9) (by omega);have a:Except.error (P+9)=q:=by rw[<- A,h,t,r,Dn,JQ,Ve,JP,YV,YU,hl9];rfl
   rw[show P+9=P+1+1+1+1+1+1+1+1+1 from rfl]at a;subst a;simp only[LC];have K:=cR (G:=G) xs;rw[<- hk]at K;refine iG [0,1] K trivial
  |cons x9 l10=>
  obtain⟨hk9,hx9,ace⟩:=cC (hd9.trans hl9);have K:=BY (G:=G) xs (P+1+1+1+1+1+1+1+1+1) hk9 (by omega);rw[hx9]at K;refine bJ [0,1] K ?_;clear K;cases TS:l10 with
  |nil=>
   have hk:=cQ (ace.trans TS) (by omega);have a:Except.error (P+10)=q:=by rw[<- A,h,t,r,Dn,JQ,Ve,JP,YV,YU,hl9,TS];rfl
   rw[show P+10=P+1+1+1+1+1+1+1+1+1+1 from rfl]at a;subst a;simp only[LC];have K:=cR (G:=G) xs;rw[<- hk]at K;refine iG [0,1] K trivial
  |cons x10 l11=>
  obtain⟨ade,acY,acd⟩:=cC (ace.trans TS);have K:=BY (G:=G) xs (P+1+1+1+1+1+1+1+1+1+1) ade (by omega);rw[acY]at K;refine bJ [0,1] K ?_;clear K;cases Xo:l11 with
  |nil=>
   have hk:=cQ (acd.trans Xo) (by omega);have a:Except.error (P+11)=q:=by rw[<- A,h,t,r,Dn,JQ,Ve,JP,YV,YU,hl9,TS,Xo];rfl
   rw[show P+11=P+1+1+1+1+1+1+1+1+1+1+1 from rfl]at a;subst a;simp only[LC];have K:=cR (G:=G) xs;rw[<- hk]at K;refine iG [0,1] K trivial
  |cons x11 l12=>
  obtain⟨adb,acX,adp⟩:=cC (acd.trans Xo);have K:=BY (G:=G) xs (P+1+1+1+1+1+1+1+1+1+1+1) adb (by omega);rw[acX]at K;refine bJ [0,1] K ?_;clear K;rw[h,t,r,Dn,JQ,Ve,JP,YV,YU,hl9,TS,Xo,Bq]at A;have e:∀row:List DV,(map dH js++[row]).length*96<=70368744177664:=λrow=>by simp only[length_append,length_map,length_cons,length_nil];omega
  simp only[T,if_pos (e _),go_sem];refine aY (js++[⟨x0,x1,x2,x3,x4,x5,x6,x7,x8,x9,x10,x11⟩]) ?_ ?_ ⟨by simp;omega,by simp;omega,?_⟩ (by simp;omega)
  .simp only[go_sem]
  .simp only[VZ,length_append,map_append,T,B,wS k,show p0+12*(k+1)=P+1+1+1+1+1+1+1+1+1+1+1+1 by omega,go_sem]
  .simp only[length_append,length_cons,length_nil,T,show p0+12*(k+(0+1))=P+1+1+1+1+1+1+1+1+1+1+1+1 by omega];rw[adp];exact A
 |true=>
 have D:i<n.toNat:=by have:=of_decide_eq_true X;omega
 rw[show n.toNat-i=(n.toNat-(i+1))+1 by omega]at A;simp only[go_sem];cases Z:xs.drop (1+3*i)with
 |nil=>have hk:=cQ Z O;rw[Z,KL]at A;subst A;simp only[LC];have K:=qw (G:=G) xs 7;rw[<- hk]at K;refine iG [0,1] K trivial
 |cons f l=>
 obtain⟨hk,S,hd⟩:=cC Z;have hf0:0<=f:=h0 f (by rw[<- S];simp[getD,hk]);rw[Z]at A;by_cases hf7:f<=7;case neg=>rw[KK _ _ _ _ _ hf7]at A;subst A;simp only[LC];have K:=WW (G:=G) xs (1+3*i) 7 hk (by omega) (by rw[S];exact hf7);refine iG [0,1] K trivial
 have K:=uK (G:=G) xs (1+3*i) 7 hk (by omega) (by rw[S];exact hf7);rw[S]at K;refine bJ [0,1] K ?_;cases r:l with
 |nil=>
  rw[r]at A hd;have J:=cQ hd (by omega);rw[SA _ _ _ _ hf7]at A;subst A;simp only[LC];have hT2:=cR (G:=G) xs;rw[<- J]at hT2;refine Fh [0,1] hT2 rfl (by simp only[ay,aB,go_sem]) (by decide) (by simp only[go_sem]) (by simp only[go_sem]) (by simp) ?_ ?_
  .simp only[ur,TE,DB,go_sem]
  ·(repeat' (first|rw[zO (by decide)]|rw[Fg (by decide)]))<;>rw[CM]<;>exact⟨by decide,by decide⟩
 |cons v l2=>
 rw[r]at A hd;obtain⟨J,hx2,hd2⟩:=cC hd;have hT2:=BY (G:=G) xs (1+3*i+1) J (by omega);rw[hx2]at hT2;refine fV [0,1] hT2 ?_;cases Dn:l2 with
 |nil=>
  rw[Dn]at A hd2;have Hs:=cQ hd2 (by omega);rw[Pc _ _ _ _ _ hf7]at A;subst A;simp only[LC];have hT3:=cR (G:=G) xs;rw[<- Hs]at hT3;refine Fh [0,1] hT3 rfl (by simp only[ay,aB,go_sem]) (by decide) (by simp only[go_sem]) (by simp only[go_sem]) (by simp) ?_ ?_
  .simp only[ur,TE,DB,go_sem]
  ·(repeat' (first|rw[zO (by decide)]|rw[Fg (by decide)]))<;>rw[CM]<;>exact⟨by decide,by decide⟩
 |cons j l3=>
 rw[Dn]at A hd2;obtain⟨Hs,hx3,hd3⟩:=cC hd2;have hT3:=BY (G:=G) xs (1+3*i+1+1) Hs (by omega);rw[hx3]at hT3;rw[Bo _ _ _ _ _ _ _ hf7]at A;refine fV [0,1] hT3 ?_;have o:(rF .i64 f 1 !=0)=hasB f 0/\(rF .i64 f 2 !=0)=hasB f 1/\(rF .i64 f 4 !=0)=hasB f 2:=by
  have:f=0\/f=1\/f=2\/f=3\/f=4\/f=5\/f=6\/f=7:=by omega
  rcases this with rfl|rfl|rfl|rfl|rfl|rfl|rfl|rfl<;>decide
 obtain⟨o,V,u⟩:=o;have e:∀row:List DV,(map cv ns++[row]).length*24<=70368744177664:=λrow=>by simp only[length_append,length_map,length_cons,length_nil];omega
 simp only[B,o,V,u,if_pos (e _),go_sem];refine aD (by decide) ?_;simp only[go_sem];refine aY (ns++[El f v j]) ?_ ?_ ⟨by simp;omega,by simp;omega,?_⟩ (by simp;omega)
 .simp only[go_sem]
 .simp only[VY,length_append,map_append,El,B,wS i,show 1+3*(i+1)=1+3*i+1+1+1 by omega,go_sem]
 .simp only[length_append,length_cons,length_nil,B,show 1+3*(i+(0+1))=1+3*i+1+1+1 by omega];rw[hd3];exact A
def OC(s:aa)(a:xs.length<=400)(h0:∀x∈xs,0<=x)(h:mw xs=.ok s):aS G 86 [.ptr 0 0] (Bd xs 0) (.agg [.sl 2 s.nodes.length 5 0 s.nodes.length,.sl 3 s.jobs.length 12 0 s.jobs.length,.int s.goal,.int s.prior,.int s.mode,.int s.term]) (Bd xs xs.length++[.dat 92 5 (s.nodes.map cv),.dat 54 12 (s.jobs.map dH)]):=by have S:=AZ (G:=G) xs a h0;rw[h]at S;exact G9 func86 (by decide) aet rfl S
def Kv(k:Nat)(a:xs.length<=400)(h0:∀x∈xs,0<=x)(h:mw xs=.error k):xF prog G 86 [.ptr 0 0] (Bd xs 0) pM (Bd xs k):=by have S:=AZ (G:=G) xs a h0;rw[h]at S;exact ME func86 (by decide) aet rfl rfl (by simp only[go_sem]) S
end
section
open Go.RowKit
def mX:Value:=.agg #[.slice none 0 0,.slice none 0 0,.int .i64 0,.int .i64 0,.int .i64 0,.int .i64 0]
def DF{P:Program}{T type:TypeId}{n:Nat}{x y:Operand}{pos:String}{after:Array Edge}{g:Option (Nat×Bool)}{a:Act}{w:World}{K:Act->World->Prop}{Q:Exit->Act->World->Prop}{b off:Nat}{v:Value}(S:a.eval x=.pointer (some ⟨b,off,none⟩))(E:a.eval y=v)(hs:dY P T=some n)(X:w.there b off v.cells.size)(Z:v.cells.size=n)(U:∀u∈v.cells.toList,u.oneCell'=true)
  (D:K a (w.setCells b off v.cells.toList)):Oper.wp P ⟨none,.store T x y,type,pos,after,g⟩ a w K Q:=by
 have hr:=A7 (P:=P) (w:=w) hs X Z U;refine(cL.Ao (post:=λ_ w'=>w'=w.setCells b off v.cells.toList) ?_ rfl) K Q (λc w' h=>by subst h;exact D);show(execOp a.eval _).run P w=_;simp only[execOp,S,E,run_bind,hr,Result.andThen_ok,run_pure]
theorem Md(ps q:Value)(w:World) :
  CallsD prog 83 #[ps,q] .returning w λe m w'=>e=.returned (.tuple #[])/\m=.returning/\w'=w:=by
 refine callsD_of_wpS func83 rfl λc cs y=>?_
 apply wpS_seq;apply wpS_region;simp[wpOpsS,go_sem,recoverD,y,ntmps83,Exit.thenS];apply wpS_seq;apply wpS_region;simp[wpOpsS,go_sem,recoverD,y,ntmps83,Exit.thenS];refine wpS_cond (t:=false) (by simp[Act.eval,Array.replicate]) ?_;simp only[Bool.false_eq_true,if_false];refine wpS_of_wp (wp_skip ?_);cases c;simp_all[bodyPostS,results,results83]
def QH(bs bk:Nat)(C:Array Value)(b:Value)(w:World)(hs:w.heap[bs]? = some (.cells C 34 (0,0)))(O:C.size=6)(hk:w.heap[bk]? = some (.cells #[b] 4 (0,0)))(a:bs≠bk) :
  CallsD prog 83 #[.pointer (some ⟨bs,0,none⟩),.pointer (some ⟨bk,0,none⟩)] (.panicking [{ v:=pM,recovered:=false }]) w λe m w'=>e=.returned (.tuple #[])/\m=.panicking [{ v:=pM,recovered:=true }]/\w'=((w.alloc (.cells #[] 162)).setCells bs 0 mX.cells.toList).setCells bk 0 [.bool false]:=by
 refine callsD_of_wpS func83 rfl λc cs y=>?_
 apply wpS_seq;apply wpS_region;simp[wpOpsS,go_sem,recoverD,y,pM,ntmps83,Exit.thenS];apply wpS_seq;apply wpS_region;simp[wpOpsS,go_sem,recoverD,y,pM,ntmps83,Exit.thenS];refine wpS_cond (t:=true) (by simp[Act.eval,Array.replicate]) ?_;simp only[if_true];refine wpS_of_wp ?_;simp only[Array.replicate_succ,Array.replicate_zero,push_toArray,append_toArray,size_toArray,sA];have H:∀w,(Instr.typeAssert (Value.iface 162 (.agg #[])) 20 162 true).run prog w=.ok (.tuple #[.agg #[],.bool true]) w:=λ_=>by rfl
 apply wp_seq;refine wp_mono (Q:=λe x w'=>e=.normal/\w'=w.alloc (.cells #[] 162)/\x.tmps[0]? = some (.pointer (some ⟨bs,0,none⟩))/\x.tmps[1]? = some (.pointer (some ⟨bk,0,none⟩))/\x.tmps.size=17/\x.defers=[]) ?_ ?_
 .go_wp2
 rintro e ⟨tmps,ds⟩ w' ⟨rfl,rfl,q,o,V,X⟩;dsimp only at q o V X;subst X;simp only[Exit.then];refine wp_region_list ?_;have S:bs<w.heap.size:=(Array.getElem?_eq_some_iff.1 hs).1;have r:bk<w.heap.size:=(Array.getElem?_eq_some_iff.1 hk).1;have E:(w.alloc (.cells #[] 162)).heap[bs]? = some (.cells C 34 (0,0)):=(Below.heap_alloc _ _ _ S).trans hs;have A:(w.alloc (.cells #[] 162)).heap[bk]? = some (.cells #[b] 4 (0,0)):=(Below.heap_alloc _ _ _ r).trans hk;generalize U:w.alloc (.cells #[] 162)=k at *;refine wpList_plain rfl (λK D=>?_);refine cL.of_run (v:=mX) (w':=k) (post:=λZ w'=>Z=mX/\w'=k) (by simp[execOp,mX,go_sem]) ⟨rfl,rfl⟩ K _ (λZ w' h=>?_);obtain⟨rfl,rfl⟩:=h;refine D _ _ ?_;refine wpList_plain rfl (λK D=>?_);refine DF (n:=6) (b:=bs) (off:=0) (v:=mX) ?_ ?_ (by kernel_rfl) ?_ rfl ?_ (D _ _ ?_)
 .simp [Act.eval,Act.put,q]
 .simp [Act.eval,Act.put,V]
 .intro j hj;have hj:j<6:=hj;simp[World.cell?,World.frozen?,E,O,hj]
 .intro u y;simp[mX,Value.cells]at y;rcases y with rfl|rfl<;>rfl
 clear D;refine wpList_plain rfl (λK D=>?_);refine DF (n:=1) (b:=bk) (off:=0) (v:=.bool false) ?_ rfl (by kernel_rfl) ?_ rfl ?_ (D _ _ ?_)
 .simp [Act.eval,Act.put,o]
 .intro j hj;have hj:j<1:=hj;obtain rfl:j=0:=by omega
  have B:(w'.setCells bs 0 mX.cells.toList).heap[bk]? = some (.cells #[b] 4 (0,0)):=(heap_setCells_other (λe=>a e.symm) _ _ _).trans A;simp[World.cell?,World.frozen?,B]
 .intro u y;simp[Value.cells]at y;subst y;rfl
 refine wpList_nil ?_;refine⟨rfl,_,rfl,.tuple #[],results_none rfl _ _ _,rfl,rfl,rfl⟩
end
section
attribute [local go_sem] Bd PL ak ax u8 gL lX
attribute [local simp] Bd
def acm:C:=(.mj [⟨(some 2),.box 23 (.t 0),none,[]⟩,⟨(some 4),.new 34 [(.val (.slice none 0 0)),(.val (.slice none 0 0)),(.val (.int .i64 0)),(.val (.int .i64 0)),(.val (.int .i64 0)),(.val (.int .i64 0))],none,[]⟩,⟨(some 5),.new 4 [(.val (.bool false))],none,[]⟩])
def aaA:C:=(.seq (.mj [⟨(some 11),.mv (.t 1),none,[]⟩,⟨(some 12),.call (.f 84) [(.t 11),(.c (.val (.int .i64 0))),(.c (.val (.int .i64 400)))],none,[]⟩,⟨(some 10),.mv (.t 12),none,[]⟩,⟨(some 13),.ext (.t 10) 0,none,[]⟩,⟨(some 14),.ext (.t 10) 1,none,[]⟩,⟨(some 15),.ext (.t 10) 2,none,[]⟩,⟨(some 6),.mv (.t 13),none,[]⟩,⟨(some 7),.mv (.t 14),none,[]⟩,⟨(some 8),.mv (.t 15),none,[]⟩])
 (.seq (.mj [⟨(some 16),.mv (.t 8),none,[]⟩,⟨(some 17),.mv (.t 16),none,[]⟩,⟨(some 18),.mv (.t 7),(some (17,true)),[]⟩,⟨(some 19),.mv (.t 1),(some (17,true)),[]⟩,⟨(some 20),.len (.t 19),(some (17,true)),[]⟩,⟨(some 21),.bin .eql (.t 18) (.t 20),(some (17,true)),[]⟩,⟨(some 22),.pick (.t 17) (.t 21) (.c (.val (.bool false))),none,[]⟩,⟨(some 23),.call (.f 85) [(.t 22)],none,[]⟩])
 (.seq (.mj [⟨(some 24),.mv (.t 6),none,[]⟩,⟨(some 25),.build [(.val (.slice none 0 0))] [(0,1,(.t 24))],none,[]⟩,⟨(some 26),.box 169 (.t 25),none,[]⟩,⟨(some 27),.call (.f 86) [(.t 26)],none,[]⟩,⟨none,.st 6 (.t 4) (.t 27),none,[]⟩])
 (.seq (.mj [⟨(some 28),.Es 9 (.t 2),none,[]⟩,⟨(some 29),.Es 6 (.t 4),none,[]⟩,⟨(some 30),.call (.f 87) [(.t 28),(.t 29)],none,[]⟩,⟨(some 31),.call (.f 85) [(.t 30)],none,[]⟩])
 (.seq (.mj [⟨(some 32),.Es 6 (.t 4),none,[]⟩,⟨none,.st 6 (.t 4) (.t 32),none,[]⟩,⟨none,.st 1 (.t 5) (.c (.val (.bool true))),none,[]⟩])
 .ret)))))
def TZ:Option Code->Code
 |some (.seq a _)=>a
 |_=>.skip
def KD:Option Code->Code
 |some (.seq _ (.seq _ b))=>b
 |_=>.skip
def XF:dW prog 33 (TZ f41.body)=some acm:=by kernel_rfl
def XE:dW prog 33 (KD f41.body)=some aaA:=by kernel_rfl
def IS(c:av)(b:List Int):Option aa->St->Prop
 |some s=>λst=>st.get 4=.ptr 1 0/\st.get 5=.ptr 2 0/\st.obj 2=.live (.box 4 [.bool true])/\∃cells Z,st.obj 1=.live (.box 34 cells)/\cells.length=6/\(∀z∈Z,∃et e rows,st.obj z=.live (.dat et e rows)\/st.obj z=.live (.k9 et e rows))/\aB st.obj [] Z (.agg cells) (aU s)
 |none=>λ_=>False
def LJ(st:St):Prop:=st.get TE=.d (.val pM)/\st.get 4=.ptr 1 0/\st.get 5=.ptr 2 0/\∃cells x,st.obj 1=.live (.box 34 cells)/\cells.length=6/\st.obj 2=.live (.box 4 [x])
def sM:Option aa->List It
 |some _=>[]
 |none=>[.pn LJ]
def PY(c:av)(b:List Int):St:=⟨[(5,.ptr 2 0),(4,.ptr 1 0),(2,.ptr 0 0),(0,eD c),(1,ak b)],[some (.box 23 [.int c.nodes,.int c.bA,.int c.cF,.int c.gQ,.int c.bD,.int c.ej,.int c.deadline,.int c.room,.int c.fT]),some (.box 34 [lX,lX,.int 0,.int 0,.int 0,.int 0]),some (.box 4 [.bool false])]⟩
def Uf(c:av)(b:List Int)(T:∀x∈b,0<=x/\x<=255)(Z:b.length<=1000000):W prog G (IS c b (uY c b)) (.c aaA::sM (uY c b)) (PY c b):=by
 generalize E:uY c b=q;unfold uY at E;simp only[aaA,PY,go_sem];cases u:uX b 0 400 with
 |none=>rw[u]at E;subst E;refine jB (pT b T Z 400 (by decide) u) rfl rfl rfl rfl ?_;simp only[sM,go_sem];refine qb mU rfl rfl rfl ?_;simp only[ur,TE,LJ,go_sem];exact⟨_,_,rfl,rfl,rfl⟩
 |some p=>
 obtain⟨xs,e⟩:=p;obtain⟨U,h2,B⟩:=IK (λc K=>(T c K).1) u;rw[u]at E;dsimp only at E;refine acj (zy b T Z 400 (by decide) xs e u) ?_;by_cases v:e=b.length;case neg=>
  rw[if_neg v]at E;subst E;have r:((e:Int)==(b.length:Int))=false:=by simp;omega
  simp only[sM,r,go_sem];refine qb mU rfl rfl rfl ?_;simp only[ur,TE,LJ,go_sem];exact⟨_,_,rfl,rfl,rfl⟩
 rw[if_pos v]at E;have r:((e:Int)==(b.length:Int))=true:=by simp;omega
 simp only[r,go_sem];refine a_ sC ?_;have h0:∀x∈xs,0<=x:=λx S=>(h2 x S).1
 cases O:mw xs with
 |error k=>rw[O]at E;dsimp only at E;subst E;simp only[sM];refine JF [4,3] (Kv xs k U h0 O) rfl (by simp only[ay,aB,go_sem]) (by decide) (by simp only[Nat.sub_zero,go_sem]) (by simp only[go_sem]) (by simp) ?_;simp only[ur,TE,LJ,go_sem];exact⟨_,_,rfl,rfl,rfl⟩
 |ok s=>
 rw[O]at E;dsimp only at E;refine dz [4,3] (OC xs s U h0 O) rfl (by simp only[ay,aB,go_sem]) (by decide) (by simp only[Nat.sub_zero,go_sem]) (by simp only[go_sem]) (by simp) ?_;simp only[go_sem];have a:take s.nodes.length (s.nodes.map cv)=s.nodes.map cv:=take_of_length_le (by simp);have h:take s.jobs.length (s.jobs.map dH)=s.jobs.map dH:=take_of_length_le (by simp);refine xD [5,6] (DZ c s) rfl (by simp[ay,aB,bz,an,a,h,go_sem]) (by simp[an]) rfl rfl ?_;simp only[go_sem];cases hr:jE c s with
 |false=>rw[hr,if_neg (by decide)]at E;subst E;simp only[sM,go_sem];refine qb mU rfl rfl rfl ?_;simp only[ur,TE,LJ,go_sem];exact⟨_,_,rfl,rfl,rfl⟩
 |true=>
  rw[hr,if_pos rfl]at E;subst E;refine a_ sC ?_;simp only[IS];refine⟨rfl,rfl,rfl,_,[5,6],rfl,rfl,?_,?_⟩
  .intro z j;simp only[mem_cons,not_mem_nil,or_false]at j;rcases j with rfl|rfl
   .exact ⟨_,_,_,.inl rfl⟩
   .exact ⟨_,_,_,.inl rfl⟩
  .simp [St.obj,an,aB,ay,bz,LV.int,aU,bH,qM,take_of_length_le]
end
section
open Go.RowKit
def lY(q:Option aa):LV:=.cZ [aU (q.getD yS),.bool q.isSome]
def Yr:Option Code->Code
 |some (.seq _ (.seq b _))=>b
 |_=>.skip
def Ui:f41.body=some (.seq (TZ f41.body) (.seq (Yr f41.body) (KD f41.body))):=by kernel_rfl
def Uh:jA prog f41.results.toList=some [.cn 4 6,.c1 5]:=by kernel_rfl
def XB{Q:Exit->Act->World->Prop}{a:Act}{w:World}(hs:a.tmps.size=33){bs bk:Nat}(y:a.tmps.getD 4 Go.undef=.pointer (some ⟨bs,0,none⟩))(A:a.tmps.getD 5 Go.undef=.pointer (some ⟨bk,0,none⟩))
  (B:∀x:Act,x.defers = { target:=.fn (.func 83) #[.pointer (some ⟨bs,0,none⟩),.pointer (some ⟨bk,0,none⟩)],args:=#[] }::a.defers->x.tmps.size=33->(∀t,t≠9->x.tmps.getD t Go.undef=a.tmps.getD t Go.undef)->Q .normal x w):(Yr f41.body).wp prog Q a w:=by
 refine wp_region_list ?_;refine wpList_plain rfl (λK D=>?_);have n:a.eval (.tmp 4)=.pointer (some ⟨bs,0,none⟩):=by rw[<- y];simp[Act.eval,Array.getD_eq_getD_getElem?]
 have S:a.eval (.tmp 5)=.pointer (some ⟨bk,0,none⟩):=by rw[<- A];simp[Act.eval,Array.getD_eq_getD_getElem?]
 refine cL.of_run (v:=.func (.func 83) #[] #[.pointer (some ⟨bs,0,none⟩),.pointer (some ⟨bk,0,none⟩)]) (w':=w) (post:=λZ w'=>Z=.func (.func 83) #[] #[.pointer (some ⟨bs,0,none⟩),.pointer (some ⟨bk,0,none⟩)]/\w'=w) ?_ ⟨rfl,rfl⟩ K _ (λZ w' h=>?_)
 .simp [execOp,go_sem,n,S];exact⟨by simpa[Array.getD_eq_getD_getElem?]using y,by simpa[Array.getD_eq_getD_getElem?]using A⟩
 obtain⟨rfl,rfl⟩:=h;refine D _ _ ?_;clear D;refine wpList_plain rfl (λK D=>?_);have H:(a.put (some 9) (.func (.func 83) #[] #[.pointer (some ⟨bs,0,none⟩),.pointer (some ⟨bk,0,none⟩)])).eval (.tmp 9)=.func (.func 83) #[] #[.pointer (some ⟨bs,0,none⟩),.pointer (some ⟨bk,0,none⟩)]:=by simp[Act.eval,Act.put,hs]
 unfold Oper.wp;have r:(execOp (a.put (some 9) (.func (.func 83) #[] #[.pointer (some ⟨bs,0,none⟩),.pointer (some ⟨bk,0,none⟩)])).eval
   { dst:=none,op:=Op.defer { callee:=Callee.value (Operand.tmp 9),args:=#[],argTypes:=#[] },type:=0,pos:= "image.go:88",after:=#[{ on:=0,ground:=Ground.data }],guard:=none }).run prog w'=.ok (.defer { target:=.fn (.func 83) #[.pointer (some ⟨bs,0,none⟩),.pointer (some ⟨bk,0,none⟩)],args:=#[] }) w':=by
  simp[execOp,resolve,Deferred.ofValue,H,hs,go_sem]
 rw[r,Oper.upon_defer];refine D _ _ (wpList_nil (B _ rfl ?_ ?_))
 .simp [Act.put,hs]
 .intro t u;simp[Act.put,Array.getD_eq_getD_getElem?,Array.getElem?_setIfInBounds_ne (λe=>u e.symm)]
def dG(bs bk:Nat):Deferred:={ target:=.fn (.func 83) #[.pointer (some ⟨bs,0,none⟩),.pointer (some ⟨bk,0,none⟩)],args:=#[] }
def ES(bs bk:Nat)(w:World):(invoke (.fn (.func 83) #[.pointer (some ⟨bs,0,none⟩),.pointer (some ⟨bk,0,none⟩)]) #[]).run prog w=.ok (.enter 83 #[.pointer (some ⟨bs,0,none⟩),.pointer (some ⟨bk,0,none⟩)]) w:=by simp only[invoke];exact jM (by decide) _ w
def Ns(c:av)(b:List Int)(T:∀x∈b,0<=x/\x<=255)(u:b.length<=1000000):aS G 41 [eD c,ak b] [] (lY (uY c b)) []:=by
 refine⟨by decide,λJ0 bR w0 vs S0 hargs=>?_⟩;refine calls_of_wp_defers func41 Ui ?_;refine Ob XF (s1:=PY c b) ?_ (xz (n:=33) (ai:=[]) S0 hargs (show 2<=33 by decide)) (λa w D=>?_)
 .simp [acm,vc,mY,Fw,G6,de,PY,eD,dU,bF.ev,St.get,aN,St.app,di,CY,LV.cells,lX,LV.int,LV.bool]
 obtain⟨J1,C9,S1,E1⟩:=D.ex;obtain⟨bs,Y0,y⟩:=S1.env 4;obtain⟨bk,hbk,A⟩:=S1.env 5;refine wp_seq (XB S1.size y A (λE hd hs X=>?_));show(KD f41.body).wp prog _ E w;have adx:mF G (Dk.plain [dG bs bk] false) 33 (PY c b).obj J1 C9 w (PY c b) E w:=by
  refine⟨J1,C9,⟨S1.store,λt=>?_,hs,by rw[hd,S1.defers.none rfl];exact Marks.plain (Dk.plain [dG bs bk] false) w,trivial,S1.lim⟩,Ext.refl ..⟩;by_cases h9:t=9
  .subst h9;trivial
  .rw [X t h9];exact S1.env t
 have S:=Uf (G:=G) c b T u;generalize uY c b=q at *;refine xM (fin:=IS c b q) (pan:=λs=>q=none/\LJ s) XE ?_ adx ?_ ?_
 .simp only[W]at S;refine mG _ _ ⟨W prog G (IS c b q) (sM q),λi s'=>Wx prog G (IS c b q) i (sM q) s',IS c b q,uP,none⟩ ⟨IS c b q,λi s=>i=TE/\(q=none/\LJ s),IS c b q,uP,none⟩ (λs h=>?_) (λi s h=>?_) (λs h=>h) S
  .cases q with
   |none=>simpa only[sM,W]using h
   |some s0=>simpa only[sM,W]using h
  .cases q with
   |none=>
    simp only[sM,Wx]at h;split at h
    .rename_i hi;exact⟨hi,rfl,h⟩
    .exact h.elim
   |some s0=>simp only[sM,Wx]at h
 .intro s k w2 Ud m;obtain⟨J2,Fk,S2,E2⟩:=Ud.ex;cases q with
  |none=>exact m.elim
  |some s0=>
  obtain⟨g4,g5,YQ,cells,Z,NM,JP,hZ,H⟩:=m;have O:Leaves prog f41 k.tmps (λe w'=>∃v,e=Ending.returned v/\aO G (an (map some [])) (an (map some [])) J0 bR w0 (lY (some s0)) v w') k.defers .returning w2:=by
   rw[S2.defers.none rfl];refine leaves_cons (by simp) (ES bs bk w2) ((Md _ _ w2).mono ?_);rintro e u' w' ⟨rfl,rfl,rfl⟩;obtain⟨v,hv1,Xk⟩:=Gx (r:=lY (some s0)) Z S2.store S2.env S0 (E1.trans E2) Uh (rs:=[.agg cells,.bool true]) (by
    have:take 6 cells=cells:=take_of_length_le (by omega);simp[gi.of,RV.of,g4,g5,NM,YQ,JP,this,LV.bool]) hZ (by
    simp[aR,lY,aB,ay,LV.bool];exact H)
   exact⟨v,hv1,v,rfl,Xk⟩
  exact⟨O,O⟩
 .rintro v s k w2 hd2 ⟨J2,Fk,S2,E2,adB⟩ ⟨rfl,K,g4,g5,cells,x,NM,JP,YQ⟩;have K:v=pM:=by simpa[lF,St.get,aN]using K
  subst K;have g4:s.get 4=.ptr 1 0:=by simpa[lF,St.get,aN,TE]using g4
  have g5:s.get 5=.ptr 2 0:=by simpa[lF,St.get,aN,TE]using g5
  have NM:s.obj 1=.live (.box 34 cells):=NM;have YQ:s.obj 2=.live (.box 4 [x]):=YQ;have hb1:Fk 1 0=some bs:=E2.ev.gu 1 0 bs Y0;have U:Fk 2 0=some bk:=E2.ev.gu 2 0 bk hbk;have r1:=S2.rep 1;rw[NM]at r1;obtain⟨⟨b1,C,k1,k2,k3⟩,_⟩:=r1;rw[hb1]at k1;cases k1;have r2:=S2.rep 2;rw[YQ]at r2;obtain⟨⟨b2,C2,m1,m2,m3⟩,_⟩:=r2;rw[U]at m1;cases m1;have hC:C.size=6:=by have:=k3.length;simp at this;omega
  obtain⟨C2⟩:=C2
  match C2,m3 with
  |[x2],_=>
  have J:bs≠bk:=λe=>by have:=S2.inj 1 2 bs (by rw[NM];exact hb1) (by rw[YQ,e];exact U);cases this
  have hlen:2<s.af.length:=JO YQ;obtain⟨J3,Rn,S3,_,E3⟩:=aO.box S2 (base:=s.af.length) (cD (Nat.le_refl _)) 162 [] #[] trivial;obtain⟨b1',j1,_,J4,ι4,S4,_,E4⟩:=aO.x_ S3 (o:=1) (et:=34) (cells:=cells) (cs:=[lX,lX,.int 0,.int 0,.int 0,.int 0]) (vs:=mX.cells.toList) (col:=0) (by rw[if_neg (by omega)];exact NM)
   (by simp[bx,cW,kz,mX,lX,LV.int,Value.cells,Value.oneCell']) (by simp[JP])
  have B:b1'=bs:=by have:=E3.ev.gu 1 0 bs hb1;rw[this]at j1;exact(Option.some.inj j1).symm
  subst B;obtain⟨b2',j2,_,J5,ι5,S5,_,E5⟩:=aO.x_ S4 (o:=2) (et:=4) (cells:=[x]) (cs:=[.bool false]) (vs:=[.bool false]) (col:=0) (by rw[if_neg (by omega),if_neg (by omega)];exact YQ)
   (by simp[bx,cW,kz,LV.bool,Value.oneCell']) (by simp)
  have V:b2'=bk:=by have:=E4.ev.gu 2 0 bk (E3.ev.gu 2 0 bk U);rw[this]at j2;exact(Option.some.inj j2).symm
  subst V;obtain⟨s3,hs3⟩:∃s3:St,s3=⟨s.env,((s.af++[some (ah.box 162 [])]).set 1 (some (ah.box 34 (splice cells 0 [lX,lX,.int 0,.int 0,.int 0,.int 0])))).set 2 (some (ah.box 4 (splice [x] 0 [.bool false])))⟩:=⟨_,rfl⟩;have rE:s3.obj=λo=>if o=2 then .live (.box 4 (splice [x] 0 [.bool false]))else if o=1 then .live (.box 34 (splice cells 0 [lX,lX,.int 0,.int 0,.int 0,.int 0]))else if o=s.af.length then .live (.box 162 [])else s.obj o:=by subst hs3;exact(HX (by simp;omega) _).trans (by rw[HX (by simp;omega),iQ];rfl)
  have S5':aA G J5 (((w2.alloc (.cells #[] 162)).setCells b1' 0 mX.cells.toList).setCells b2' 0 [.bool false]) ι5 s3.obj:=by rw[rE];exact S5
  have E5':=E5;rw[<- rE]at E5';have h6:splice cells 0 [lX,lX,.int 0,.int 0,.int 0,.int 0]=[lX,lX,.int 0,.int 0,.int 0,.int 0]:=by simp only[splice,List.take_zero,nil_append,length_cons,length_nil];rw[drop_eq_nil_of_le (by omega),append_nil]
  have q1:s3.obj 1=.live (.box 34 [lX,lX,.int 0,.int 0,.int 0,.int 0]):=by rw[rE,h6];rfl
  have q2:s3.obj 2=.live (.box 4 [.bool false]):=by rw[rE];rfl
  have p4:s3.get 4=.ptr 1 0:=by subst hs3;exact g4
  have p5:s3.get 5=.ptr 2 0:=by subst hs3;exact g5
  have adA:∀t,cW J5 (((w2.alloc (.cells #[] 162)).setCells b1' 0 mX.cells.toList).setCells b2' 0 [.bool false]) ι5 (s3.get t) (k.tmps.getD t Go.undef):=λt=>by
   have:s3.get t=s.get t:=by subst hs3;rfl
   rw[this];exact(((adB t).ev S2 E3.ev).ev S3 E4.ev).ev S4 E5.ev
  have O:Leaves prog f41 k.tmps (λe w'=>∃v,e=Ending.returned v/\aO G (an (map some [])) (an (map some [])) J0 bR w0 (lY none) v w') k.defers (.panicking [{ v:=pM,recovered:=false }]) w2:=by
   rw[hd2 rfl];refine leaves_cons (by simp) (ES _ _ w2) ((QH _ _ C x2 w2 k2 hC m2 J).mono ?_);rintro e u' w' ⟨rfl,rfl,rfl⟩;obtain⟨v,hv1,Xk⟩:=Gx (r:=lY none) [] S5' adA S0 ((((E1.trans E2).trans E3).trans E4).trans E5') Uh (rs:=[.agg [lX,lX,.int 0,.int 0,.int 0,.int 0],.bool false]) (by
    simp[gi.of,RV.of,p4,p5,q1,q2,LV.bool]) (λz j=>by cases j) (by
    simp[aR,lY,aB,ay,LV.bool,LV.int,yS,aU,lX,bH,qM])
   exact⟨v,hv1,v,rfl,Xk⟩
  exact O
end
section
attribute [local go_sem] gL ak
def FZ(kind:Int)(l:List Int):cr:=⟨kind,l.getD 0 0,l.getD 1 0,l.getD 2 0,l.getD 3 0,l.getD 4 0,l.getD 5 0⟩
def ZO(kind:Int)(l:List Int)(Z:l.length<=6):aS G 89 [.int kind,.d (.cM 1 (gL l))] [] (qD (FZ kind l)) []:=by
 refine iL func89 ?_
 match l,Z with
 |[],_=>simp only[FZ,flatten_cons,flatten_nil,go_sem];rfl
 |[a],_=>simp only[FZ,flatten_cons,flatten_nil,go_sem];rfl
 |[a,b],_=>simp only[FZ,flatten_cons,flatten_nil,go_sem];rfl
 |[a,b,c],_=>simp only[FZ,flatten_cons,flatten_nil,go_sem];rfl
 |[a,b,c,d],_=>simp only[FZ,flatten_cons,flatten_nil,go_sem];rfl
 |[a,b,c,d,e],_=>simp only[FZ,flatten_cons,flatten_nil,go_sem];rfl
 |[a,b,c,d,e,f],_=>simp only[FZ,flatten_cons,flatten_nil,go_sem];rfl
def fF(o:cr):List Int:=if eU o=true then g_ (o.kind::(cO o).take (fH o.kind))else[]
def wI(k:Int):fH k<=6:=by unfold fH;split<;>(try split)<;>(try split)<;>omega
def tw{o:cr}(h:eU o=true):1<=o.kind/\o.kind<=21:=by rw[wj,Bool.and_eq_true]at h;exact of_decide_eq_true h.1
def SG(o:cr):aS ck 158 [qD o] [] (ak (fF o)) []:=by
 refine uW func158 ?_;refine a_ (qC o) ?_;cases hr:eU o with
 |false=>
  have O:fF o=[]:=by unfold fF;rw[if_neg (by rw[hr];decide)]
  simp only[O,go_sem];exact zR rfl (by simp[aR,aB,ak,ax,St.get,aN])
 |true=>
 have hk:=tw hr;have O:fF o=g_ (o.kind::(cO o).take (fH o.kind)):=by unfold fF;rw[if_pos hr]
 simp only[go_sem];refine jB (MO o) rfl rfl rfl rfl ?_;have v:0<=o.kind:=by omega
 have w:o.kind.toNat<22:=by omega
 have H:=wI o.kind;simp only[cO,vo,v,w,Nat.mul_one,Gb o.kind hk,go_sem];have a:(cO o).length=6:=rfl;generalize fH o.kind=m at *;have u:m=0\/m=1\/m=2\/m=3\/m=4\/m=5\/m=6:=by omega
 rcases u with rfl|rfl|rfl|rfl|rfl|rfl|rfl
 .simp only[Nat.le_refl,zero_le,Nat.sub_zero,length_append,go_sem];rw[O];refine nX [2] (kj (o.kind::(cO o).take 0) (by simp[cO])) rfl (by simp[ay,aB,bz,an,cO,go_sem]) (by simp[an]) rfl ?_;simp only[go_sem];refine aD (by decide) ?_;simp only[go_sem];exact kA (aC:=[]) ⟨rfl,rfl⟩ rfl rfl rfl
 .simp only[Nat.le_refl,zero_le,Nat.sub_zero,length_append,go_sem];rw[O];refine nX [2] (kj (o.kind::(cO o).take 1) (by simp[cO])) rfl (by simp[ay,aB,bz,an,cO,go_sem]) (by simp[an]) rfl ?_;simp only[go_sem];refine aD (by decide) ?_;simp only[go_sem];exact kA (aC:=[]) ⟨rfl,rfl⟩ rfl rfl rfl
 .simp only[Nat.le_refl,zero_le,Nat.sub_zero,length_append,go_sem];rw[O];refine nX [2] (kj (o.kind::(cO o).take 2) (by simp[cO])) rfl (by simp[ay,aB,bz,an,cO,go_sem]) (by simp[an]) rfl ?_;simp only[go_sem];refine aD (by decide) ?_;simp only[go_sem];exact kA (aC:=[]) ⟨rfl,rfl⟩ rfl rfl rfl
 .simp only[Nat.le_refl,zero_le,Nat.sub_zero,length_append,go_sem];rw[O];refine nX [2] (kj (o.kind::(cO o).take 3) (by simp[cO])) rfl (by simp[ay,aB,bz,an,cO,go_sem]) (by simp[an]) rfl ?_;simp only[go_sem];refine aD (by decide) ?_;simp only[go_sem];exact kA (aC:=[]) ⟨rfl,rfl⟩ rfl rfl rfl
 .simp only[Nat.le_refl,zero_le,Nat.sub_zero,length_append,go_sem];rw[O];refine nX [2] (kj (o.kind::(cO o).take 4) (by simp[cO])) rfl (by simp[ay,aB,bz,an,cO,go_sem]) (by simp[an]) rfl ?_;simp only[go_sem];refine aD (by decide) ?_;simp only[go_sem];exact kA (aC:=[]) ⟨rfl,rfl⟩ rfl rfl rfl
 .simp only[Nat.le_refl,zero_le,Nat.sub_zero,length_append,go_sem];rw[O];refine nX [2] (kj (o.kind::(cO o).take 5) (by simp[cO])) rfl (by simp[ay,aB,bz,an,cO,go_sem]) (by simp[an]) rfl ?_;simp only[go_sem];refine aD (by decide) ?_;simp only[go_sem];exact kA (aC:=[]) ⟨rfl,rfl⟩ rfl rfl rfl
 .simp only[Nat.le_refl,zero_le,Nat.sub_zero,length_append,go_sem];rw[O];refine nX [2] (kj (o.kind::(cO o).take 6) (by simp[cO])) rfl (by simp[ay,aB,bz,an,cO,go_sem]) (by simp[an]) rfl ?_;simp only[go_sem];refine aD (by decide) ?_;simp only[go_sem];exact kA (aC:=[]) ⟨rfl,rfl⟩ rfl rfl rfl
end
section
attribute [local go_sem] ak
def MU(q:Option cr):LV:=.cZ [qD (q.getD fW),.bool q.isSome]
def kindOk(k:Int):Bool:=decide (1<=k/\k<=21)
def Dr(b:List Int):Option cr:=match uX b 0 7 with
 |none=>none
 |some (xs,e)=>if e=b.length/\0<xs.length/\kindOk (xs.getD 0 0)=true/\xs.length=fH (xs.getD 0 0)+1/\eU (FZ (xs.getD 0 0) (xs.drop 1))=true then some (FZ (xs.getD 0 0) (xs.drop 1))else none
def WB(k:Int):((nameOf k).toList==(⟨#[]⟩:ByteArray).toList) = !kindOk k:=by
 by_cases h:1<=k/\k<=21
 .rw [En k h];unfold kindOk;rw[decide_eq_true h];rfl
 .rw [tA k h];unfold kindOk;rw[decide_eq_false h];decide +kernel
def HW(b:List Int)(T:∀c∈b,0<=c/\c<=255)(Z:b.length<=1000000):aS ck 42 [ak b] [] (MU (Dr b)) []:=by
 have J:(ax b).length=b.length:=by simp[ax]
 refine tW func42 ?_;generalize E:Dr b=q;unfold Dr at E;simp only[go_sem];cases u:uX b 0 7 with
 |none=>rw[u]at E;subst E;refine jB (mO b T Z 7 (by decide) none u) rfl rfl rfl rfl ?_;simp only[Ca,Cb,go_sem];exact kA (aC:=[]) ⟨rfl,rfl⟩ rfl rfl rfl
 |some xe=>
 obtain⟨xs,e⟩:=xe;obtain⟨U,h2,B⟩:=IK (λc K=>(T c K).1) u;rw[u]at E;dsimp only at E;refine tG (mO b T Z 7 (by decide) (some (xs,e)) u) rfl rfl rfl ?_;simp only[Ca,Cb,J,go_sem];by_cases v:e=b.length;case neg=>rw[if_neg (λh=>v h.1)]at E;subst E;simp only[show((e:Int) !=(b.length:Int))=true from bne_iff_ne.2 (by omega),go_sem];exact kA (aC:=[]) ⟨rfl,rfl⟩ rfl rfl rfl
 simp only[show((e:Int) !=(b.length:Int))=false by rw[v];simp,go_sem];by_cases h0:0<xs.length;case neg=>rw[if_neg (λh=>h0 h.2.1)]at E;subst E;simp only[show((xs.length:Int)==0)=true from beq_iff_eq.2 (by omega),go_sem];exact kA (aC:=[]) ⟨rfl,rfl⟩ rfl rfl rfl
 have V:=aG (f:=λn:Int=>[i64 n]) 0 h0;have O:=h2 (xs.getD 0 0) (by simp[getD,h0]);generalize S:xs.getD 0 0=x at *;have r:(gL xs)[0]? = some [DV.val (.int .i64 x)]:=V;have y:(gL xs).length=xs.length:=by simp[gL]
 simp only[show((xs.length:Int)==0)=false from beq_eq_false_iff_ne.2 (by omega),h0,r,y,go_sem];refine a_ (Ij x) ?_;simp only[WB,go_sem];cases hk:kindOk x with
 |false=>rw[if_neg (λh=>by rw[hk]at h;exact absurd h.2.2.1 (by decide))]at E;subst E;simp only[go_sem];exact kA (aC:=[]) ⟨rfl,rfl⟩ rfl rfl rfl
 |true=>
 have X:1<=x/\x<=21:=of_decide_eq_true hk;have A:0<=x:=by omega
 have a:x.toNat<22:=by omega
 have H:=wI x;have m:IntKind.i64.wrap ((fH x:Nat)+1:Int)=((fH x+1:Nat):Int):=by rw[aH (by omega) (by omega)];rfl
 simp only[h0,r,y,vo,A,a,Nat.mul_one,Gb x X,m,go_sem];by_cases hlen:xs.length=fH x+1;case neg=>rw[if_neg (λh=>hlen h.2.2.2.1)]at E;subst E;simp only[show((xs.length:Int) !=((fH x+1:Nat):Int))=true from bne_iff_ne.2 (by omega),go_sem];exact kA (aC:=[]) ⟨rfl,rfl⟩ rfl rfl rfl
 simp only[show((xs.length:Int) !=((fH x+1:Nat):Int))=false by rw[hlen];simp,h0,r,y,go_sem];rw[if_pos (show 1<=xs.length/\xs.length<=xs.length by omega)];have t:(xs.drop 1).length<=6:=by rw[length_drop];omega
 have k:take (xs.length-1) ((gL xs).drop 1)=gL (xs.drop 1):=by rw[take_of_length_le (by rw[length_drop,y];omega)];simp only[gL,map_drop]
 have D:take (xs.length-1) (gL xs).tail=gL xs.tail:=by rw[<- drop_one,<- drop_one];exact k
 have w:1+(xs.length-1)<=xs.length:=by omega
 simp only[go_sem];refine xE [1] (ZO x (xs.drop 1) t) rfl (by simp[ay,aB,bz,an,D,y,w,go_sem]) (by simp[an]) rfl rfl ?_;simp only[go_sem];rw[show(if e=b.length/\0<xs.length/\kindOk x=true/\xs.length=fH x+1/\eU (FZ x (xs.drop 1))=true then some (FZ x (xs.drop 1))else none)=if eU (FZ x (xs.drop 1))=true then some (FZ x (xs.drop 1))else none by
  by_cases j:eU (FZ x (xs.drop 1))=true
  .rw [if_pos ⟨v,h0,hk,hlen,j⟩,if_pos j]
  .rw [if_neg (λh=>j h.2.2.2.2),if_neg j]]at E
 generalize FZ x (xs.drop 1)=o at *;refine aD (by decide) ?_;simp only[go_sem];refine a_ (qC o) ?_;cases hr:eU o with
 |false=>rw[if_neg (by rw[hr];decide)]at E;subst E;simp only[go_sem];exact kA (aC:=[]) ⟨rfl,rfl⟩ rfl rfl rfl
 |true=>rw[if_pos hr]at E;subst E;simp only[go_sem];exact kA (aC:=[]) ⟨rfl,rfl⟩ rfl rfl rfl
end
section
variable{c:av}{a:Int}
def TA{s:aa}(h:bU c s)(X:1<=a/\a<=s.jobs.length):∃k:Nat,a=k+1/\(a-1).toNat=k/\k<s.jobs.length/\eH s a=dO s k:=
 ⟨(a-1).toNat,by omega,rfl,by omega,rfl⟩
def M7{s:aa}(X:0<=a/\a<s.nodes.length):∃i:Nat,a=i/\a.toNat=i/\i<s.nodes.length/\dm s a=ei s i:=
 ⟨a.toNat,by omega,rfl,by omega,rfl⟩
def NG{s:aa}(h:bU c s){k:Nat}(hk:k<s.jobs.length):0<=(dO s k).nodes/\(dO s k).nodes<64:=(vV ((eG c s).2 h)).bits hk
end
section
variable{k:Nat}{c:av}{a:Int}
def Ba{s:aa}(p:Int):eA s ((k:Int)+1) p = { s with nodes:=s.nodes.mapIdx (lets (k+1)),jobs:=s.jobs.set k { dO s k with phase:=p,nodes:=0,since:=0,til:=0 } }:=by
 have:((k:Int)+1-1).toNat=k:=by omega
 unfold eA eH dO;rw[this]
def FL{s:aa}(X:(a-1).toNat=k){j':bT}(q:oN c s k j' s.nodes):Step c s (gJ s a j'):=by unfold gJ;rw[X];exact .aM q
def th{s:aa}{i:Nat}(X:a.toNat=i){n':bh}(q:xH s i n'):Step c s (lP s a n'):=by unfold lP;rw[X];exact .node q
def Lc(m b:Int)(H:0<=m/\m<64)(T:0<=b/\b<6)(x:hasB m b.toNat=true):0<=oB m b/\many (oB m b)=many m-1/\oB m b<=m/\∀i:Nat,i<6->hasB (oB m b) i=(hasB m i&&decide (i≠b.toNat)):=by
 obtain⟨m,rfl⟩:=eq_ofNat_of_zero_le H.1;obtain⟨b,rfl⟩:=eq_ofNat_of_zero_le T.1;have:∀m:Nat,m<64->∀b:Nat,b<6->hasB (m:Int) b=true->0<=oB (m:Int) b/\many (oB (m:Int) b)=many m-1/\oB (m:Int) b<=m/\∀i:Nat,i<6->hasB (oB (m:Int) b) i=(hasB (m:Int) i&&decide (i≠b)):=by decide +kernel
 exact this m (by omega) b (by omega) x
section
variable {c:av} {s:aa} (h:bU c s)
include h
theorem u9(hk:k<s.jobs.length)(j':bT)(num:yR c j')(fixed:j'.queue=(dO s k).queue/\j'.prio=(dO s k).prio/\j'.min=(dO s k).min/\j'.max=(dO s k).max/\j'.work=(dO s k).work/\j'.pin=(dO s k).pin)
  (grow:(dO s k).inc<=j'.inc/\(dO s k).epoch<=j'.epoch) (ended:(dO s k).phase≠4) (D:j'.nodes=(dO s k).nodes) (O:eT j'.phase=eT (dO s k).phase)
  (E:j'.phase=3->(dO s k).phase=3\/dg s.jobs (dO s k).queue<c.cF):oN c s k j' s.nodes:=by
 refine⟨hk,num,fixed,grow,ended,rfl,λi hi=>⟨rfl,rfl,rfl,rfl⟩,λt=>?_,λt=>?_,λi hi=>?_,λi q hi E J=>Iff.rfl,h.aM,λi hi h0=>⟨h.up i hi h0,?_⟩,E⟩
 .rw [O]at t;obtain⟨a,b,d,u,e,f⟩:=h.oW k hk t;obtain⟨m,x,j,f4,o,n⟩:=fixed;refine⟨by rw[D];exact a,by rw[D];exact b,by rw[D,j,f4];exact d,u,by rw[n];exact e,by rw[D];exact f⟩
 .rw [O]at t;rw[D];exact h.idle k hk t
 .rw [D];exact h.link i k hi hk
 .cases H:(ei s i).bw with
  |false=>rfl
  |true=>exact absurd (h.bw i hi H).2.2 h0
theorem vW(hk:k<s.jobs.length){p:Int}(O:p=0\/p=4)(ended:(dO s k).phase≠4) :
  oN c s k { dO s k with phase:=p,nodes:=0,since:=0,til:=0 } (s.nodes.mapIdx (lets (k+1))):=by
 have hj:=h.num k hk;have V:∀i,i<s.nodes.length->(s.nodes.mapIdx (lets (k+1))).getD i aq=lets (k+1) i (ei s i):=λi hi=>oC _ _ _ _ hi
 have t:eT p=false:=by rcases O with rfl|rfl<;>rfl
 refine⟨hk,⟨hj.asked,by dsimp only;omega,hj.inc,by dsimp only;omega,by dsimp only;omega,hj.epoch⟩,⟨rfl,rfl,rfl,rfl,rfl,rfl⟩,⟨Int.le_refl _,Int.le_refl _⟩,ended,by simp,λi hi=>?_,λX=>?_,λ_=>rfl,λi hi=>?_,λi q hi E a=>?_,λi hi=>?_,λi hi h0=>?_,λX=>?_⟩
 .rw [V i hi];unfold lets;split<;>exact⟨rfl,rfl,rfl,rfl⟩
 .dsimp only at X;rw[t]at X;cases X
 .dsimp only;rw[V i hi,sI];unfold lets;split
  .simp;omega
  .rename_i a;simp[a]
 .rw [V i hi];unfold lets;split
  .rename_i v;dsimp only;omega
  .rfl
 .rw [V i hi];have:=h.aM i hi;unfold lets;split
  .dsimp only;omega
  .exact this
 .rw [V i hi]at h0;unfold lets at h0;split at h0
  .exact absurd rfl h0
  .refine ⟨h.up i hi h0,?_⟩;cases H:(ei s i).bw with
   |false=>rfl
   |true=>exact absurd (h.bw i hi H).2.2 h0
 .dsimp only at X;omega
theorem qv(hk:k<s.jobs.length){p:Int}(O:p=0\/p=4)(ended:(dO s k).phase≠4):Step c s (eA s ((k:Int)+1) p):=by rw[Ba];exact .aM (vW h hk O ended)
theorem PO(hk:k<s.jobs.length){b:Int}(h0:(dO s k).phase=0)(A:oE s.nodes (dO s k) b nN=true)(hi:(dO s k).inc<1000000) :
  oN c s k { dO s k with phase:=1,inc:=(dO s k).inc+1,nodes:=b } (s.nodes.mapIdx (iz b (k+1))):=by
 have hj:=h.num k hk;have B:∀k,k<s.nodes.length->1<=(s.nodes.getD k aq).version:=λk hk=>(h.rK k hk).1
 obtain⟨m,x,u,j,f4⟩:=(EN _ _ _ _ B).1 A;have V:∀i,i<s.nodes.length->(s.nodes.mapIdx (iz b (k+1))).getD i aq=iz b (k+1) i (ei s i):=λi hi=>oC _ _ _ _ hi
 have e:∀i,i<s.nodes.length->hasB b i=true->(ei s i).up=true/\(ei s i).bw=false/\(ei s i).aM=0:=λi hi T=>by have:=(f4 i hi T).1;unfold nN at this;simp only[Bool.and_eq_true,decide_eq_true_eq,Bool.not_eq_true']at this;exact⟨this.1.1.1,this.1.2,this.2⟩
 have Z:(dO s k).nodes=0:=h.idle k hk (by rw[h0];rfl);have n:∀i,i<s.nodes.length->(ei s i).aM≠k+1:=λi hi v=>by have:=(h.link i k hi hk).2 v;rw[Z,sI]at this;cases this
 refine⟨hk,⟨hj.asked,by dsimp only;omega,by have:=hj.inc;dsimp only;omega,hj.since,hj.til,by have:=hj.epoch;dsimp only;omega⟩,⟨rfl,rfl,rfl,rfl,rfl,rfl⟩,⟨by dsimp only;omega,Int.le_refl _⟩,by omega,by simp,λi hi=>?_,λ_=>⟨m.1,m.2,x,u,j,λi hi T=>(f4 i hi T).2⟩,λX=>by simp[eT]at X,λi hi=>?_,λi q hi E a=>?_,λi hi=>?_,λi hi h0=>?_,λX=>by dsimp only at X;omega⟩
 .rw [V i hi];unfold iz;split<;>exact⟨rfl,rfl,rfl,rfl⟩
 .rw [V i hi];have:=n i hi;unfold iz;dsimp only;split
  .rename_i T;simp[T]
  .rename_i T;simp[T,this]
 .rw [V i hi];unfold iz;split
  .rename_i T;have:=(e i hi T).2.2;dsimp only;omega
  .rfl
 .rw [V i hi];have:=h.aM i hi;unfold iz;split
  .dsimp only;omega
  .exact this
 .rw [V i hi]at h0;unfold iz at h0;split at h0
  .rename_i T;have:=e i hi T;exact⟨this.1,this.2.1⟩
  .refine ⟨h.up i hi h0,?_⟩;cases H:(ei s i).bw with
   |false=>rfl
   |true=>exact absurd (h.bw i hi H).2.2 h0
theorem Hw{b:Nat}(hk:k<s.jobs.length)(T:b<s.nodes.length)(h2:(dO s k).phase=2)(hj:(ei s b).aM=k+1)(H:(dO s k).min<many (dO s k).nodes) :
  oN c s k { dO s k with nodes:=oB (dO s k).nodes b } (s.nodes.set b { ei s b with aM:=0 }):=by
 have j:=h.num k hk;have B:=h.len;have v:=NG h hk;have x:=(h.link b k T hk).2 hj;obtain⟨w,m,O,A⟩:=Lc (dO s k).nodes b v (by omega) x;have V:∀i,(s.nodes.set b { ei s b with aM:=0 }).getD i aq=if i=b then{ ei s b with aM:=0 }else ei s i:=λi=>Cf _ _ _ _ _ T
 have t:=h.oW k hk (by rw[h2];rfl);refine⟨hk,⟨j.asked,j.phase,j.inc,j.since,j.til,j.epoch⟩,⟨rfl,rfl,rfl,rfl,rfl,rfl⟩,⟨Int.le_refl _,Int.le_refl _⟩,by omega,by simp,λi hi=>?_,λ_=>?_,λX=>?_,λi hi=>?_,λi q hi E J=>?_,λi hi=>?_,λi hi h0=>?_,λX=>by dsimp only at X;omega⟩
 .rw [V i];split
  .rename_i e;subst e;exact⟨rfl,rfl,rfl,rfl⟩
  .exact ⟨rfl,rfl,rfl,rfl⟩
 .obtain ⟨a,D,d,u,e,f⟩:=t;refine⟨w,by dsimp only;omega,by dsimp only;omega,u,e,λi hi r=>f i hi ?_⟩;dsimp only at r;rw[A i (by omega)]at r;simp only[Bool.and_eq_true]at r;exact r.1
 .dsimp only at X;rw[h2]at X;cases X
 .rw [V i];dsimp only;rw[A i (by omega)];have:=h.link i k hi hk;split
  .rename_i e;subst e;simp;omega
  .rename_i e;simp[e,this]
 .rw [V i];split
  .rename_i e;subst e;dsimp only;omega
  .rfl
 .rw [V i];have:=h.aM i hi;split
  .dsimp only;omega
  .exact this
 .rw [V i]at h0;split at h0
  .exact absurd rfl h0
  .refine ⟨h.up i hi h0,?_⟩;cases H:(ei s i).bw with
   |false=>rfl
   |true=>exact absurd (h.bw i hi H).2.2 h0
end
end
section
variable{c:av}
def AE{n lo hi:Int}(h:¬bN n lo hi=false):lo<=n/\n<=hi:=bf (by simpa using h)
def Pp{s:aa}(h:bU c s):1<=gA s/\gA s<=9:=by
 unfold gA;split
 .exact h.prior
 .exact h.goal
def kV{s:aa}(h:bU c s){i:Nat}(hi:i<s.nodes.length):(1<=(ei s i).version/\(ei s i).version<=9)/\(0<=(ei s i).aM/\(ei s i).aM<=s.jobs.length)/\((ei s i).bw=true->(ei s i).up=true/\(ei s i).cU=true/\(ei s i).aM=0)/\((ei s i).aM≠0->(ei s i).up=true):=
 ⟨h.rK i hi,h.aM i hi,h.bw i hi,h.up i hi⟩
def Qt{s:aa}(h:bU c s){o:cr}(j:eU o=true)(hj:Li o.kind=true->1<=o.a/\o.a<=s.jobs.length)(D:BC o.kind=true->o.a<s.nodes.length):(bW c s o).2=0->Step c s (bW c s o).1:=by
 obtain⟨hkk,hka,hkb⟩:=ym j;have r:=h.jobs;have m:=h.len;have hk:o.kind=1\/o.kind=2\/o.kind=3\/o.kind=4\/o.kind=5\/o.kind=6\/o.kind=7\/o.kind=8\/o.kind=9\/o.kind=10\/o.kind=11\/o.kind=12\/o.kind=13\/o.kind=14\/o.kind=15\/o.kind=16\/o.kind=17\/o.kind=18\/o.kind=19\/o.kind=20\/o.kind=21:=by omega
 have J:Li o.kind=true->∃k:Nat,o.a=k+1/\(o.a-1).toNat=k/\k<s.jobs.length/\eH s o.a=dO s k/\yR c (dO s k):=λE=>by obtain⟨k,K,T,U,v⟩:=TA h (hj E);exact⟨k,K,T,U,v,h.num k U⟩
 have N:BC o.kind=true->∃i:Nat,o.a=i/\o.a.toNat=i/\i<s.nodes.length/\dm s o.a=ei s i:=λE=>M7 ⟨hka.1,D E⟩
 rcases hk with hk|hk|hk|hk|hk|hk|hk|hk|hk|hk|hk|hk|hk|hk|hk|hk|hk|hk|hk|hk|hk
 .rw [show bW c s o=jU c s o by simp only[bW,hk,Int.reduceEq,if_true,if_false]];unfold jU;split
  .intro e;cases e
  split
  .intro e;cases e
  rename_i X h24;intro _;exact .more ⟨by omega,⟨by simpa using X,by simp[oZ],by simp[oZ],by simp[oZ],by simp[oZ],by simp[oZ]⟩,rfl,rfl⟩
 .rw [show bW c s o=lI s o by simp only[bW,hk,Int.reduceEq,if_true,if_false]];obtain⟨k,K,T,U,v,q⟩:=J (by rw[hk];rfl);unfold lI;rw[v];split
  .intro e;cases e
  rename_i O;intro _;rw[K];exact qv h U (.inr rfl) O
 .rw [show bW c s o=lD s o by simp only[bW,hk,Int.reduceEq,if_true,if_false]];unfold lD;split
  .intro e;cases e
  rename_i O;intro _;exact .num ⟨AE O,Pp h,by decide,by have:=h.term;omega⟩
 .rw [show bW c s o=iX s (s.mode==0) 1 by simp only[bW,hk,Int.reduceEq,if_true,if_false]];unfold iX;split
  .intro _;exact .num ⟨h.goal,h.prior,by decide,by have:=h.term;omega⟩
  .intro e;cases e
 .rw [show bW c s o=iX s (s.mode==1) 0 by simp only[bW,hk,Int.reduceEq,if_true,if_false]];unfold iX;split
  .intro _;exact .num ⟨h.goal,h.prior,by decide,by have:=h.term;omega⟩
  .intro e;cases e
 .rw [show bW c s o=iX s (s.mode !=2) 2 by simp only[bW,hk,Int.reduceEq,if_true,if_false]];unfold iX;split
  .intro _;exact .num ⟨h.goal,h.prior,by decide,by have:=h.term;omega⟩
  .intro e;cases e
 .rw [show bW c s o=sW s o by simp only[bW,hk,Int.reduceEq,if_true,if_false]];obtain⟨i,t,w,Z,G⟩:=N (by rw[hk];rfl);obtain⟨n1,n2,n3,n4⟩:=kV h Z;unfold sW;rw[G];split
  .intro e;cases e
  intro _;dsimp only;by_cases V:(ei s i).aM=0
  .rw [if_neg (by simp[V]),G];refine th w ⟨Z,n1,rfl,λ_=>rfl,λe=>(by cases e),λe=>absurd V e⟩
  .rw [if_pos V];obtain⟨k,hkj⟩:∃k:Nat,(ei s i).aM=k+1:=⟨((ei s i).aM-1).toNat,by omega⟩;have u:k<s.jobs.length:=by omega
   have afj:=(h.link i k Z u).2 hkj;have hph:(dO s k).phase≠4:=λe=>by have:=h.idle k u (by rw[e];rfl);rw[this,sI]at afj;cases afj
   have S:=vW h u (p:=0) (.inl rfl) hph;have hr:=h.BS S;rw[hkj,Ba];have hna:dm { s with nodes:=s.nodes.mapIdx (lets (k+1)),jobs:=s.jobs.set k { dO s k with phase:=0,nodes:=0,since:=0,til:=0 } } o.a=lets (k+1) i (ei s i):=by unfold dm;rw[w];exact oC _ _ _ _ Z
   have ab1:ei { s with nodes:=s.nodes.mapIdx (lets (k+1)),jobs:=s.jobs.set k { dO s k with phase:=0,nodes:=0,since:=0,til:=0 } } i=lets (k+1) i (ei s i):=oC _ _ _ _ Z;have aai:lets (k+1) i (ei s i) = { ei s i with aM:=0 }:=by unfold lets;rw[if_pos hkj]
   rw[hna,aai];unfold lP;rw[w];refine .both S ⟨by simpa using Z,n1,by rw[ab1,aai],λ_=>by rw[ab1,aai],λe=>(by cases e),λe=>absurd rfl e⟩
 .rw [show bW c s o=RD s o by simp only[bW,hk,Int.reduceEq,if_true,if_false]];obtain⟨i,t,w,Z,G⟩:=N (by rw[hk];rfl);obtain⟨n1,n2,n3,n4⟩:=kV h Z;unfold RD;rw[G];split
  .intro e;cases e
  split
  .intro e;cases e
  rename_i B y;intro _;refine th w ⟨Z,AE B,rfl,λe=>absurd (n4 e) y,λe=>absurd (n3 e).1 y,λe=>rfl⟩
 .rw [show bW c s o=pP s o by simp only[bW,hk,Int.reduceEq,if_true,if_false]];obtain⟨k,K,T,U,v,q⟩:=J (by rw[hk];rfl);unfold pP;rw[v];split
  .intro e;cases e
  split
  .intro e;cases e
  rename_i O A;intro _;have O:(dO s k).phase=0:=by simpa using O
  have S:=PO h U O (b:=o.b) (by cases E:oE s.nodes (dO s k) o.b nN with|true=>rfl|false=>exact absurd (.inl E) A) (by omega);unfold gJ;rw[T,K];exact .aM S
 .rw [show bW c s o=oP s o by simp only[bW,hk,Int.reduceEq,if_true,if_false]];obtain⟨k,K,T,U,v,q⟩:=J (by rw[hk];rfl);unfold oP;rw[v];split
  .intro e;cases e
  rename_i O;have O:(dO s k).phase=1:=by simpa using O
  intro _;exact FL T (u9 h U _ ⟨q.asked,by dsimp only;omega,q.inc,hkb,q.til,q.epoch⟩ ⟨rfl,rfl,rfl,rfl,rfl,rfl⟩ ⟨Int.le_refl _,Int.le_refl _⟩ (by omega) rfl (by rw[O];rfl) (λe=>by cases e))
 .rw [show bW c s o=lC s o by simp only[bW,hk,Int.reduceEq,if_true,if_false]];obtain⟨k,K,T,U,v,q⟩:=J (by rw[hk];rfl);unfold lC;rw[v];split
  .intro e;cases e
  rename_i O;have O:(dO s k).phase=1:=by simpa using O
  intro _;rw[K];exact qv h U (.inl rfl) (by omega)
 .rw [show bW c s o=nP c s o by simp only[bW,hk,Int.reduceEq,if_true,if_false]];obtain⟨k,K,T,U,v,q⟩:=J (by rw[hk];rfl);unfold nP;rw[v];split
  .intro e;cases e
  split
  .intro e;cases e
  rename_i O E;have O:(dO s k).phase=2:=by simpa using O
  intro _;exact FL T (u9 h U _ ⟨q.asked,by dsimp only;omega,q.inc,q.since,hkb,q.epoch⟩ ⟨rfl,rfl,rfl,rfl,rfl,rfl⟩ ⟨Int.le_refl _,Int.le_refl _⟩ (by omega) rfl (by rw[O];rfl) (λe=>.inr (by omega)))
 .rw [show bW c s o=kR s o by simp only[bW,hk,Int.reduceEq,if_true,if_false]];obtain⟨k,K,T,U,v,q⟩:=J (by rw[hk];rfl);unfold kR;rw[v];split
  .intro e;cases e
  split
  .intro e;cases e
  rename_i O E;have O:(dO s k).phase≠4:=λe=>by unfold vQ at O;rw[e]at O;exact O rfl
  intro _;exact FL T (u9 h U _ ⟨q.asked,q.phase,q.inc,q.since,q.til,by dsimp only;omega⟩ ⟨rfl,rfl,rfl,rfl,rfl,rfl⟩ ⟨Int.le_refl _,by dsimp only;omega⟩ O rfl rfl (λe=>.inl e))
 .rw [show bW c s o=pg s o by simp only[bW,hk,Int.reduceEq,if_true,if_false]];obtain⟨k,K,T,U,v,q⟩:=J (by rw[hk];rfl);unfold pg;rw[v];split
  .intro e;cases e
  rename_i O;have O:(dO s k).phase=3:=by simpa using O
  intro _;rw[K];exact qv h U (.inl rfl) (by omega)
 .rw [show bW c s o=uo s o by simp only[bW,hk,Int.reduceEq,if_true,if_false]];obtain⟨k,K,T,U,v,q⟩:=J (by rw[hk];rfl);unfold uo;rw[v];split
  .intro e;cases e
  rename_i O;have O:(dO s k).phase≠4:=λe=>by unfold vQ at O;rw[e]at O;exact O rfl
  intro _;rw[K];exact qv h U (.inr rfl) O
 .rw [show bW c s o=mP s o by simp only[bW,hk,Int.reduceEq,if_true,if_false]];obtain⟨i,t,w,Z,G⟩:=N (by rw[hk];rfl);obtain⟨n1,n2,n3,n4⟩:=kV h Z;unfold mP;rw[G];split
  .intro e;cases e
  intro _;refine th w ⟨Z,n1,rfl,λ_=>rfl,λe=>⟨(n3 e).1,rfl,(n3 e).2.2⟩,n4⟩
 .rw [show bW c s o=iK s o by simp only[bW,hk,Int.reduceEq,if_true,if_false]];obtain⟨i,t,w,Z,G⟩:=N (by rw[hk];rfl);obtain⟨n1,n2,n3,n4⟩:=kV h Z;unfold iK;rw[G];split
  .intro e;cases e
  rename_i E;intro _;refine th w ⟨Z,n1,rfl,λ_=>rfl,λe=>absurd (.inr e) E,n4⟩
 .rw [show bW c s o=wG s o by simp only[bW,hk,Int.reduceEq,if_true,if_false]];obtain⟨i,t,w,Z,G⟩:=N (by rw[hk];rfl);obtain⟨n1,n2,n3,n4⟩:=kV h Z;unfold wG;rw[G];split
  .intro e;cases e
  rename_i E;intro _;have x:(ei s i).up=true/\(ei s i).cU=true/\(ei s i).aM=0:=by simp only[not_or,Bool.not_eq_false,Bool.not_eq_true,Decidable.not_not]at E;exact⟨E.1,E.2.1,E.2.2.2⟩
  refine th w ⟨Z,n1,rfl,λ_=>rfl,λe=>x,n4⟩
 .rw [show bW c s o=nL s o by simp only[bW,hk,Int.reduceEq,if_true,if_false]];obtain⟨i,t,w,Z,G⟩:=N (by rw[hk];rfl);obtain⟨n1,n2,n3,n4⟩:=kV h Z;unfold nL;rw[G];split
  .intro e;cases e
  split
  .intro e;cases e
  rename_i B H;intro _;have H:(ei s i).bw=true:=by simpa using H
  refine th w ⟨Z,AE B,rfl,λe=>absurd (n3 H).2.2 e,λe=>(by cases e),n4⟩
 .rw [show bW c s o=gT s o by simp only[bW,hk,Int.reduceEq,if_true,if_false]];obtain⟨k,K,T,U,v,q⟩:=J (by rw[hk];rfl);unfold gT;split
  .intro e;cases e
  rename_i n;obtain⟨b,t,w,Z,G⟩:=M7 (s:=s) (a:=o.b) (by omega);rw[v,G];split
  .intro e;cases e
  split
  .intro e;cases e
  rename_i O E;have O:(dO s k).phase=2:=by simpa using O
  simp only[not_or,Decidable.not_not]at E;intro _;have S:=Hw h U Z O (by omega) (by omega);unfold lP gJ;rw[T,t];exact .aM S
 .rw [show bW c s o=d_ s by simp only[bW,hk,Int.reduceEq,if_true,if_false]];unfold d_;split
  .intro e;cases e
  intro _;exact .num ⟨h.goal,h.prior,h.mode,by have:=h.term;omega⟩
def Mn{s:aa}(h:bU c s)(o:cr):((aW c s o).2=0->Step c s (aW c s o).1)/\((aW c s o).2≠0->(aW c s o).1=s):=by
 have hr:=(eG c s).2 h;unfold aW;rw[if_neg (by simp[hr])];unfold yO;split
 .exact ⟨λe=>by(cases e),λ_=>rfl⟩
 split
 .exact ⟨λe=>by(cases e),λ_=>rfl⟩
 split
 .exact ⟨λe=>by(cases e),λ_=>rfl⟩
 rename_i U h2 B;exact⟨Qt h (by simpa using U) (λe=>by by_cases E:o.a<1\/(s.jobs.length:Int)<o.a;exact absurd ⟨e,E⟩ h2;omega) (λe=>by by_cases E:(s.nodes.length:Int)<=o.a;exact absurd ⟨e,E⟩ B;omega),Jc c s o⟩
def zM{s:aa}(h:bU c s)(o:cr):bU c (aW c s o).1:=by
 have:=Mn h o;by_cases e:(aW c s o).2=0
 .exact (this.1 e).right h
 .rw [this.2 e];exact h
end
def qI{c:av}(h:gq c=true):bU c (dN c):=by
 have D:=qL h;have E:=Ep h;have y:0<=c.cF:=by have:=h;unfold gq at this;simp only[Bool.and_eq_true]at this;exact(bf this.1.1.1.1.1.1.2).1
 have e:dN c=⟨replicate c.nodes.toNat node1,[],1,1,0,0⟩:=if_pos h;have V:∀i,i<c.nodes.toNat->(replicate c.nodes.toNat node1).getD i aq=node1:=λi hi=>by simp[getD,hi]
 rw[e];refine⟨h,by simp;omega,by simp,by dsimp only;omega,by dsimp only;omega,by dsimp only;omega,by dsimp only;omega,λk hk=>by simp at hk,λk hk=>by simp at hk,λk hk=>by simp at hk,λi hi=>?_,λi hi=>?_,λi hi H=>?_,λi hi h0=>?_,λi k hi hk=>by simp at hk,λq E=>by simpa[dg]using y⟩;all_goals
  dsimp only[length_replicate]at hi;simp only[length_replicate]at hi
 .unfold ei;rw[V i hi];decide
 .unfold ei;rw[V i hi];simp[node1]
 .unfold ei at H;rw[V i hi]at H;cases H
 .unfold ei at h0;rw[V i hi]at h0;exact absurd rfl h0
section
variable{b:List Int}(n:Int)(o:cr)
def aT(l:List Int):Prop:=∀c∈l,0<=c/\c<=255
def aT.cat{a:List Int}(X:aT a)(T:aT b):aT (a++b):=λc K=>(mem_append.1 K).elim (X c) (T c)
def Jb:∀(f:Nat) (m:Int),0<=m->m<256*128 ^ f->aT (iT f m)
 |0,m,h,h2=>by intro c K;unfold iT at K;simp only[mem_singleton]at K;subst K;omega
 |f+1,m,h,h2=>by
  intro c K;unfold iT at K;split at K
  .rcases mem_cons.1 K with rfl|K
   .omega
   .refine Jb f _ (by omega) ?_ c K;rw[Int.pow_succ]at h2;omega
  .simp only[mem_singleton]at K;subst K;omega
def kg:aT (aV n):=by
 unfold aV;split
 .rename_i h;unfold isNum dS at h;rw[decide_eq_true_eq]at h;exact Jb 8 n h.1 (by omega)
 .intro c K;cases K
def yy(l:List Int):aT (g_ l):=by
 unfold g_;split
 .refine aT.cat (kg _) (λc K=>?_);obtain⟨x,_,S⟩:=mem_flatMap.1 K;exact kg x c S
 .intro c K;cases K
def RE:0<=IntKind.u8.wrap n/\IntKind.u8.wrap n<=255:=by show 0<=n % 256/\n % 256<=255;omega
def RS:aT (nq n):=by intro c K;simp only[nq,mem_cons,not_mem_nil,or_false]at K;rcases K with rfl|rfl|rfl|rfl<;>exact RE _
def lT{p:List Int}(h:aT p):aT (cu p):=by
 unfold cu;split
 .intro c K;cases K
 .exact (((kg _).cat h).cat (RS _)).cat (λc K=>by simp only[mem_singleton]at K;subst K;omega)
def kT{l:List Int}{a:Nat}(Z:aT l)(T:aT b):aT (br l a b):=
 aT.cat (aT.cat (λc K=>Z c (mem_of_mem_take K)) T) (λc K=>Z c (mem_of_mem_drop K))
def jS(n:Nat):aT (replicate n 0):=λc K=>by rw[eq_of_mem_replicate K];omega
def Bf:aT (fF o):=by
 unfold fF;split
 .exact yy _
 .intro c K;cases K
def Bg(s:aa):aT (kS s):=by
 unfold kS;split
 .exact yy _
 .intro c K;cases K
def Im(l:List Int):(g_ l).length<=9*l.length+9:=by
 unfold g_;split
 .have U:=Gw l;have h2:=fD (l.length:Int);rw[length_append];omega
 .simp
def Wc:(fF o).length<=90:=by
 unfold fF;split
 .have U:=Im (o.kind::(cO o).take (fH o.kind));have u:(o.kind::(cO o).take (fH o.kind)).length<=7:=by rw[length_cons,length_take];simp[cO];omega
  omega
 .simp
def Wd(s:aa):(kS s).length<=3000:=by
 unfold kS;split
 .rename_i h;have U:=Im (gp s);have h2:(gp s).length<=320:=by
   unfold gp;rw[length_append,yo s (Nat.le_refl _)];simp only[length_cons,length_nil];omega
  omega
 .simp
def OP{l:List Int}{fr sz:Nat}{cA:Int}(Z:aT l)(T:aT b):aT (jK l fr sz b cA):=
 kT (kT Z (jS _)) (lT ((kg _).cat T))
def QE{n:Nat}{l eO:List Int}{cnt:Int}(Z:aT l)(T:aT eO):aT (zI n l eO cnt):=kT (OP Z T) (jS _)
structure gP where
 n:Nat
 l:List Int
 s:Int
 cnt:Int
 cA:Int
 us:Nat
def jO(j:gP):List ah:=zl j.n j.l j.s j.cnt j.cA j.us
structure xI(j:gP):Prop where
 len:j.l.length=j.n
 size:64<=j.n/\j.n<=65536
 kD:aT j.l
 used:j.us<=j.n-2*(j.n / 4)
def gP.room(j:gP)(k:Nat):Bool:=ov j.n j.us j.cnt k
def gP.add(j:gP)(p:List Int):gP:={ j with l:=br j.l (2*(j.n / 4)+j.us) (fh j.cnt p),s:=IntKind.i64.wrap (j.s+1),cnt:=IntKind.i64.wrap (j.cnt+1),us:=j.us+(fh j.cnt p).length }
def gP.Sy(j:gP)(eO:List Int):Int:=if j.cA=j.cnt\/fo j.l 0 (j.n / 4) eO j.cnt≠0 then 3 else 0
def gP.pack(j:gP)(eO:List Int):gP:=if j.cA=j.cnt\/fo j.l 0 (j.n / 4) eO j.cnt≠0 then j else{ j with l:=zI j.n j.l eO j.cnt,s:=IntKind.i64.wrap (IntKind.i64.wrap (IntKind.i64.wrap (j.s+1)+1)+1),cA:=j.cnt,us:=0 }
def Eu(j:gP)(h:xI j)(k:Nat)(hk:k<=900000):aS G 159 [.ptr 0 0,.int k] (jO j) (.bool (j.room k)) (jO j):=DY j.n j.l j.s j.cnt j.cA j.us k h.len h.size.2 h.used hk
def TC(j:gP)(h:xI j)(p:List Int)(hr:j.room p.length=true):aS G 93 [.ptr 0 0,ak p] (jO j) (.int 0) (jO (j.add p)):=Iu j.n j.l j.s j.cnt j.cA j.us p h.len (by have:=h.size;omega) h.used hr
def PA(j:gP)(h:xI j)(eO:List Int)(O:eO.length<=90000):aS G 160 [.ptr 0 0,ak eO] (jO j) (.int (j.Sy eO)) (jO (j.pack eO)):=by
 obtain⟨n,l,s,cnt,cA,us⟩:=j;unfold gP.Sy gP.pack;dsimp only;by_cases U:cA=cnt
 .rw [if_pos (.inl U),if_pos (.inl U)];subst U;exact zZ n l s cA us eO
 by_cases h2:fo l 0 (n / 4) eO cnt=0
 .rw [if_neg (by simp[U,h2]),if_neg (by simp[U,h2])];exact Je n l s cnt cA us eO h.len h.size h.kD O U h2
 .rw [if_pos (.inr h2),if_pos (.inr h2)];exact Cw n l s cnt cA us eO h.len h.size h.kD O U h2
def gP.vT{j:gP}{p:List Int}(hr:j.room p.length=true):j.us+(fh j.cnt p).length<=j.n-2*(j.n / 4):=by
 unfold gP.room ov rZ at hr;rw[Bool.and_eq_true,decide_eq_true_eq,decide_eq_true_eq]at hr;have o:(aV j.cnt++p).length=p.length+(aV j.cnt).length:=by rw[length_append,Nat.add_comm]
 unfold fh;rw[ny (by omega),o];omega
def xI.add{j:gP}(h:xI j){p:List Int}(O:aT p)(hr:j.room p.length=true):xI (j.add p):=by have T:=gP.vT hr;have hs:=h.size;have hlen:=h.len;refine⟨?_,h.size,kT h.kD (lT ((kg _).cat O)),T⟩;show(br j.l (2*(j.n / 4)+j.us) (fh j.cnt p)).length=j.n;rw[dD (by omega),h.len]
def xI.pack{j:gP}(h:xI j){eO:List Int}(O:aT eO):xI (j.pack eO):=by
 have hs:=h.size;have hlen:=h.len;unfold gP.pack;split
 .exact h
 .rename_i K;refine⟨?_,h.size,QE h.kD O,by show 0<=_;omega⟩;show(br (jK j.l 0 (j.n / 4) eO j.cnt) (2*(j.n / 4)) (replicate (j.n-2*(j.n / 4)) 0)).length=j.n;have S:=DT (l:=j.l) (sz:=j.n / 4) (b:=eO) (cA:=j.cnt) (by omega) (by simp at K;exact K.2);rw[dD (by rw[length_replicate];omega),S,hlen]
def gP.acs(j:gP)(p:List Int):(j.add p).n=j.n:=rfl
def gP.uL(j:gP)(p:List Int):(j.pack p).n=j.n:=by unfold gP.pack;split<;>rfl
end
structure oM where
 gen:Int
 has:Bool
 order:bE
 sent:Int
 heard:Int
 report:bE
def oz(l:oM):List DV:=[i64 l.gen,bl l.has]++(jQ l.order++([i64 l.sent,i64 l.heard]++jQ l.report))
structure aF where
 c:av
 s:aa
 j:gP
 room:Int
 term:Int
 sh:List eE
 wr:Int
 lines:List oM
 down:Bool
 dM:Int
def dR(x:aF):ah:=.box 128 [.int x.c.nodes,.int x.c.bA,.int x.c.cF,.int x.c.gQ,.int x.c.bD,.int x.c.ej,.int x.c.deadline,.int x.c.room,.int x.c.fT,.ptr 2 0,.ptr 1 0,.ptr 6 0,bH x.s.nodes,qM x.s.jobs,.int x.s.goal,.int x.s.prior,.int x.s.mode,.int x.s.term,.sl 7 x.lines.length 26 0 x.lines.length,.bool x.down,.int x.dM]
def aL(l:List oM):ah:=.dat 130 26 (l.map oz)
def bX(x:aF):List ah:=[dR x,.box 155 [.ptr 2 0,.ptr 3 0,.ptr 4 0,.int x.j.cnt,.int x.j.cA],.box 123 [.sl 5 x.j.n 1 0 x.j.n,.d (.val (.slice none 0 0)),.int x.j.s],.box 216 [.ptr 2 0,.int 0,.int ((x.j.n / 4:Nat):Int)],.box 218 [.ptr 2 0,.int ((2*(x.j.n / 4):Nat):Int),.int ((x.j.n-2*(x.j.n / 4):Nat):Int),.int x.j.us],.dat 5 1 (ax x.j.l),.box 119 ([.int x.room,.int x.term]++(x.sh.flatMap Nq++[.int x.wr])),aL x.lines]
def cw(k:Nat)(hk:8<=k)(x:aF):(bX x).all (aP k)=true:=by
 have h:∀i,i<8->i<k:=λi hi=>by omega
 simp[bX,dR,aL,all_cons,all_nil,aP,Bool.and_true,eB,gV,bn,bV,LV.int,LV.bool,bH,qM,h]
def QA(s:aa)(D:s.nodes.length<=1000)(hj:s.jobs.length<=1000):aS G 54 [aU s] [] (aU s) []:=by refine uW func54 ?_;refine CP (Cx s.nodes D) ?_;refine CP (Cy s.jobs hj) ?_;refine dQ ?_;exact dP [2,3] rfl (by simp[St.obj,an]) (by simp[St.obj,an,aR,St.get,aN,aB,ay,bz,LV.int,take_of_length_le])
def AQ(n:Int):aS G 47 [.int n] [] (.bool (decide (0<=n/\n<=1000000))) []:=by
 refine iL func47 ?_;by_cases U:0<=n
 .simp only[decide_eq_true (show n>=0 from U),U,go_sem]
 .simp only[decide_eq_false (show¬n>=0 from U),U,false_and,go_sem]
def uc(o:cr):aS G 179 [qD o] [] (.bool (decide (1<=o.kind/\o.kind<=6))) []:=by
 refine iL func179 ?_;by_cases U:1<=o.kind
 .simp only[decide_eq_true (show o.kind>=1 from U),U,go_sem]
 .simp only[decide_eq_false (show¬o.kind>=1 from U),U,false_and,go_sem]
def nS(x:aF):aS G 53 [.ptr 0 0] (bX x) (.bool (!x.down)) (bX x):=by refine Lv func53 (cw _ (Nat.le_refl 8) _) ?_;simp only[bX,dR,go_sem,sA]
def afb:Nat×C×List RV:=(7,
(.seq (.mj [qo 2 (.mv (qk 0))])
 (.seq (.mj [qm 3 0,
 qo 4 (.kL (.t 3)),
 qo 5 (.B0 0 (.t 4)),
 qo 6 ((.more (.atl (.t 5)))),
 qm 2 6])
 .ret)),
[(.t 2)])
def aeZ:bM prog Tryz.f31=some afb:=by kernel_rfl
def Me(x:aF):aS G 32 [.ptr 0 20,.int 1] (bX x) (.int (IntKind.i64.wrap (x.dM+1))) (bX { x with dM:=IntKind.i64.wrap (x.dM+1) }):=by refine eY func32 (by decide) YA rfl rfl (cw _ (Nat.le_refl 8) _) rfl ?_;simp only[bX,dR,aeh,go_sem,sA]
def aF.state(x:aF):aa:=if x.down=true then⟨[],[],0,0,0,0⟩else x.s
def L5(x:aF)(hd:x.down=false)(D:x.s.nodes.length<=1000)(hj:x.s.jobs.length<=1000):aS G 29 [.ptr 0 0] (bX x) (aU x.s) (bX x):=by have X:=nS (G:=G) x;have K:=QA (G:=G) x.s D hj;simp only[bX,dR,aL,hd,sA]at X;refine Lv func29 (cw _ (Nat.le_refl 8) _) ?_;simp only[bX,dR,aL,hd,go_sem,sA];refine kG [0,1,2,3,4,5,6,7] X ?_;refine a_ K trivial
structure CL(x:aF):Prop where
 right:bU x.c x.s
 jn:xI x.j
 sh:x.sh.length=25
 lines:x.lines.length=x.s.nodes.length
def aF.GQ(x:aF)(o:cr):gP:=if x.j.room (fF o).length=true then x.j else x.j.pack (kS x.s)
def aF.dc(x:aF)(o:cr):Int:=if(aW x.c x.s o).2≠0 then(aW x.c x.s o).2 else if(x.GQ o).room (fF o).length=true then 0 else 3
def aF.bO(x:aF)(o:cr):gP:=if(aW x.c x.s o).2≠0 then x.j else x.GQ o
def aF.yE(x:aF)(o:cr):LV:=if x.dc o≠0 then .d (.val (.slice none 0 0))else ak (fF o)
theorem EJ(x:aF)(h:CL x)(o:cr):aS ck 92 [.ptr 0 0,qD o] (bX x) (.cZ [aU (aW x.c x.s o).1,x.yE o,.int (x.dc o)]) (bX { x with j:=x.bO o }):=by
 have e:=yM x.c x.s o;have H:=SG o;have t:(fF o).length<=900000:=by have:=Wc o;omega
 have O:=Eu (G:=ck) x.j h.jn (fF o).length t;have D:=V_ (G:=ck) x.s (by have:=h.right.len;omega) (by have:=h.right.jobs;omega);have q:=PA (G:=ck) x.j h.jn (kS x.s) (by have:=Wd x.s;omega);have X:=Eu (G:=ck) (x.j.pack (kS x.s)) (h.jn.pack (Bg _)) (fF o).length t;have w:(x.j.pack (kS x.s)).n=x.j.n:=gP.uL _ _;simp only[jO,zl,w,ak]at O q X H D;unfold aF.yE aF.dc aF.bO aF.GQ;by_cases U:(aW x.c x.s o).2=0;case neg=>simp only[ne_eq,U,not_false_eq_true,if_true];refine Lv func92 (cw _ (Nat.le_refl 8) _) ?_;simp only[bX,dR,aL,ak,go_sem,sA];refine cc e ?_;refine aD rfl ?_;simp only[show((aW x.c x.s o).2 !=0)=true from bne_iff_ne.2 U,go_sem]
 simp only[ne_eq,U,not_true_eq_false,if_false];by_cases h2:x.j.room (fF o).length=true;case pos=>rw[h2]at O;simp only[h2,if_true,not_true_eq_false,if_false];refine Lv func92 (cw _ (Nat.le_refl 8) _) ?_;simp only[bX,dR,aL,ak,go_sem,sA];refine cc e ?_;refine aD rfl ?_;simp only[U,go_sem];refine a_ H ?_;simp only[au,go_sem];refine bJ [1,2,3,4,5] O ?_;simp only[au,go_sem];refine bJ [1,2,3,4,5] O trivial
 have K:ov x.j.n x.j.us x.j.cnt (fF o).length=false:=by cases E:ov x.j.n x.j.us x.j.cnt (fF o).length<;>simp_all[gP.room]
 simp only[gP.room,K]at O;simp only[h2,if_false];generalize k:x.j.pack (kS x.s)=J at *;generalize x.j.Sy (kS x.s)=V at *;obtain⟨v,m,Z,S,T,u2⟩:=J;subst w;dsimp only at q X;have u:∀r:Bool,gP.room ⟨x.j.n,m,Z,S,T,u2⟩ (fF o).length=r->aS ck 92 [.ptr 0 0,qD o] (bX x) (.cZ [aU (aW x.c x.s o).1,if r=true then ak (fF o)else .d (.val (.slice none 0 0)),.int (if r=true then 0 else 3)]) (bX { x with j:=⟨x.j.n,m,Z,S,T,u2⟩ }):=by
  intro r hr;rw[hr]at X;refine Lv func92 (cw _ (Nat.le_refl 8) _) (hid:=by cases r<;>rfl) ?_;simp only[bX,dR,aL,ak,go_sem,sA];refine cc e ?_;refine aD rfl ?_;simp only[U,go_sem];refine a_ H ?_;simp only[au,go_sem];refine bJ [1,2,3,4,5] O ?_;refine cc D ?_;refine fV [1,2,3,4,5] q ?_;refine dQ ?_;simp only[au,go_sem];refine bJ [1,2,3,4,5] X ?_;cases r with
  |true=>simp only[hr,go_sem]
  |false=>simp only[hr,go_sem]
 have:=u _ rfl;split at this<;>simp_all
def iU(x:eE)(epoch:Int):eE:=if epoch=x.se then⟨x.se,x.sd,0,[]⟩else x
def Zz(sh:List eE)(k:Nat)(h:k<sh.length):((sh.flatMap Nq).drop (4*k)).take 4=Nq (sh.getD k gU):=by
 induction sh generalizing k with
 |nil=>exact absurd h (not_lt_zero _)
 |cons x sh o=>
  cases k with
  |zero=>simp[flatMap_cons,Nq]
  |succ k=>have:=o k (by simpa using h);rw[flatMap_cons,show 4*(k+1)=4*k+4 by omega];simpa[Nq]using this
section
variable (A B:List LV) (a b c d x y:LV) (n:Nat)
def abt(h:A.length=n):(A++a::b::c::d::B)[n]? = some a:=by subst h;simp
def abr(h:A.length=n):(A++a::b::c::d::B)[n+2]? = some c:=by subst h;simp
def abp(h:A.length=n):((A++a::b::c::d::B).drop (n+2)).take 2=[c,d]:=by subst h;rw[drop_append];simp[drop_eq_nil_of_le]
def abq(h:A.length=n):(A++a::b::c::d::B).take n++[x,y]++(A++a::b::c::d::B).drop (n+2)=A++x::y::c::d::B:=by subst h;rw[drop_append];simp
def Ym(h:A.length=n):(A++a::b::c::d::B).take (n+2)++[x,y]++(A++a::b::c::d::B).drop (n+4)=A++a::b::x::y::B:=by subst h;rw[drop_append,take_append];simp[take_of_length_le,drop_eq_nil_of_le]
end
def xW(room term:Int)(sh:List eE)(wr:Int)(k:Nat)(h:k<sh.length):∃A B:List LV,A.length=2+4*k/\(∀x:eE,LV.int room::LV.int term::((sh.set k x).flatMap Nq++[LV.int wr])=A++.int x.ce::ep x.cd::.int x.se::ep x.sd::B)/\∀x:eE,sh.getD k gU=x->LV.int room::LV.int term::(sh.flatMap Nq++[LV.int wr])=A++.int x.ce::ep x.cd::.int x.se::ep x.sd::B:=by
 have Z:=vO sh;have h2:∀x:eE,LV.int room::LV.int term::((sh.set k x).flatMap Nq++[LV.int wr])=(.int room::.int term::(sh.flatMap Nq++[.int wr])).take (2+4*k)++.int x.ce::ep x.cd::.int x.se::ep x.sd::(sh.flatMap Nq++[LV.int wr]).drop (2+4*k+2):=by intro x;rw[<- Hx (.int room) (.int term) (.int wr) x sh k h];simp[Nq]
 refine⟨_,_,?_,h2,λx S=>?_⟩
 .rw [length_take];simp only[length_cons,length_append,Z,length_nil];omega
 .rw [<- h2 x,<- S];simp[getD,h]
def qZ(room term:Int)(sh:List eE)(wr:Int)(k:Nat)(hk:1<=k/\k<=24)(hs:sh.length=25)(U:Int)(v:1<=U)(r:Int)(hr:r=if U=(sh.getD k gU).ce\/U=(sh.getD k gU).se then 0 else 4):aS G 52 [.ptr 0 0,.int k,.int U] (eF room term sh wr) (.int r) (eF room term (sh.set k (iU (sh.getD k gU) U)) wr):=by
 have hj:=mH (G:=G) room term sh wr k hk;obtain⟨A,B,q,Z,O⟩:=xW room term sh wr k (by omega);have O:=O _ rfl;have e:=dX 1 room term (sh.set k (iU (sh.getD k gU) U)) wr;have u:=dX 1 room term sh wr;have h:=kQ;generalize sh.getD k gU=x at *;obtain⟨ce,cd,se,sd⟩:=x;simp only[eF,sA]at hj;refine Lv func52 e ?_;simp only[eF,go_sem,sA];refine kG [0] hj ?_;simp only[LV.int]at Z O;rw[O,Z];dsimp only at hr;generalize H:2+4*k=m at *;have g0:=abt A B (LV.d (.val (.int .i64 ce))) (ep cd) (LV.d (.val (.int .i64 se))) (ep sd) m q;have g2:=abr A B (LV.d (.val (.int .i64 ce))) (ep cd) (LV.d (.val (.int .i64 se))) (ep sd) m q;have X:=abp A B (LV.d (.val (.int .i64 ce))) (ep cd) (LV.d (.val (.int .i64 se))) (ep sd) m q;have T:=abq A B (LV.d (.val (.int .i64 ce))) (ep cd) (LV.d (.val (.int .i64 se))) (ep sd) (LV.d (.val (.int .i64 se))) (ep sd) m q;have D:=Ym A B (LV.d (.val (.int .i64 se))) (ep sd) (LV.d (.val (.int .i64 se))) (ep sd) (LV.d (.val (.int .i64 0))) (LV.d (.val (.slice none 0 0))) m q;have K:∀a b c d:LV,(A++a::b::c::d::B).length=m+4+B.length:=by intros;rw[length_append,q];simp;omega
 have c1:m+2<=m+4+B.length:=by omega
 have S:m+4<=m+4+B.length:=by omega
 clear Z O e u;simp only[dF (U<1),g0,go_sem];by_cases V:U=se
 .have J:r=0:=by rw[hr,if_pos (.inr V)]
  have j:iU ⟨ce,cd,se,sd⟩ U=⟨se,sd,0,[]⟩:=by unfold iU;rw[if_pos V]
  have w:(U==se)=true:=beq_iff_eq.2 V;have E:(U !=se)=false:=by rw[V];exact bne_self_eq_false _
  subst J;simp only[j,show ep []=LV.d (.val (.slice none 0 0))from rfl];cases t:(U !=ce)<;>simp only[t,w,E,g0,g2,X,T,D,K,c1,S,go_sem]
 .have j:iU ⟨ce,cd,se,sd⟩ U=⟨ce,cd,se,sd⟩:=by unfold iU;rw[if_neg V]
  have w:(U==se)=false:=beq_eq_false_iff_ne.2 V;have E:(U !=se)=true:=bne_iff_ne.2 V;simp only[j];by_cases o:U=ce
  .have J:r=0:=by rw[hr,if_pos (.inl o)]
   have t:(U !=ce)=false:=by rw[o];exact bne_self_eq_false _
   subst J;simp only[t,w,E,g0,g2,go_sem]
  .have J:r=4:=by rw[hr,if_neg (by simp[o,V])]
   have t:(U !=ce)=true:=bne_iff_ne.2 o;subst J;simp only[t,w,E,g0,g2,go_sem]
def qY:ah:=.box 71 [.ptr 0 0]
def sP:LV:=.fn (.func 163) [] [.ptr 8 0,.ptr 9 0]
def Cm:LV:=.fn (.func 164) [] [.ptr 8 0]
def KB:LV:=.fn (.func 165) [] [.ptr 8 0]
def NK:ah:=.mp [(13,KB),(2,Cm),(15,Cm),(7,sP),(8,sP)]
def UR(x:aF)(now:Int):aS G 94 [.ptr 0 0,.int now] (bX x) (.mr 10) (bX x++[qY,.box 3 [.int now],NK]):=by
 refine tW func94 ?_;simp only[bX,dR,aL,go_sem,sA];refine ue [] [0,1,2,3,4,5,6,7,8,9,10] [] (vs:=[.mr 10]) rfl rfl (by decide) (by simp) (by simp) ?_ (by show(bX x++[qY,.box 3 [.int now],NK]).all (aP 11)=true;rw[all_append,cw _ (by omega)];rfl) ?_
 .simp only[map_cons,map_nil,bP,kC,gF,kQ];rfl
 simp[aR,aB,ay,LV.int,LV.bool,qY,NK,KB,Cm,sP]
section
variable(x:aF)
def qK:bE:=lz
def fI:oM:=⟨0,false,qK,0,0,qK⟩
def EK(now:Int)(k:Int)(l:oM):oM:={ l with has:=false,report:=qK,heard:=if k=8 then now else l.heard }
def LO(now:Int)(o:cr)(i:Nat)(hi:i<x.lines.length)(j:o.a=i):aS G 163 [qD o,.ptr 8 0,.ptr 9 0] (bX x++[qY,.box 3 [.int now]]) (.cZ []) (bX { x with lines:=x.lines.set i (EK now o.kind (x.lines.getD i fI)) }++[qY,.box 3 [.int now]]):=by
 have hid:(bX { x with lines:=x.lines.set i (EK now o.kind (x.lines.getD i fI)) }++[qY,.box 3 [.int now]]).all (aP 10)=true:=by rw[all_append,cw _ (by omega)];rfl
 refine Lv func163 hid ?_;have V:=aG (f:=oz) fI hi;generalize x.lines.getD i fI=l at *;obtain⟨t,lh,⟨q0,m,O,u,w,S,H,D,q8,X,h⟩,r,le,⟨r0,r1,K,T,J,U,Z,r7,r8,r9,q⟩⟩:=l;simp only[oz,jQ,sA]at V;obtain⟨k,a,b,c,d,e,f⟩:=o;dsimp only at j;subst j;simp only[bX,dR,aL,qY,length_set,go_sem,sA];have E:∀v,((x.lines.map oz).set i v)[i]? = some v:=λv=>getElem?_set_self (by simpa using hi)
 by_cases hk:k=8
 .subst hk;simp only[hi,V,E,EK,oz,qK,map_set,length_set,set_set,go_sem,sA]
 .simp only[hi,V,E,hk,beq_eq_false_iff_ne.2 hk,EK,oz,qK,map_set,length_set,set_set,go_sem,sA]
def Uw(hs:x.sh.length=25)(o:cr)(i:Nat)(hi:1<=i/\i<=24)(j:o.a=i):aS G 164 [qD o,.ptr 8 0] (bX x++[qY]) (.cZ []) (bX { x with sh:=x.sh.set i gU }++[qY]):=by
 have hid:(bX { x with sh:=x.sh.set i gU }++[qY]).all (aP 9)=true:=by rw[all_append,cw _ (by omega)];rfl
 have v:=vK (G:=G) x.room x.term x.sh x.wr i hi hs;simp only[eF,sA]at v;refine Lv func164 hid ?_;simp only[bX,dR,aL,qY,j,go_sem,sA];refine fV [6] v ?_;refine dQ trivial
def Sd(hs:x.sh.length=25)(o:cr)(i:Nat)(hi:1<=i/\i<=24)(j:o.a=i)(T:1<=o.b):aS G 165 [qD o,.ptr 8 0] (bX x++[qY]) (.cZ []) (bX { x with sh:=x.sh.set i (iU (x.sh.getD i gU) o.b) }++[qY]):=by
 have hid:(bX { x with sh:=x.sh.set i (iU (x.sh.getD i gU) o.b) }++[qY]).all (aP 9)=true:=by rw[all_append,cw _ (by omega)];rfl
 have v:=qZ (G:=G) x.room x.term x.sh x.wr i hi hs o.b T _ rfl;simp only[eF,sA]at v;refine Lv func165 hid ?_;simp only[bX,dR,aL,qY,j,go_sem,sA];refine fV [6] v ?_;refine dQ trivial
end
section
variable{o:cr}{c:av}
def ku(o:cr)(sh:List eE):List eE:=if o.kind=13 then sh.set o.a.toNat (iU (sh.getD o.a.toNat gU) o.b)else if o.kind=2\/o.kind=15 then sh.set o.a.toNat gU else sh
def oJ(now:Int)(o:cr)(l:List oM):List oM:=if o.kind=7\/o.kind=8 then l.set o.a.toNat (EK now o.kind (l.getD o.a.toNat fI))else l
def aF.bC(x:aF)(o:cr)(now:Int):aF:=if x.dc o=0 then{ x with j:=(x.bO o).add (fF o),s:=(aW x.c x.s o).1,dM:=IntKind.i64.wrap (x.dM+1),sh:=ku o x.sh,lines:=oJ now o x.lines }else{ x with j:=x.bO o }
def kq{x:aF}(v:x.dc o=0):(aW x.c x.s o).2=0/\(x.bO o).room (fF o).length=true/\x.yE o=ak (fF o):=by
 have r:=v;unfold aF.dc at v;split at v
 .rename_i h;exact absurd v h
 .rename_i h;split at v
  .rename_i h2;refine⟨by simpa using h,?_,?_⟩
   .unfold aF.bO;rw[if_neg h];exact h2
   .unfold aF.yE;rw[if_neg (by simpa using r)]
  .cases v
def CL.GQ{x:aF}(h:CL x)(o:cr):xI (x.bO o):=by
 unfold aF.bO aF.GQ;split
 .exact h.jn
 split
 .exact h.jn
 .exact h.jn.pack (Bg _)
def SS{s:aa}(O:bU c s)(h:(aW c s o).2=0)(hk:Li o.kind=true):1<=o.a/\o.a<=s.jobs.length:=by
 have hr:=(eG c s).2 O;unfold aW yO at h;rw[if_neg (by rw[hr];decide)]at h;split at h
 .cases h
 split at h
 .cases h
 .rename_i U h2;simp only[hk,true_and]at h2;omega
def Wo{s:aa}(O:bU c s)(h:(aW c s o).2=0)(hk:BC o.kind=true):0<=o.a/\o.a<s.nodes.length:=by
 have hr:=(eG c s).2 O;unfold aW yO at h;rw[if_neg (by rw[hr];decide)]at h;split at h
 .cases h
 split at h
 .cases h
 split at h
 .cases h
 .rename_i h0 U h2;have:=ym (o:=o) (by simpa using h0);simp only[hk,true_and]at h2;omega
def SR{s:aa}(O:bU c s)(h:(aW c s o).2=0)(D:eU o=true)(hk:o.kind=13):1<=o.b:=by
 have X:=SS O h (by rw[hk];rfl);obtain⟨k,U,h2,u,q⟩:=TA O X;rw[NI ((eG c s).2 O) D (by rw[hk];rfl) (by rw[hk];rfl),if_neg (by omega)]at h;unfold bW at h;simp only[hk]at h;unfold kR at h;have j:=(O.num k u).epoch;rw[<- q]at j;simp only[Int.reduceEq,if_false,if_true]at h;split at h
 .cases h
 split at h
 .cases h
 .rename_i H;omega
def wz(x:aF)(h:CL x)(o:cr)(now:Int):aS ck 49 [.ptr 0 0,qD o,.int now] (bX x) (.int (x.dc o)) (bX (x.bC o now)):=by
 have T:=EJ x h o;unfold aF.bC;by_cases v:x.dc o=0;case neg=>simp only[v,if_false];generalize x.bO o=J at *;generalize x.yE o=B at *;generalize x.dc o=e at *;simp only[bX,dR,aL,sA]at T;refine Lv func49 (cw _ (Nat.le_refl 8) _) ?_;simp only[bX,dR,aL,go_sem,sA];refine bJ [0,1,2,3,4,5,6,7] T ?_;simp only[show(e !=0)=true from bne_iff_ne.2 v,go_sem]
 obtain⟨U,h2,u⟩:=kq v;have V:=h.GQ o;have ab4:=λhk=>SS h.right U (o:=o) hk
 have ab0:=λhk=>Wo h.right U (o:=o) hk
 have abY:eU o=true:=by
  cases E:eU o with
  |true=>rfl
  |false=>have hr:=(eG x.c x.s).2 h.right;unfold aW yO at U;rw[if_neg (by rw[hr];decide),if_pos E]at U;cases U
 rw[u,v]at T;rw[if_pos v,v];have X:=TC (G:=ck) (x.bO o) V (fF o) h2
 have hn1:(x.bO o).n=x.j.n:=by unfold aF.bO aF.GQ;split;· rfl
                               split;· rfl
                               .exact gP.uL _ _
 generalize x.bO o=J at *;generalize XA:J.add (fF o)=J2 at *;have w:J2.n=x.j.n:=by rw[<- XA,gP.acs,hn1]
 generalize(aW x.c x.s o).1=t at *;have D:=Me (G:=ck) { x with j:=J2,s:=t };have Z:=UR (G:=ck) { x with j:=J2,s:=t,dM:=IntKind.i64.wrap (x.dM+1) } now;have S:=h.sh;have Lu:=h.lines;simp only[jO,zl,hn1,w,ak]at X;simp only[bX,dR,aL,qY,NK,hn1,w,ak,sA]at T D Z;refine Lv func49 (cw _ (Nat.le_refl 8) _) ?_;simp only[bX,dR,aL,w,go_sem,sA];refine bJ [0,1,2,3,4,5,6,7] T ?_;refine bJ [1,2,3,4,5] X ?_;refine bJ [0,1,2,3,4,5,6,7] D ?_;refine fV [0,1,2,3,4,5,6,7] Z ?_;have r:=h.right.jobs;have abL:o.kind=13->1<=o.b:=λhk=>SR h.right U abY hk
 by_cases WR:o.kind=13
 .obtain ⟨m,q2⟩:=ab4 (by rw[WR];rfl);obtain⟨i,hi⟩:∃i:Nat,o.a=i:=⟨o.a.toNat,by omega⟩;have K:=Sd (G:=ck) { x with j:=J2,s:=t,dM:=IntKind.i64.wrap (x.dM+1) } S o i (by omega) hi (abL WR);simp only[bX,dR,aL,qY,w,sA]at K;have q:ku o x.sh=x.sh.set i (iU (x.sh.getD i gU) o.b):=by unfold ku;rw[if_pos WR,hi];rfl
  have O:oJ now o x.lines=x.lines:=by unfold oJ;rw[if_neg (by rw[WR];decide)]
  simp only[q,O];have H:(if o.kind=13 then some (rn (gz [0,1,2,3,4,5,6,7] 10) KB)else if o.kind=2 then some (rn (gz [0,1,2,3,4,5,6,7] 10) Cm)else if o.kind=15 then some (rn (gz [0,1,2,3,4,5,6,7] 10) Cm)else if o.kind=7 then some (rn (gz [0,1,2,3,4,5,6,7] 10) sP)else if o.kind=8 then some (rn (gz [0,1,2,3,4,5,6,7] 10) sP)else none)=some (rn (gz [0,1,2,3,4,5,6,7] 10) KB):=by rw[WR];rfl
  simp only[H];simp only[KB,go_sem];refine dQ ?_;refine bJ [0,1,2,3,4,5,6,7,10] K trivial
 by_cases kE:o.kind=2\/o.kind=15
 .obtain ⟨m,q2⟩:=ab4 (by rcases kE with k|k<;>(rw[k];rfl));obtain⟨i,hi⟩:∃i:Nat,o.a=i:=⟨o.a.toNat,by omega⟩;have K:=Uw (G:=ck) { x with j:=J2,s:=t,dM:=IntKind.i64.wrap (x.dM+1) } S o i (by omega) hi;simp only[bX,dR,aL,qY,w,sA]at K;have q:ku o x.sh=x.sh.set i gU:=by unfold ku;rw[if_neg WR,if_pos kE,hi];rfl
  have O:oJ now o x.lines=x.lines:=by unfold oJ;rw[if_neg (by omega)]
  simp only[q,O];have H:(if o.kind=13 then some (rn (gz [0,1,2,3,4,5,6,7] 10) KB)else if o.kind=2 then some (rn (gz [0,1,2,3,4,5,6,7] 10) Cm)else if o.kind=15 then some (rn (gz [0,1,2,3,4,5,6,7] 10) Cm)else if o.kind=7 then some (rn (gz [0,1,2,3,4,5,6,7] 10) sP)else if o.kind=8 then some (rn (gz [0,1,2,3,4,5,6,7] 10) sP)else none)=some (rn (gz [0,1,2,3,4,5,6,7] 10) Cm):=by rcases kE with k|k<;>(rw[k];rfl)
  simp only[H];simp only[Cm,go_sem];refine dQ ?_;refine bJ [0,1,2,3,4,5,6,7,10] K trivial
 by_cases kF:o.kind=7\/o.kind=8
 .obtain ⟨m,q2⟩:=ab0 (by rcases kF with k|k<;>(rw[k];rfl));obtain⟨i,hi⟩:∃i:Nat,o.a=i:=⟨o.a.toNat,by omega⟩;have K:=LO (G:=ck) { x with j:=J2,s:=t,dM:=IntKind.i64.wrap (x.dM+1) } now o i (by show i<x.lines.length;omega) hi;simp only[bX,dR,aL,qY,w,length_set,sA]at K;have q:ku o x.sh=x.sh:=by unfold ku;rw[if_neg WR,if_neg kE]
  have O:oJ now o x.lines=x.lines.set i (EK now o.kind (x.lines.getD i fI)):=by unfold oJ;rw[if_pos kF,hi];rfl
  simp only[q,O,length_set];have H:(if o.kind=13 then some (rn (gz [0,1,2,3,4,5,6,7] 10) KB)else if o.kind=2 then some (rn (gz [0,1,2,3,4,5,6,7] 10) Cm)else if o.kind=15 then some (rn (gz [0,1,2,3,4,5,6,7] 10) Cm)else if o.kind=7 then some (rn (gz [0,1,2,3,4,5,6,7] 10) sP)else if o.kind=8 then some (rn (gz [0,1,2,3,4,5,6,7] 10) sP)else none)=some (rn (gz [0,1,2,3,4,5,6,7] 10) sP):=by rcases kF with k|k<;>(rw[k];rfl)
  simp only[H];simp only[sP,go_sem];refine dQ ?_;refine bJ [0,1,2,3,4,5,6,7,10,11] K trivial
 have q:ku o x.sh=x.sh:=by unfold ku;rw[if_neg WR,if_neg kE]
 have O:oJ now o x.lines=x.lines:=by unfold oJ;rw[if_neg kF]
 simp only[q,O];rw[not_or]at kE kF;simp only[WR,kE.1,kE.2,kF.1,kF.2,go_sem];refine dQ trivial
end
def Mo(o:cr)(l:List eE):(ku o l).length=l.length:=by
 unfold ku;split
 .rw [length_set]
 split
 .rw [length_set]
 .rfl
def QX(now:Int)(o:cr)(l:List oM):(oJ now o l).length=l.length:=by
 unfold oJ;split
 .rw [length_set]
 .rfl
def CL.note{x:aF}(h:CL x)(o:cr)(now:Int):CL (x.bC o now):=by
 unfold aF.bC;split
 .rename_i v;obtain⟨U,h2,u⟩:=kq v;have hr:=zM h.right o;have q:=h.right.nodes;have O:=hr.nodes;refine⟨hr,(h.GQ o).add (Bf o) h2,by show(ku o x.sh).length=25;rw[Mo,h.sh],?_⟩;show(oJ now o x.lines).length=(aW x.c x.s o).1.nodes.length;rw[QX,h.lines];omega
 .exact ⟨h.right,h.GQ o,h.sh,h.lines⟩
def aF.C8(x:aF)(o:cr):Int:=if 1<=o.kind/\o.kind<=6 then x.dc o else 1
def aF.Rk(x:aF)(o:cr)(now:Int):aF:=if 1<=o.kind/\o.kind<=6 then x.bC o now else x
def KW(x:aF)(o:cr)(now:Int):(x.bC o now).down=x.down:=by unfold aF.bC;split<;>rfl
def M6(x:aF)(o:cr)(now:Int):(x.bC o now).c=x.c:=by unfold aF.bC;split<;>rfl
def F4(x:aF)(o:cr)(now:Int):(x.bC o now).j.n=x.j.n:=by
 have h:(x.bO o).n=x.j.n:=by
  unfold aF.bO aF.GQ;split
  .rfl
  split
  .rfl
  .exact gP.uL _ _
 unfold aF.bC;split
 .exact h
 .exact h
def XX(x:aF)(h:CL x)(hd:x.down=false)(o:cr)(now:Int):aS ck 119 [.ptr 0 0,qD o,.int now] (bX x) (.int (x.C8 o)) (bX (x.Rk o now)):=by
 have X:=nS (G:=ck) x;have m:=uc (G:=ck) o;have D:=wz x h o now;have w:=F4 x o now;rw[hd]at X;unfold aF.C8 aF.Rk;generalize x.bC o now=y at *;generalize x.dc o=e at *;simp only[bX,dR,aL,sA]at X D;by_cases hk:1<=o.kind/\o.kind<=6
 .simp only[hk,and_self,if_true];simp only[hk,and_self,decide_true]at m;refine Lv func119 (cw _ (Nat.le_refl 8) _) ?_;simp only[bX,dR,aL,go_sem,sA];refine kG [0,1,2,3,4,5,6,7] X ?_;refine a_ m ?_;refine bJ [0,1,2,3,4,5,6,7] D trivial
 .simp only[hk,if_false];simp only[hk,decide_false]at m;refine Lv func119 (cw _ (Nat.le_refl 8) _) ?_;simp only[bX,dR,aL,go_sem,sA];refine kG [0,1,2,3,4,5,6,7] X ?_;refine a_ m trivial
def O0(c:av):aS ck 48 [eD c,ak [],.d (.cM 1 [])] [] (.cZ [aU (dN c),.bool true]) []:=by
 have D:=F7 (G:=ck) c;refine MG func48 ?_;simp only[ak,ax,go_sem];refine a_ D ?_;refine aQ [3,6,7,8,29,30,31] [] (λk:Nat=>k=0) (λk=>1-k) (λ_=>⟨[(3,.ptr 0 0),(6,.ptr 1 0),(7,.bool false),(8,.ptr 2 0),(29,.d (.cM 1 [])),(30,.int 0),(31,.int 0)],[some (.box 23 [.int c.nodes,.int c.bA,.int c.cF,.int c.gQ,.int c.bD,.int c.ej,.int c.deadline,.int c.room,.int c.fT]),some (.box 34 [.d (.val (.slice none 0 0)),.d (.val (.slice none 0 0)),.int 0,.int 0,.int 0,.int 0]),some (.box 34 [bH (dN c).nodes,qM (dN c).jobs,.int (dN c).goal,.int (dN c).prior,.int (dN c).mode,.int (dN c).term])]⟩) 0 ?_ rfl (λk hk=>?_)
 .simp only[go_sem]
 simp only[go_sem]
def bL:cr:=⟨21,0,0,0,0,0,0⟩
def Lb(now:Int):oM:=⟨0,false,qK,0,now,qK⟩
def pq(c:av)(n:Nat)(s room term:Int)(sh:List eE)(wr now:Int):aF:=⟨c,dN c,⟨n,replicate n 0,IntKind.i64.wrap (s+1),0,-1,0⟩,room,term,sh,wr,replicate (dN c).nodes.length (Lb now),false,0⟩
def aF.Uq(x:aF):aF:={ x with term:=if x.s.term>x.term then x.s.term else x.term }
def Jd(c:av)(n:Nat)(s room term:Int)(sh:List eE)(wr now:Int):aF:=((pq c n s room term sh wr now).bC bL now).Uq
def ET(x:aF):ah:=.box 128 [.int x.c.nodes,.int x.c.bA,.int x.c.cF,.int x.c.gQ,.int x.c.bD,.int x.c.ej,.int x.c.deadline,.int x.c.room,.int x.c.fT,.ptr 0 0,.ptr 5 0,.ptr 2 0,bH x.s.nodes,qM x.s.jobs,.int x.s.goal,.int x.s.prior,.int x.s.mode,.int x.s.term,.sl 4 x.lines.length 26 0 x.lines.length,.bool x.down,.int x.dM]
def uq(x:aF):List ah:=[.box 123 [.sl 1 x.j.n 1 0 x.j.n,.d (.val (.slice none 0 0)),.int x.j.s],.dat 5 1 (ax x.j.l),.box 119 ([.int x.room,.int x.term]++(x.sh.flatMap Nq++[.int x.wr])),ET x,aL x.lines,.box 155 [.ptr 0 0,.ptr 6 0,.ptr 7 0,.int x.j.cnt,.int x.j.cA],.box 216 [.ptr 0 0,.int 0,.int ((x.j.n / 4:Nat):Int)],.box 218 [.ptr 0 0,.int ((2*(x.j.n / 4):Nat):Int),.int ((x.j.n-2*(x.j.n / 4):Nat):Int),.int x.j.us]]
def EY(k:Nat)(hk:8<=k)(x:aF):(uq x).all (aP k)=true:=by
 have h:∀i,i<8->i<k:=λi hi=>by omega
 simp[uq,ET,aL,all_cons,all_nil,aP,Bool.and_true,eB,gV,bn,bV,LV.int,LV.bool,bH,qM,h]
def AR{c:av}(h:gq c=true):aW c (dN c) bL=({ dN c with term:=1 },0):=by
 have hr:=(eG c (dN c)).2 (qI h);rw[sZ hr (by decide) (by decide) (by decide)];have h0:(dN c).term=0:=by unfold dN;rw[if_pos h]
 show d_ (dN c)=_;unfold d_;rw[h0];rfl
def acU:fF bL=[1,21]:=by decide +kernel
def LL{c:av}(h:gq c=true){n:Nat}(D:64<=n/\n<=65536)(s room term:Int)(sh:List eE)(wr now:Int):(pq c n s room term sh wr now).dc bL=0:=by
 have e:(pq c n s room term sh wr now).j.room (fF bL).length=true:=by rw[acU];show(decide (1<=2/\2<=3900)&&rZ (n-2*(n / 4)) 0 (2+(aV 0).length))=true;rw[show(aV 0).length=1 by decide +kernel];unfold rZ;rw[show(aV (2+1:Nat)).length=1 by decide +kernel];simp;omega
 unfold aF.dc aF.GQ;show(if(aW c (dN c) bL).2≠0 then(aW c (dN c) bL).2 else if(if(pq c n s room term sh wr now).j.room (fF bL).length=true then(pq c n s room term sh wr now).j else(pq c n s room term sh wr now).j.pack (kS (dN c))).room (fF bL).length=true then 0 else 3)=0;rw[AR h,if_neg (λh=>h rfl),if_pos e,if_pos e]
def Gz{c:av}(h:gq c=true){n:Nat}(D:64<=n/\n<=65536)(s room term:Int)(sh:List eE)(hs:sh.length=25)(wr now:Int):CL (pq c n s room term sh wr now):=
 ⟨qI h,⟨length_replicate,D,jS _,zero_le _⟩,hs,length_replicate⟩
def Qx{c:av}(h:gq c=true){n:Nat}(D:64<=n/\n<=65536)(s room term:Int)(sh:List eE)(wr now:Int):((pq c n s room term sh wr now).bC bL now).s = { dN c with term:=1 }:=by unfold aF.bC;rw[if_pos (LL h D s room term sh wr now)];show(aW c (dN c) bL).1=_;rw[AR h]
def NF(c:av)(n:Nat)(s room term:Int)(sh:List eE)(wr now:Int)(k:Nat):St:=⟨[(1,.ptr 0 0),(2,.ptr 2 0),(3,.int now),(4,.ptr 3 0),(8,.d (.val (.pointer none))),(9,.int 0),(16,.ptr 8 0),(62,.int (dN c).nodes.length),(63,.int k)],
 [some (.box 123 [.sl 1 n 1 0 n,.d (.val (.slice none 0 0)),.int (IntKind.i64.wrap (s+1))]),some (.dat 5 1 (ax (replicate n 0))),some (.box 119 (.int room::.int term::(sh.flatMap Nq++[.int wr]))),
  some (.box 23 [.int c.nodes,.int c.bA,.int c.cF,.int c.gQ,.int c.bD,.int c.ej,.int c.deadline,.int c.room,.int c.fT]),
  some (.box 155 [.ptr 0 0,.ptr 5 0,.ptr 6 0,.int 0,.int (-1)]),some (.box 216 [.ptr 0 0,.int 0,.int ((n / 4:Nat):Int)]),some (.box 218 [.ptr 0 0,.int ((2*(n / 4):Nat):Int),.int ((n-2*(n / 4):Nat):Int),.int 0]),
  some (.box 34 [bH (dN c).nodes,qM (dN c).jobs,.int (dN c).goal,.int (dN c).prior,.int (dN c).mode,.int (dN c).term]),
  some (.box 128 [.int c.nodes,.int c.bA,.int c.cF,.int c.gQ,.int c.bD,.int c.ej,.int c.deadline,.int c.room,.int c.fT,.ptr 0 0,.ptr 4 0,.ptr 2 0,bH (dN c).nodes,qM (dN c).jobs,.int (dN c).goal,.int (dN c).prior,.int (dN c).mode,.int (dN c).term,.sl 9 k 26 0 k,.bool false,.int 0]),
  some (aL (replicate k (Lb now)))]⟩
def UL(c:av)(n:Nat)(y:aF):List (Option ah):=
 [some (.box 123 [.sl 1 n 1 0 n,.d (.val (.slice none 0 0)),.int y.j.s]),some (.dat 5 1 (ax y.j.l)),some (.box 119 (.int y.room::.int (if y.s.term>y.term then y.s.term else y.term)::(y.sh.flatMap Nq++[.int y.wr]))),
  some (.box 23 [.int c.nodes,.int c.bA,.int c.cF,.int c.gQ,.int c.bD,.int c.ej,.int c.deadline,.int c.room,.int c.fT]),
  some (.box 155 [.ptr 0 0,.ptr 5 0,.ptr 6 0,.int y.j.cnt,.int y.j.cA]),some (.box 216 [.ptr 0 0,.int 0,.int ((n / 4:Nat):Int)]),some (.box 218 [.ptr 0 0,.int ((2*(n / 4):Nat):Int),.int ((n-2*(n / 4):Nat):Int),.int y.j.us]),
  some (.box 34 [bH (dN c).nodes,qM (dN c).jobs,.int (dN c).goal,.int (dN c).prior,.int (dN c).mode,.int (dN c).term]),
  some (.box 128 [.int y.c.nodes,.int y.c.bA,.int y.c.cF,.int y.c.gQ,.int y.c.bD,.int y.c.ej,.int y.c.deadline,.int y.c.room,.int y.c.fT,.ptr 0 0,.ptr 4 0,.ptr 2 0,bH y.s.nodes,.d (.cM 12 []),.int y.s.goal,.int y.s.prior,.int y.s.mode,.int y.s.term,.sl 9 y.lines.length 26 0 y.lines.length,.bool y.down,.int y.dM]),
  some (aL y.lines)]
def QJ(c:av)(H:gq c=true)(n:Nat)(D:64<=n/\n<=65536)(s room term:Int)(sh:List eE)(hs:sh.length=25)(wr now:Int)(K:0<=now/\now<=1000000):aS ck 28 [eD c,.ptr 0 0,.ptr 2 0,.int now] (wO (replicate n 0) s++eF room term sh wr) (.cZ [.ptr 3 0,.int 0]) (uq (Jd c n s room term sh wr now)):=by
 have hlen:(replicate n (0:Int)).length=n:=length_replicate;have v:=wH (G:=ck) c;rw[H]at v;have u:=iS (G:=ck) (replicate n 0) s;have O:=AQ (G:=ck) now;rw[decide_eq_true K]at O;have m:=Lg (G:=ck) n s D;have T:=O0 c;have h:=wz (pq c n s room term sh wr now) (Gz H D s room term sh hs wr now) bL now;have r:=F4 (pq c n s room term sh wr now) bL now;have S:=Qx H D s room term sh wr now;rw[LL H D]at h;unfold Jd;have E:(dN c).nodes.length<=6:=(qI H).len.2;have q:(dN c).jobs=[]:=by unfold dN;rw[if_pos H]
 generalize e:(pq c n s room term sh wr now).bC bL now=y at *;have j:=rQ (G:=ck) y.room y.term y.sh y.wr y.s.term;simp only[wO,hlen]at u m;simp only[ZW,ak]at m;simp only[ak]at T;simp only[bX,dR,aL,pq,r,sA]at h;simp only[eF,sA]at j;refine tW func28 ?_;simp only[wO,eF,hlen,go_sem,sA];refine a_ v ?_;refine bJ [0,1] u ?_;simp only[dF ((n:Int)<64),go_sem];refine a_ O ?_;refine bJ [0,1] m ?_;refine a_ T ?_;refine aQ [1,2,3,4,8,9,16,62,63] [.b 8 18 130 26] (λk:Nat=>k<=(dN c).nodes.length) (λk=>(dN c).nodes.length-k) (NF c n s room term sh wr now) 0 ?_ (zero_le _) (λk hk=>?_)
 .simp only[NF,aL,replicate_zero,Int.natCast_zero,go_sem]
 simp only[NF,aL,go_sem];by_cases X:k<(dN c).nodes.length
 .have t:(replicate (k+1) (Lb now)).map oz=(replicate k (Lb now)).map oz++[oz (Lb now)]:=by rw[replicate_succ',map_append];rfl
  simp only[dT ((k:Int)<(((dN c).nodes.length:Nat):Int)),go_sem];have o:oz (Lb now)=[i64 0,bl false,i64 0,i64 0,i64 0,i64 0,i64 0,i64 0,i64 0,i64 0,i64 0,i64 0,i64 0,i64 0,i64 now,i64 0,i64 0,i64 0,i64 0,i64 0,i64 0,i64 0,i64 0,i64 0,i64 0,i64 0]:=rfl;have c1:(k+1)*208<=70368744177664:=by omega
  simp only[length_append,length_replicate,c1,go_sem];refine aY (k+1) ?_ ?_ (show k+1<=(dN c).nodes.length by omega) (show(dN c).nodes.length-(k+1)<(dN c).nodes.length-k by omega)
  .simp only[go_sem]
  .simp only[wS k,t,o,length_replicate,length_append,NF,aL,go_sem,sA]
 obtain rfl:k=(dN c).nodes.length:=by omega
 simp only[dF ((((dN c).nodes.length:Nat):Int)<(((dN c).nodes.length:Nat):Int)),go_sem];simp only[bL,length_replicate]at h;refine dz [8,4,0,5,6,1,2,9] h rfl ?_ (by decide) ?_ ?_ (by simp) ?_<;>simp only[ay,aB,go_sem,length_replicate]
 have w:y.s.jobs=[]:=by rw[S];exact q
 refine bJ [2] j ?_;simp only[w,Int.natCast_zero,go_sem];refine aQ [8,9,16,95,96,97] [] (λk:Nat=>k=0) (λk=>1-k) (λ_=>⟨[(8,.d (.val (.pointer none))),(9,.int 0),(16,.ptr 8 0),(95,.d (.cM 12 [])),(96,.int 0),(97,.int 0)],UL c n y⟩) 0 ?_ rfl (λk hk=>?_)
 .simp only[UL,aL,w,go_sem]
 subst hk;simp only[UL,aL,w,go_sem];have hid:=EY 8 (Nat.le_refl 8) y.Uq;simp only[aF.Uq,uq,ET,aL,r,w,map_nil,bH,qM,LV.int,LV.bool]at hid ⊢;refine ue [] [0,1,2,8,9,4,5,6] [] (vs:=[.ptr 8 0,.int 0]) rfl rfl (by decide) (by simp) (by simp) ?_ hid ?_
 .simp only[map_cons,map_nil,bP,kC,gF,kQ];rfl
 simp[aR,aB,ay,LV.int,LV.bool]
section
attribute [local go_sem] u8
structure ad0 where
 i:Nat
 m:Int
 out:List Int
attribute [local go_sem] ak
end
section
attribute [local go_sem] u8 ak gL
def qU{α:Type}(l:List α)(k:Nat)(z:α)(h:k<l.length):l.drop k=l.getD k z::l.drop (k+1):=by rw[drop_eq_getElem_cons h];simp[getD,h]
end
section
attribute [local go_sem] u8 ak Gj
end
section
variable{b:List Int}{a:Nat}
def xU(l:List Int)(i j:Nat):l.take (i+j)=l.take i++(l.drop i).take j:=take_add
def IN(T:∀c∈b,0<=c/\c<=255){fr:Nat}{n:Int}(X:a<b.length)(h0:b.getD a 0≠0)(E:fK b a=some (n,fr)) :
  1<=n/\(4000<n\/n>(b.length:Int)-fr->cT b a=([],a,2))/\(n<=4000->n<=(b.length:Int)-fr->∀p,p=(b.drop fr).take n.toNat->p.length=n.toNat/\cT b a=if(cu p).length>b.length-a\/cu p≠(b.drop a).take (cu p).length then([],a,2)else(p,a+(cu p).length,1)):=by
 obtain⟨hi,D,A,V⟩:=PZ T E;have hr:=gw (λc K=>(T c K).1) E;have Z:cT b a=if n>4000\/n+4>=(b.length:Int)-fr then([],a,2)
   else if ud ((b.drop fr).take (n.toNat+4))=false\/b.getD (fr+n.toNat+4) 0≠1 then([],a,2)
   else((b.drop fr).take n.toNat,fr+n.toNat+5,1):=by
  unfold cT;rw[if_neg (by omega),if_neg (by omega),E]
 refine⟨?_,λh=>by rw[Z,if_pos (by omega)],λU h2 p O=>?_⟩
 .by_cases j:n=0
  .subst j;exfalso;have e:aV 0=[0]:=by decide
   rw[e]at D;have x:=congrArg (λl=>l.head?) D;rw[show fr-a=(fr-a-1)+1 by omega,drop_eq_getElem_cons X,take_succ_cons]at x;simp only[head?_cons,Option.some.injEq]at x;exact h0 (by rw[getD,getElem?_eq_getElem X];exact x.symm)
  .have:=hr.1;omega
 .obtain ⟨m,rfl⟩:=eq_ofNat_of_zero_le hr.1;rw[toNat_natCast]at O Z ⊢;have t:p.length=m:=by rw[O,length_take,length_drop];omega
  refine⟨t,?_⟩;by_cases r:m=0
  .exfalso;subst r;have e:aV ((0:Nat):Int)=[0]:=by decide
   rw[e]at D;have x:=congrArg (λl=>l.head?) D;rw[show fr-a=(fr-a-1)+1 by omega,drop_eq_getElem_cons X,take_succ_cons]at x;simp only[head?_cons,Option.some.injEq]at x;exact h0 (by rw[getD,getElem?_eq_getElem X];exact x.symm)
  have S:cu p=aV m++p++nq (fQ 0 p)++[1]:=by unfold cu;rw[if_neg (by omega),t]
  have o:(aV (m:Int)).length=fr-a:=by rw[D,length_take,length_drop];omega
  have u:(cu p).length=fr-a+m+5:=by rw[S,length_append,length_append,length_append,nk,o,t];rfl
  by_cases H:(m:Int)+4>=(b.length:Int)-fr
  .rw [Z,if_pos (.inr H),if_pos (.inl (by omega))]
  rw[Z,if_neg (by omega)];have v:(b.drop a).take (cu p).length=aV m++p++(b.drop (fr+m)).take 4++[b.getD (fr+m+4) 0]:=by
   rw[u,show fr-a+m+5=(fr-a)+(m+(4+1))by omega,xU,drop_drop,<- D,show a+(fr-a)=fr by omega,xU,<- O,drop_drop,xU,drop_drop,
    show fr+m+4=fr+m+4 from rfl,drop_eq_getElem_cons (show fr+m+4<b.length by omega),take_succ_cons,List.take_zero]
   simp[getD,getElem?_eq_getElem (show fr+m+4<b.length by omega)]
  have w:ud ((b.drop fr).take (m+4))=decide (nq (fQ 0 p)=(b.drop (fr+m)).take 4):=by
   have q:((b.drop fr).take (m+4)).length=m+4:=by rw[length_take,length_drop];omega
   unfold ud;rw[q,dT (4<=m+4),Bool.true_and,show m+4-4=m by omega,take_take,show min m (m+4)=m by omega,<- O,drop_take,drop_drop,show m+4-m=4 by omega]
  rw[w];have hiff:(cu p=(b.drop a).take (cu p).length)↔(nq (fQ 0 p)=(b.drop (fr+m)).take 4/\b.getD (fr+m+4) 0=1):=by
   rw[v,S];constructor
   .intro h;have B:=append_inj h (by simp[nk];omega);have y:=append_inj B.1 (by simp);exact⟨y.2,by have:=B.2;simp at this;exact this.symm⟩
   .rintro ⟨B,y⟩;rw[B,y]
  by_cases J:cu p=(b.drop a).take (cu p).length
  .have k:=hiff.1 J
   rw[if_neg (by rw[k.2,decide_eq_true k.1];simp),if_neg (by rintro(h|h);· omega
                                                             .exact h J),u,<- O]
   rw[show fr+m+5=a+(fr-a+m+5)by omega]
  .rw [if_pos (by
    by_cases B:nq (fQ 0 p)=(b.drop (fr+m)).take 4
    .exact .inr λy=>J (hiff.2 ⟨B,y⟩)
    .exact .inl (decide_eq_false B)),if_pos (.inr J)]
def LI(T:∀c∈b,0<=c/\c<=255)(h:(cT b a).2.2=1):∃p,cT b a=(p,a+(cu p).length,1)/\cu p=(b.drop a).take (cu p).length/\a+(cu p).length<=b.length:=by
 have X:¬a>b.length:=λU=>by unfold cT at h;rw[if_pos U]at h;simp at h
 have h0:¬(a=b.length\/b.getD a 0=0):=λU=>by unfold cT at h;rw[if_neg X,if_pos U]at h;simp at h
 cases E:fK b a with
 |none=>unfold cT at h;rw[if_neg X,if_neg h0,E]at h;simp at h
 |some q=>
  obtain⟨n,fr⟩:=q;obtain⟨g1,g2,g3⟩:=IN T (show a<b.length by omega) (λe=>h0 (.inr e)) E;by_cases K:4000<n\/n>(b.length:Int)-fr
  .rw [g2 K]at h;simp at h
  .obtain ⟨g4,m⟩:=g3 (by omega) (by omega) _ rfl;by_cases hd:(cu ((b.drop fr).take n.toNat)).length>b.length-a\/cu ((b.drop fr).take n.toNat)≠(b.drop a).take (cu ((b.drop fr).take n.toNat)).length
   .rw [m,if_pos hd]at h;simp at h
   .rw [if_neg hd]at m;exact⟨_,m,Decidable.not_not.1 λe=>hd (.inr e),by omega⟩
end
def atR(a k:Nat):List (List DV):=(List.range k).map λi=>[i64 ((a+i:Nat):Int)]
def CI:Option (List Int×Int)->Int
 |none=>-1
 |some q=>q.2
def Sv{l:List Int}(T:∀c∈l,0<=c/\c<=255){fr sz k:Nat}{q:List Int×Int}(h:jq l fr sz k=some q):0<=q.2/\q.2<=dS:=by
 unfold jq at h;split at h
 .rw [Option.map_eq_some_iff]at h;obtain⟨⟨n,nx⟩,U,h2⟩:=h;subst h2;have u:∀c∈eL l fr sz k,0<=c/\c<=255:=λc K=>T c (mem_of_mem_drop (mem_of_mem_take K))
  have hr:=gw (λc K=>(u c ((sK (eL l fr sz k) 0).1 c K)).1) U;exact⟨hr.1,hr.2.1⟩
 .cases h
def nC:Option (List Int×Int)->List Int
 |none=>[]
 |some p=>p.1
end Dv
