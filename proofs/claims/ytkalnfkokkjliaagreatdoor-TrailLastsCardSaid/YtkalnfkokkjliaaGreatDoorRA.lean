/- part -/
import Derived.Test.YtkalnfkokkjliaaGreatDoorDB
import Derived.RangeFuncNested
import Derived.RangeFuncBound
import Derived.RangeFuncCalls
import Derived.RangeFuncLeaves
import Derived.Shelf.Abstract
import Derived.Shelf.RegionOpen
import Derived.WalkKit
import Derived.OwnWalkIn
import Derived.TacticsInMore
import Derived.LoopNIn
import Derived.LoopIn
import Derived.Test.YtkalnfkokkjliaaGreatDoorVD
import Derived.RangeFuncWrites
set_option linter.all false
set_option maxHeartbeats 1000000
set_option maxRecDepth 100000
namespace Go.Proofs
open Go.RowKit Go.Shelf
attribute [local go_sem] Oper.semAt_some
def fc (m:Int):Nat→List (Fin 6)
 | 0=>[]
 | k+1=>fc m k++if h:k<6 then (if Dv.hasB m k=true then [⟨k,h⟩] else []) else []
theorem AG (m:Int):∀ k:Nat,(fc m k).length≤k
 | 0=>by simp [fc]
 | k+1=>by
   have:=AG m k
   unfold fc
   rw [List.length_append]
   split
   ·split <;> simp <;> omega
   ·simp; omega
theorem IF (m:Int) (k:Nat) (h:k<6) (hb:Dv.hasB m k=true):fc m (k+1)=fc m k++[⟨k,h⟩]:=by
 rw [fc,dif_pos h,if_pos hb]
theorem MC (m:Int) (k:Nat) (hb:Dv.hasB m k=false):fc m (k+1)=fc m k:=by
 rw [fc]
 split
 ·rw [if_neg (by simp [hb]),List.append_nil]
 ·rw [List.append_nil]
theorem IG (m:Int) (k:Nat) (h:k≤6):fc m k <+: fc m 6:=by
 have:∀ d:Nat,fc m k <+: fc m (k+d):=by
  intro d
  induction d with
  | zero=>exact List.prefix_refl _
  | succ d ih=>
    refine ih.trans ?_
    rw [← Nat.add_assoc,fc]
    exact List.prefix_append _ _
 have:=this (6-k)
 rwa [show k+(6-k)=6 by omega] at this
theorem Li (F:Fence) (n:Nat) (hF:F.fn 322) (hro:F.round=none) (hn:1≤n) (l Bn:Nat) (m:Int) (J Jx:List (Fin 6)→World→Prop)
  (hY:∀ pre x W,J pre W→pre.length<6→YieldAt F (n-1) Tryz.prog l #[.int .i64 (x.val:Nat)] W fun e W'=>
   (e=.returned (.bool true)∧J (pre++[x]) W'∧W'.heap[Bn]? = W.heap[Bn]?)∨(e=.returned (.bool false)∧Jx (pre++[x]) W'))
  (W:World) (hBn:W.cell? ⟨Bn,8,none⟩=some (.int .i64 m)) (h0:J [] W) :
  CallsIn F n Tryz.prog 322 #[.func (.yield l) #[] #[],.pointer (some ⟨Bn,0,none⟩)] W fun e W'=>(∃ v,e=.returned v)∧
   ((∃ ys,ys=fc m 6∧J ys W')∨(∃ pre,pre <+: fc m 6∧Jx pre W')):=by
 refine callsIn_of_wp Tryz.func322 rfl hF ?_ hro
 simp only [Tryz.ntmps322,List.size_toArray,List.length_cons,List.length_nil,Nat.reduceAdd,Nat.reduceSub,Array.replicate_succ,Array.replicate_zero,List.push_toArray,List.append_toArray,List.nil_append,List.cons_append]
 gi_wp2
 gi_loopw [4] (fun p wr=>∃ (k:Nat),p=.int .i64 k∧k≤6∧wr.cell? ⟨Bn,8,none⟩=some (.int .i64 m)∧J (fc m k) wr)
  (fun p wr=>6-(intOf p).toNat)
 case atStart=>
  exact ⟨0,rfl,by omega,hBn,h0⟩
 case round=>
  obtain ⟨k,rfl,hk,hc,hJs⟩:=hrel
  rcases Nat.lt_or_ge k 6 with ZG | ZG
  ·have hlen:=AG m k
   have hand:bits BinOp.and IntKind.i64 (m / 2 ^ k) 1=m / 2 ^ k % 2:=Dv.DL _
   cases hb:Dv.hasB m k with
   | false=>
     have hmod:¬ (m / 2 ^ k % 2=1):=of_decide_eq_false hb
     gi_wp2
     refine ⟨fun _ h=>(by cases h),?_⟩
     gi_wp2
     exact ⟨⟨k+1,by simp,by omega,hc,by rw [MC m k hb]; exact hJs⟩,by simp [intOf]; omega⟩
   | true=>
     have hmod:m / 2 ^ k % 2=1:=of_decide_eq_true hb
     obtain ⟨fn,tmps,assign,body,hy,hR⟩:=hY (fc m k) ⟨k,ZG⟩ wr hJs (by omega)
     have hyes:=IF m k ZG hb
     gi_wp2
     refine hR.mono ?_
     rintro e W3 (⟨rfl,hJ3,Ux⟩ | ⟨rfl,ac5⟩)
     ·have hc3:W3.cell? ⟨Bn,8,none⟩=some (.int .i64 m):=(World.cell?_of_block (a:=⟨Bn,8,none⟩) Ux).trans hc
      gi_wp2
      exact ⟨⟨k+1,by simp,by omega,hc3,by rw [hyes]; exact hJ3⟩,by simp [intOf]; omega⟩
     ·gi_wp2
      refine bodyPost_ret (results_none rfl _ _ _) rfl ?_
      exact ⟨⟨_,rfl⟩,.inr ⟨_,by rw [← hyes]; exact IG m (k+1) (by omega),ac5⟩⟩
  ·obtain rfl:k=6:=by omega
   gi_wp2
   go_end0
   exact ⟨⟨_,rfl⟩,.inl ⟨_,rfl,hJs⟩⟩
end Go.Proofs
namespace Dv
open Go
section
variable {G:Nat→Option (List DV)} {J:Nat→Prop} {w:World} {ι:Nat→Nat→Option Nat} {obj:Nat→b_}
def YG (obj:Nat→b_):Prop:=∀ o es,obj o≠.live (.mp es)
theorem oo (l:List (Option aC)) (h:(l.all fun x=>match x with | some (.mp _)=>false | _=>true)=true):YG (au l):=by
 intro o es he
 unfold au at he
 split at he
 ·cases he
 ·cases he
 ·rename_i ob en
  cases he
  have:=List.all_eq_true.1 h _ (List.mem_of_getElem? en)
  cases this
theorem qX (S:aF G J w ι obj) (hno:YG obj) {b:Nat} (h:Own ι obj b):∃ C t f,w.heap[b]? = some (.cells C t f):=by
 obtain ⟨o,h⟩:=h
 have hr:=S.rep o
 cases hs:obj o with
 | free=>rw [hs] at h; exact h.elim
 | dead=>rw [hs] at h; exact h.elim
 | live ob=>
   rw [hs] at h hr
   cases ob with
   | box et cells=>
     obtain ⟨⟨b',C,h1,h2,_⟩,_⟩:=hr
     cases h1.symm.trans h
     exact ⟨_,_,_,h2⟩
   | dat et aJ rows=>
     obtain ⟨⟨_,h1⟩,_⟩:=hr
     obtain ⟨⟨C,h2⟩,_⟩:=h1 b h
     exact ⟨_,_,_,h2⟩
   | kK et aJ rows=>exact h.elim
   | mp es=>exact absurd hs (hno o es)
   | lr et aJ v cells=>
     obtain ⟨⟨_,h1⟩ | ⟨b',C,h1,h2,_⟩,_⟩:=hr
     ·cases h1.symm.trans h
     cases h1.symm.trans h
     exact ⟨_,_,_,h2⟩
   | mZ et bs=>
     obtain ⟨k,hk,h⟩:=h
     obtain ⟨b',C,h1,h2,_⟩:=hr.1.1 k _ (List.getElem?_eq_getElem hk)
     cases h1.symm.trans h
     exact ⟨_,_,_,h2⟩
theorem Gn.vT {n:Nat} {W W':World} {J':Nat→Prop} {ι':Nat→Nat→Option Nat} (S:aF G J w ι obj) (h:Gn G obj J ι w n W J' ι') (hn:w.heap.size≤n) {row:Option Nat} (hg:W.grownBy W' row) (hr:∀ r,row=some r→w.heap.size≤r∧((r<n∧(W'.shape? r)=W.shape? r)∨∀ C t f,W.heap[r]?≠some (.cells C t f))) (hno:YG obj):Gn G obj J ι w n W' J' ι':=by
 have hlt:∀ b,Own ι obj b→b<w.heap.size:=fun b hb=>by
  exact S.mU hb
 have ne:∀ b,(J' b∨Own ι' obj b)→some b≠row:=fun b hb e=>by
  obtain ⟨h1,h2⟩:=hr b e.symm
  have hc:∃ x,W.heap[b]? = some x∧x.nE=true:=by
   have Gi:∃ C t f,W.heap[b]? = some (.cells C t f):=hb.elim (h.store.jcell b) (qX h.store hno)
   obtain ⟨C,t,f,k⟩:=Gi
   exact ⟨_,k,rfl⟩
  rcases h2 with ⟨h2,_⟩ | h2
  ·rcases hb with hb | hb
   ·rcases h.std b hb with k | k | k
    ·have:=S.BY b k; omega
    ·omega
    ·have:=hlt b k; omega
   ·rcases h.own b hb with k | k
    ·have:=hlt b k; omega
    ·omega
  ·have Gi:∃ C t f,W.heap[b]? = some (.cells C t f):=hb.elim (h.store.jcell b) (qX h.store hno)
   obtain ⟨C,t,f,k⟩:=Gi
   exact h2 C t f k
 have blk:∀ b,(J' b∨Own ι' obj b)→W'.heap[b]? = W.heap[b]?:=fun b hb=>by
  have hc:∃ x,W.heap[b]? = some x∧x.nE=true:=by
   have Gi:∃ C t f,W.heap[b]? = some (.cells C t f):=hb.elim (h.store.jcell b) (qX h.store hno)
   obtain ⟨C,t,f,k⟩:=Gi
   exact ⟨_,k,rfl⟩
  obtain ⟨x,hc,_⟩:=hc
  exact hg.block b (Array.getElem?_eq_some_iff.1 hc).1 (ne b hb)
 have hsz:=h.ext.ev.size
 have shp:∀ b,b<W.heap.size→(W.shape? b).isSome=true→W'.shape? b=W.shape? b:=fun b hb hc=>by
  by_cases e:some b=row
  ·obtain ⟨h1,h2⟩:=hr b e.symm
   rcases h2 with ⟨_,h2⟩ | h2
   ·exact h2
   ·obtain ⟨C,t,f,k⟩:=jX hc
    exact absurd k (h2 C t f)
  ·exact bH (hg.block b hb e)
 refine ⟨h.store.still (fun b hb=>blk b (.inl hb)) (fun b hb=>blk b (.inr hb)) (fun b hb=>?_),⟨⟨hg.os.trans h.ext.ev.os,hg.tape.trans h.ext.ev.tape,hg.output.trans h.ext.ev.output,Nat.le_trans hsz hg.size,fun b hb ho=>?_,fun b hb=>?_,h.ext.ev.gP,h.ext.ev.vQ,h.ext.ev.gQ⟩,h.ext.own⟩,h.own,h.std,Nat.le_trans h.size hg.size⟩
 ·obtain ⟨C,t,f,k⟩:=jX hb
  exact shp b (Array.getElem?_eq_some_iff.1 k).1 hb
 ·rw [hg.block b (by omega) (fun e=>by have:=(hr b e.symm).1; omega)]; exact h.ext.ev.same b hb ho
 ·rw [bH (hg.block b (by omega) (fun e=>by have:=(hr b e.symm).1; omega))]; exact h.ext.ev.shape b hb
end
end Dv
namespace Go.Proofs
open Go.RowKit Go.Shelf
attribute [local go_sem] Oper.semAt_some
theorem Ba {W:World} {B:Nat} {v:Value} {t:TypeId} (h:W.heap[B]? = some (.cells #[v] t (0,0))):W.cell? ⟨B,0,none⟩=some v∧W.frozen? ⟨B,0,none⟩=false:=by
 constructor <;> simp [World.cell?,World.frozen?,h]
theorem AB (W:World) (v:Value) (t:TypeId):(W.alloc (.cells #[v] t)).cell? ⟨W.heap.size,0,none⟩=some v∧(W.alloc (.cells #[v] t)).frozen? ⟨W.heap.size,0,none⟩=false:=
 Ba (World.alloc_heap_new W _)
theorem oL {W:World} {a:Addr} {v:Value} (o:Obj) (h:W.cell? a=some v):(W.alloc o).cell? a=some v:=cell_kept h (World.grownBy_alloc W o none) (fun r e=>by cases e)
theorem Aa {W:World} {a:Addr} {v:Value} (o:Obj) (h:W.cell? a=some v) (hf:W.frozen? a=false):(W.alloc o).frozen? a=false:=(frozen_kept h (World.grownBy_alloc W o none) (fun r e=>by cases e)).trans hf
theorem Ol (F:Fence) (n:Nat) (hF:F.fn 307) (hro:F.round=none) (c0 c1 c2 c3 c4 c5 c6 c7 c8 c9 c10 c11:Int) (w:World) :
  CallsIn F n Tryz.prog 307 #[.agg #[.int .i64 c0,.int .i64 c1,.int .i64 c2,.int .i64 c3,.int .i64 c4,.int .i64 c5,.int .i64 c6,.int .i64 c7,.int .i64 c8,.int .i64 c9,.int .i64 c10,.int .i64 c11]] w fun e w'=>
   e=.returned (.func (.func 322) #[] #[.pointer (some ⟨w.heap.size,0,none⟩)])∧w'=w.alloc (.cells #[.int .i64 c0,.int .i64 c1,.int .i64 c2,.int .i64 c3,.int .i64 c4,.int .i64 c5,.int .i64 c6,.int .i64 c7,.int .i64 c8,.int .i64 c9,.int .i64 c10,.int .i64 c11] 119):=by
 refine callsIn_of_wp Tryz.func307 rfl hF ?_ hro
 simp only [Tryz.ntmps307,List.size_toArray,List.length_cons,List.length_nil,Nat.reduceAdd,Nat.reduceSub,Array.replicate_succ,Array.replicate_zero,List.push_toArray,List.append_toArray,List.nil_append,List.cons_append]
 gi_wp2
 go_ret
 exact ⟨rfl,rfl⟩
theorem EO (F:Fence) (n:Nat) (hF:F.fn 322) (hro:F.round=none) (hn:1≤n) (Bn:Nat) (m:Int) (w:World) (hBn:Bn<w.heap.size) (hc:w.cell? ⟨Bn,8,none⟩=some (.int .i64 m)) :
  SeqStopsK F n Tryz.prog 322 #[.pointer (some ⟨Bn,0,none⟩)] (fun x:Fin 6=>#[Value.int .i64 (x.val:Nat)]) (fun W W'=>W'.heap[Bn]? = W.heap[Bn]?) (fun ys=>ys=fc m 6) (fun pre=>pre <+: fc m 6) 6 w:=fun l J Jx W hW _ _ hY h0=>
 Li F n hF hro hn l Bn m J Jx hY W ((hW.cell (p:=⟨Bn,8,none⟩) hBn).trans hc) h0
def s6 (m:Int) (tk:Fin 6→Bool):Bool:=(fc m 6).all tk
theorem Md {G:Nat→Option (List Dv.DV)} (j:Dv.bP) (t:Nat) (first caps:List Dv.LV) (af:List Dv.aC) (hno:((af.map some).all fun x=>match x with | some (.mp _)=>false | _=>true)=true) (tk:Fin 6→Bool)
  (hT:∀ i:Fin 6,Dv.bh Tryz.prog G t (first++[.int (i.val:Nat)]++caps) af (.bool (tk i)) af) :
  Dv.bh Tryz.prog G 282 [Dv.Dg j,.fn (.func t) first caps] af (.bool (s6 j.nodes tk)) af:=by
 refine ⟨by decide,fun J ι w vs S hR=>?_⟩
 obtain ⟨vl⟩:=vs
 match vl,hR with
 | [vj,vt],⟨hj,ht,_⟩=>
 obtain ⟨cs,rfl,hcs⟩:=hj
 obtain ⟨fs,Qi,rfl,UA,ac1⟩:=ht
 obtain ⟨cl⟩:=cs
 match cl,hcs with
 | [c0,c1,c2,c3,c4,c5,c6,c7,c8,c9,c10,c11],⟨_,e0,_,e1,_,e2,_,e3,_,e4,_,e5,_,e6,_,e7,_,e8,_,e9,_,e10,_,e11,_⟩=>
 simp only [Dv.LV.int,Dv.cT,Dv.jM] at e0 e1 e2 e3 e4 e5 e6 e7 e8 e9 e10 e11
 subst e0 e1 e2 e3 e4 e5 e6 e7 e8 e9 e10 e11
 refine (callsIn_wide (n:=8)).1 ?_
 refine callsIn_of_wp_marks Tryz.func282 rfl trivial ?_ rfl
 simp only [Tryz.ntmps282,List.size_toArray,List.length_cons,List.length_nil,Nat.reduceAdd,Nat.reduceSub,Array.replicate_succ,Array.replicate_zero,List.push_toArray,List.append_toArray,List.nil_append,List.cons_append]
 gi_wp2_with (refine ⟨trivial,?_⟩; gi_at_call 307; refine (Ol _ _ trivial rfl _ _ _ _ _ _ _ _ _ _ _ _ _).mono ?_; rintro e w' ⟨rfl,rfl⟩)
 obtain ⟨W0,hW0⟩:∃ W0,(((w.alloc (Obj.cells #[Value.int IntKind.i64 j.queue,Value.int IntKind.i64 j.prio,Value.int IntKind.i64 j.min,Value.int IntKind.i64 j.max,Value.int IntKind.i64 j.work,Value.int IntKind.i64 j.pin,Value.int IntKind.i64 j.phase,Value.int IntKind.i64 j.inc,Value.int IntKind.i64 j.nodes,Value.int IntKind.i64 j.since,Value.int IntKind.i64 j.til,Value.int IntKind.i64 j.epoch] 119)).alloc (Obj.cells #[Value.func (Fn.func t) fs Qi] 191)).alloc (Obj.cells #[Value.bool false] 4)).alloc (Obj.cells #[Value.int IntKind.i64 j.queue,Value.int IntKind.i64 j.prio,Value.int IntKind.i64 j.min,Value.int IntKind.i64 j.max,Value.int IntKind.i64 j.work,Value.int IntKind.i64 j.pin,Value.int IntKind.i64 j.phase,Value.int IntKind.i64 j.inc,Value.int IntKind.i64 j.nodes,Value.int IntKind.i64 j.since,Value.int IntKind.i64 j.til,Value.int IntKind.i64 j.epoch] 119)=W0:=⟨_,rfl⟩
 have hsz:W0.heap.size=w.heap.size+4:=by rw [← hW0]; simp
 have hB0:Below w.heap.size w W0:=by
  rw [← hW0]
  exact ((((Below.refl _ w).alloc (Nat.le_refl _) _).alloc (by simp) _).alloc (by simp; omega) _).alloc (by simp; omega) _
 rw [hW0]
 have hM0:=Dv.Gn.start S hB0.os hB0.tape hB0.output hB0.size (fun b hb=>hB0.block b hb)
 have c1:=AB (w.alloc (Obj.cells #[Value.int IntKind.i64 j.queue,Value.int IntKind.i64 j.prio,Value.int IntKind.i64 j.min,Value.int IntKind.i64 j.max,Value.int IntKind.i64 j.work,Value.int IntKind.i64 j.pin,Value.int IntKind.i64 j.phase,Value.int IntKind.i64 j.inc,Value.int IntKind.i64 j.nodes,Value.int IntKind.i64 j.since,Value.int IntKind.i64 j.til,Value.int IntKind.i64 j.epoch] 119)) (Value.func (Fn.func t) fs Qi) 191
 have c2:=AB ((w.alloc (Obj.cells #[Value.int IntKind.i64 j.queue,Value.int IntKind.i64 j.prio,Value.int IntKind.i64 j.min,Value.int IntKind.i64 j.max,Value.int IntKind.i64 j.work,Value.int IntKind.i64 j.pin,Value.int IntKind.i64 j.phase,Value.int IntKind.i64 j.inc,Value.int IntKind.i64 j.nodes,Value.int IntKind.i64 j.since,Value.int IntKind.i64 j.til,Value.int IntKind.i64 j.epoch] 119)).alloc (Obj.cells #[Value.func (Fn.func t) fs Qi] 191)) (Value.bool false) 4
 simp only [World.size_alloc] at c1 c2
 have hc1:W0.cell? ⟨w.heap.size+1,0,none⟩=some (Value.func (Fn.func t) fs Qi):=by rw [← hW0]; exact oL _ (oL _ c1.1)
 have Gi:W0.cell? ⟨w.heap.size+1+1,0,none⟩=some (Value.bool false):=by rw [← hW0]; exact oL _ c2.1
 have hf2:W0.frozen? ⟨w.heap.size+1+1,0,none⟩=false:=by rw [← hW0]; exact Aa _ c2.1 c2.2
 have hc3:W0.cell? ⟨w.heap.size+1+1+1,8,none⟩=some (Value.int IntKind.i64 j.nodes):=by
  rw [← hW0]
  simp only [World.cell?]
  have:=World.alloc_heap_new (((w.alloc (Obj.cells #[Value.int IntKind.i64 j.queue,Value.int IntKind.i64 j.prio,Value.int IntKind.i64 j.min,Value.int IntKind.i64 j.max,Value.int IntKind.i64 j.work,Value.int IntKind.i64 j.pin,Value.int IntKind.i64 j.phase,Value.int IntKind.i64 j.inc,Value.int IntKind.i64 j.nodes,Value.int IntKind.i64 j.since,Value.int IntKind.i64 j.til,Value.int IntKind.i64 j.epoch] 119)).alloc (Obj.cells #[Value.func (Fn.func t) fs Qi] 191)).alloc (Obj.cells #[Value.bool false] 4)) (Obj.cells #[Value.int IntKind.i64 j.queue,Value.int IntKind.i64 j.prio,Value.int IntKind.i64 j.min,Value.int IntKind.i64 j.max,Value.int IntKind.i64 j.work,Value.int IntKind.i64 j.pin,Value.int IntKind.i64 j.phase,Value.int IntKind.i64 j.inc,Value.int IntKind.i64 j.nodes,Value.int IntKind.i64 j.since,Value.int IntKind.i64 j.til,Value.int IntKind.i64 j.epoch] 119)
  simp only [World.size_alloc] at this
  rw [this]; rfl
 refine wpIn_rangeFunc_ownG (n:=8) rfl (by decide) (gf:=322) (lb:=#[.pointer (some ⟨w.heap.size+1+1+1,0,none⟩)]) rfl trivial (enters_of Tryz.func322 (by kernel_rfl) rfl)
  (EO Fence.wide 7 trivial rfl (by decide) (w.heap.size+1+1+1) j.nodes W0 (by omega) hc3) (fun h k=>k.trans h) (fun W l o o' hl _ _ _=>World.putObj_heap_other (by omega)) (Below.refl _ _) (fun _=>rfl)
  (fun pre W=>(pre.all tk=true∧W.cell? ⟨w.heap.size+1,0,none⟩=some (Value.func (Fn.func t) fs Qi)∧W.cell? ⟨w.heap.size+1+1,0,none⟩=some (.bool false)∧W.frozen? ⟨w.heap.size+1+1,0,none⟩=false)∧∃ J' ι',Dv.Gn G (Dv.au (List.map some af)) J ι w W0.heap.size W J' ι')
  (fun c pre W=>(c=.ret∧pre.all tk=false∧W.cell? ⟨w.heap.size+1+1,0,none⟩=some (.bool false))∧∃ J' ι',Dv.Gn G (Dv.au (List.map some af)) J ι w W0.heap.size W J' ι')
  ?own (fun c=>?ownx) ⟨⟨rfl,hc1,Gi,hf2⟩,J,ι,hM0⟩
  (fun x=>{ tmps:=#[.agg #[Value.int IntKind.i64 j.queue,Value.int IntKind.i64 j.prio,Value.int IntKind.i64 j.min,Value.int IntKind.i64 j.max,Value.int IntKind.i64 j.work,Value.int IntKind.i64 j.pin,Value.int IntKind.i64 j.phase,Value.int IntKind.i64 j.inc,Value.int IntKind.i64 j.nodes,Value.int IntKind.i64 j.since,Value.int IntKind.i64 j.til,Value.int IntKind.i64 j.epoch],.func (.func t) fs Qi,.pointer (some ⟨w.heap.size,0,none⟩),.pointer (some ⟨w.heap.size+1,0,none⟩),.pointer (some ⟨w.heap.size+1+1,0,none⟩),.int .i64 (x.val:Nat),.agg #[Value.int IntKind.i64 j.queue,Value.int IntKind.i64 j.prio,Value.int IntKind.i64 j.min,Value.int IntKind.i64 j.max,Value.int IntKind.i64 j.work,Value.int IntKind.i64 j.pin,Value.int IntKind.i64 j.phase,Value.int IntKind.i64 j.inc,Value.int IntKind.i64 j.nodes,Value.int IntKind.i64 j.since,Value.int IntKind.i64 j.til,Value.int IntKind.i64 j.epoch],.func (.func 322) #[] #[.pointer (some ⟨w.heap.size+1+1+1,0,none⟩)],.int .i64 (x.val:Nat),undef,undef,undef,undef],defers:=[] }) ?assign ?body ?done ?stop
 case own=>
  refine OwnFrom.and (Own.from (fun s A B row hs hg hr=>⟨hs.1,cell_kept hs.2.1 hg hr,cell_kept hs.2.2.1 hg hr,(frozen_kept hs.2.2.1 hg hr).trans hs.2.2.2⟩) _) ?_
  rintro s A B row ⟨J',ι',hm⟩ hg hr
  exact ⟨J',ι',hm.vT S (by omega) hg (fun r e=>by
   obtain ⟨h1,o,h2,h3⟩:=hr r e
   exact ⟨by omega,.inr (fun C t f h=>by rw [h] at h2; cases h2; cases h3)⟩) (Dv.oo _ hno)⟩
 case ownx=>
  refine OwnFrom.and (Own.from (fun s A B row hs hg hr=>⟨hs.1,hs.2.1,cell_kept hs.2.2 hg hr⟩) _) ?_
  rintro s A B row ⟨J',ι',hm⟩ hg hr
  exact ⟨J',ι',hm.vT S (by omega) hg (fun r e=>by
   obtain ⟨h1,o,h2,h3⟩:=hr r e
   exact ⟨by omega,.inr (fun C t f h=>by rw [h] at h2; cases h2; cases h3)⟩) (Dv.oo _ hno)⟩
 case assign=>
  intro l x W K hK
  gi_wp2
  exact hK
 case body=>
  rintro l pre x W ⟨⟨hp,hc1,Gi,hf2⟩,J',ι',hm⟩ hlen
  gi_wp2
  refine ⟨trivial,?_⟩
  rw [show (Sem.run Tryz.prog (callFunc t (fs.push (Value.int IntKind.i64 ↑↑x)++Qi)) W)=.ok (.enter t (fs.push (Value.int IntKind.i64 ↑↑x)++Qi)) W from Dv.nK (hT x).1 _ _,Oper.uponIn_enter]
  refine ⟨fun h=>(by cases h),?_⟩
  have Fv:=(hT x).2 J' ι' W (fs.push (Value.int IntKind.i64 ↑↑x)++Qi) hm.store (by
   simp only [Array.toList_append,Array.toList_push]
   refine Dv.ck.append (Dv.ck.append (Dv.ck.ev S hm.ext.ev UA) ⟨rfl,trivial⟩) (Dv.ck.ev S hm.ext.ev ac1))
  refine CallsIn.mono (CallsIn.inRound l (callsIn_wide.2 Fv)) ?_
  rintro e W2 ⟨v,rfl,hA⟩
  obtain ⟨J2,xK,hm2,hv,hsame,abd⟩:=hm.call S (by omega) hA
  obtain rfl:v=.bool (tk x):=hv
  have abt:∀ (k:Nat) (o:Obj),W0.heap.size≤k→W.heap[k]? = some o→o.isCells=false→W2.heap[k]? = some o:=fun k o _ hk ho=>(hsame k (Array.getElem?_eq_some_iff.1 hk).1 (fun hw=>by
   obtain ⟨C,t,f,h⟩:=Dv.qX hm.store (Dv.oo _ hno) hw
   rw [h] at hk; cases hk; cases ho)).trans hk
  have hown:∀ b,w.heap.size≤b→b<W0.heap.size→W2.heap[b]? = W.heap[b]?:=fun b h1 h2=>hsame b (by have:=hm.size; omega) (hm.mine S h1 h2)
  have d1:W2.cell? ⟨w.heap.size+1,0,none⟩=some (Value.func (Fn.func t) fs Qi):=by rw [Dv.jd (hown _ (by omega) (by omega))]; exact hc1
  have d2:W2.cell? ⟨w.heap.size+1+1,0,none⟩=some (Value.bool false):=by rw [Dv.jd (hown _ (by omega) (by omega))]; exact Gi
  have g2:W2.frozen? ⟨w.heap.size+1+1,0,none⟩=false:=by simp only [World.frozen?,hown _ (show w.heap.size≤w.heap.size+1+1 by omega) (by omega)]; exact hf2
  simp only []
  gi_wp2
  ·rename_i hx
   have hk:KeepsFrom W0.heap.size W (W2.setCell ⟨w.heap.size+1+1,0,none⟩ (.bool false)):=KeepsFrom.trans ⟨abd,abt⟩ ((KeepsOthers.setCell _ _ _).from _)
   refine ⟨hk,⟨rfl,?_,World.cell?_setCell_same' _ _ _ (by rw [d2]; rfl)⟩,J2,xK,hm2.vT S (by omega) (grownBy_setCell' _ _ _) (fun r e=>by cases e; exact ⟨by omega,.inl ⟨by omega,Dv.iR _ [_] 0 _ _⟩⟩) (Dv.oo _ hno)⟩
   rw [List.all_append]; simp only [List.all_cons,List.all_nil,Bool.and_true,Bool.and_eq_false_iff]
   exact .inr (by simpa using hx)
  ·rename_i hx
   have hx:tk x=true:=by simpa using hx
   exact ⟨⟨abd,abt⟩,hown _ (by omega) (by omega),⟨by rw [List.all_append,hp]; simp [hx],d1,d2,g2⟩,J2,xK,hm2⟩
 case done=>
  rintro D ys W hD rfl ⟨⟨hp,hc1,Gi,hf2⟩,J',ι',hm⟩ hK
  gi_wp2
  have AR:=(KeepsOthers.setCell W ⟨w.heap.size+1+1,0,none⟩ (.bool true)).same D _ hK rfl
  refine ⟨by simp,.inl ⟨_,_,rfl,run_takeDeferred AR,?_⟩⟩
  have hc5:=cell_kept (World.cell?_setCell_same' W ⟨w.heap.size+1+1,0,none⟩ (.bool true) (by rw [Gi]; rfl)) (grownBy_putObj' _ D (.deferred none)) (fun r e=>by cases e; exact ⟨_,AR,rfl⟩)
  have hm2:=hm.vT S (by omega) (grownBy_setCell' W (w.heap.size+1+1) (.bool true)) (fun r e=>by cases e; exact ⟨by omega,.inl ⟨by omega,Dv.iR _ [_] 0 _ _⟩⟩) (Dv.oo _ hno)
  have hm3:=hm2.vT S (by omega) (grownBy_putObj' _ D (.deferred none)) (fun r e=>by cases e; exact ⟨by omega,.inr (fun C t f h=>by rw [AR] at h; cases h)⟩) (Dv.oo _ hno)
  refine ⟨.bool true,?_,.bool true,rfl,J',ι',hm3.store,?_,hm3.ext⟩
  ·simp [results,Tryz.f282,go_sem,hc5]
  ·show Value.bool true=Value.bool (s6 j.nodes tk)
   rw [s6,hp]
 case stop=>
  rintro D c pre W hD hpre ⟨⟨rfl,hp,Gi⟩,J',ι',hm⟩ hK
  gi_wp2
  refine ⟨by simp,.inl ⟨_,_,rfl,run_takeDeferred hK,?_⟩⟩
  have hc5:=cell_kept Gi (grownBy_putObj' _ D (.deferred none)) (fun r e=>by cases e; exact ⟨_,hK,rfl⟩)
  have hm3:=hm.vT S (by omega) (grownBy_putObj' _ D (.deferred none)) (fun r e=>by cases e; exact ⟨by omega,.inr (fun C t f h=>by rw [hK] at h; cases h)⟩) (Dv.oo _ hno)
  refine ⟨.bool false,?_,.bool false,rfl,J',ι',hm3.store,?_,hm3.ext⟩
  ·simp [results,Tryz.f282,go_sem,hc5]
  ·show Value.bool false=Value.bool (s6 j.nodes tk)
   congr 1
   symm
   rw [s6,List.all_eq_false]
   obtain ⟨y,hy,hy2⟩:=List.all_eq_false.1 hp
   exact ⟨y,hpre.subset hy,hy2⟩
end Go.Proofs
