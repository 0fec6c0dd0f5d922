/- part -/
import Derived.Test.YtkalnfkokkjliaaGreatDoorT8
import Derived.RangeFuncWrites
import Derived.Test.YtkalnfkokkjliaaGreatDoorVD
set_option linter.all false
set_option maxHeartbeats 2000000
set_option maxRecDepth 100000
namespace Dv
open Go Go.Proofs
def pQ (mx:Int) (p:Int×Int) (n:Int):Int×Int:=if p.2<Qk mx (n % 64) then (n,Qk mx (n % 64)) else p
theorem Az (s:aa) (j:bP) (set:Int) (hn:s.nodes.length≤6):∀ (l:List Int) (p:Int×Int),(AA s j set l).foldl (fun q x=>pQ j.max q x.2) p=((l.filter (okV s j set)).map (fI s set)).foldl (tL j.max) p
 | [],p=>rfl
 | v::l,p=>by
   rw [AA]
   by_cases h:okV s j set v=true
   ·rw [if_pos h,List.filter_cons_of_pos h,List.map_cons,List.foldl_cons,List.foldl_cons,Az s j set hn l]
    congr 1
    have h6:=tW s set v hn
    show pQ j.max p (fI s set v)=tL j.max p (fI s set v)
    unfold pQ tL
    rw [Int.emod_eq_of_lt h6.1 h6.2]
   ·rw [if_neg h,List.filter_cons_of_neg h,Az s j set hn l]
theorem I9 (mx:Int):∀ (l:List Int) (p:Int×Int),fS p.1→(∀ n∈l,fS n)→fS (l.foldl (tL mx) p).1
 | [],p,h,_=>h
 | n::l,p,h,hl=>by
   rw [List.foldl_cons]
   refine I9 mx l _ ?_ (fun m hm=>hl m (List.mem_cons_of_mem _ hm))
   unfold tL
   split
   ·exact hl n List.mem_cons_self
   ·exact h
theorem U7 (s:aa) (j:bP) (set:Int) (hn:s.nodes.length≤6):fS (nM s j set).1:=by
 refine I9 j.max _ _ ⟨by decide,by decide⟩ (fun n hn2=>?_)
 unfold chs at hn2
 obtain ⟨v,_,rfl⟩:=List.mem_map.1 hn2
 exact tW s set v hn
theorem ZZ:∀ a:Fin 64,bits BinOp.and IntKind.i64 (a.val:Int) 63=(a.val:Int):=by decide +kernel
end Dv
namespace Go.Proofs
open Go.RowKit Go.Shelf
attribute [local go_sem] Oper.semAt_some
def Yn (Q:Exit→Act→World→Prop):Exit→Act→World→Prop
 | .normal,a,w=>Q .normal a w
 | _,_,_=>False
theorem Ku {F:Fence} {n:Nat} {P:Program} {c:Code} {Q:Exit→Act→World→Prop} {a:Act} {w:World} (h:c.wpIn F n P (Yn Q) a w):c.wpIn F n P Q a w:=
 wpIn_mono h (fun e a w h=>by cases e <;> first | exact h | exact h.elim)
theorem oZ:∀ (os:List Obj) (w:World) (k:Nat),k<w.heap.size→(os.foldl (fun W o=>W.alloc o) w).heap[k]? = w.heap[k]?
 | [],w,k,_=>rfl
 | x::os,w,k,h=>(oZ os (w.alloc x) k (by simp; omega)).trans (Below.heap_alloc _ _ _ h)
theorem wT:∀ (os:List Obj) (w:World) (i:Nat) (o:Obj),os[i]? = some o→(os.foldl (fun W o=>W.alloc o) w).heap[w.heap.size+i]? = some o
 | [],w,i,o,h=>by simp at h
 | x::os,w,0,o,h=>by
   simp only [List.getElem?_cons_zero,Option.some.injEq] at h
   subst h
   exact (oZ os (w.alloc x) w.heap.size (by simp)).trans (World.alloc_heap_new w x)
 | x::os,w,i+1,o,h=>by
   have:=wT os (w.alloc x) i o (by simpa using h)
   rw [World.size_alloc] at this
   rwa [show w.heap.size+(i+1)=w.heap.size+1+i by omega]
theorem tq.trans {B1 B2:Nat} {X Y Z:World} (h:tq B1 B2 X Y) (k:tq B1 B2 Y Z):tq B1 B2 X Z:=
 ⟨k.os.trans h.os,k.tape.trans h.tape,k.output.trans h.output,Nat.le_trans h.size k.size,fun i C t f h1 h2 hc=>k.same i C t f h1 h2 (h.same i C t f h1 h2 hc),fun i hi=>by
  have e:=h.shape i hi
  rw [k.shape i (by rw [e]; exact hi),e]⟩
theorem tq.put {B1 B2:Nat} (W:World) (l:Nat) (o o':Obj) (hl:W.heap[l]? = some o) (ho:o.isCells=false):tq B1 B2 W (W.putObj l o'):=
 ⟨rfl,rfl,rfl,by simp,fun k C t f _ _ hk=>(World.putObj_heap_other (fun e=>by subst e; rw [hl] at hk; cases hk; cases ho)).trans hk,fun k hk=>by
  by_cases e:k=l
  ·subst e
   unfold World.shape? at hk
   rw [hl] at hk
   cases o <;> first | (cases ho; done) | (cases hk; done)
  ·exact Dv.bH (World.putObj_heap_other e)⟩
theorem tq.aav {B1 B2:Nat} {W:World} {t:TypeId} {v:Value} (v':Value) (b:Nat) (hb:b=B1∨b=B2) (h:Boxed W b t v):tq B1 B2 W (W.setCell ⟨b,0,none⟩ v'):=
 ⟨rfl,rfl,rfl,(KeepsWalks.setCell W _ v').size,fun k C t f h1 h2 hk=>(Below.heap_setCell W _ v' k (by rcases hb with rfl | rfl; exact h1; exact h2)).trans hk,fun k hk=>by
  by_cases e:k=b
  ·subst e
   have:=(h.set v')
   unfold World.shape?
   rw [show (W.setCell ⟨k,0,none⟩ v').heap[k]? = _ from this,show W.heap[k]? = _ from h]
   rfl
  ·exact Dv.bH (Below.heap_setCell W _ v' k e)⟩
theorem y7 {G:Nat→Option (List Dv.DV)} (s:Dv.aa) (j:Dv.bP) (set:Int) (hn:s.nodes.length≤6) (hs6:Dv.fS set) (hmx:0≤j.max∧j.max≤6) :
  Dv.bh Tryz.prog G 326 [Dv.aY s,Dv.Dg j,.int set] [] (.dH [.int (Dv.jk s j set).1,.bool (Dv.jk s j set).2]) []:=by
 refine ⟨by decide,fun J ι w vs S hR=>?_⟩
 obtain ⟨vl⟩:=vs
 match vl,hR with
 | [va,vj,vk],⟨ha,hj,hk,_⟩=>
 have hk:vk=.int .i64 set:=hk
 subst hk
 obtain ⟨cs,rfl,hcs⟩:=ha
 obtain ⟨cl⟩:=cs
 obtain ⟨js,rfl,hjs⟩:=hj
 obtain ⟨jl⟩:=js
 match cl,hcs,jl,hjs with
 | [x0,x1,x2,x3,x4,x5],hcs,[c0,c1,c2,c3,c4,c5,c6,c7,c8,c9,c10,c11],⟨_,e0,_,e1,_,e2,_,e3,_,e4,_,e5,_,e6,_,e7,_,e8,_,e9,_,e10,_,e11,_⟩=>
 simp only [Dv.LV.int,Dv.cT,Dv.jM] at e0 e1 e2 e3 e4 e5 e6 e7 e8 e9 e10 e11
 subst e0 e1 e2 e3 e4 e5 e6 e7 e8 e9 e10 e11
 have hds:=Dv.kX (ds:=[.dK 5 (s.nodes.map Dv.bX),.dK 12 (s.jobs.map Dv.dF),Dv.i64 s.goal,Dv.i64 s.prior,Dv.i64 s.mode,Dv.i64 s.term]) rfl hcs.AP
 have hone:=hcs.one
 refine (callsIn_wide (n:=8)).1 ?_
 refine callsIn_of_wp_marks Tryz.func326 rfl trivial ?_ rfl
 simp only [Tryz.ntmps326,List.size_toArray,List.length_cons,List.length_nil,Nat.reduceAdd,Nat.reduceSub,Array.replicate_succ,Array.replicate_zero,List.push_toArray,List.append_toArray,List.nil_append,List.cons_append]
 gi_wp2_with (refine ⟨trivial,?_⟩; gi_at_call 336; refine (Iv _ _ _ _ _ _ _ _ _ _ _ _ _ _ _ _ _ _ _ _ _).mono ?_; rintro e w' ⟨rfl,rfl⟩)
 obtain ⟨mset,rfl,hmset⟩:=hs6.nat
 have hset:bits BinOp.and IntKind.i64 (mset:Int) 63=(mset:Int):=Dv.ZZ ⟨mset,hmset⟩
 rw [hset]
 obtain ⟨W0,hW0⟩:∃ W0,(((((((w.alloc (Obj.cells #[x0,x1,x2,x3,x4,x5] 30)).alloc (Obj.cells #[Value.int IntKind.i64 j.queue,Value.int IntKind.i64 j.prio,Value.int IntKind.i64 j.min,Value.int IntKind.i64 j.max,Value.int IntKind.i64 j.work,Value.int IntKind.i64 j.pin,Value.int IntKind.i64 j.phase,Value.int IntKind.i64 j.inc,Value.int IntKind.i64 j.nodes,Value.int IntKind.i64 j.since,Value.int IntKind.i64 j.til,Value.int IntKind.i64 j.epoch] 119)).alloc (Obj.cells #[Value.int IntKind.i64 0] 3)).alloc (Obj.cells #[Value.int IntKind.i64 0] 3)).alloc (Obj.cells #[x0,x1,x2,x3,x4,x5] 30)).alloc (Obj.cells #[Value.int IntKind.i64 j.queue,Value.int IntKind.i64 j.prio,Value.int IntKind.i64 j.min,Value.int IntKind.i64 j.max,Value.int IntKind.i64 j.work,Value.int IntKind.i64 j.pin,Value.int IntKind.i64 j.phase,Value.int IntKind.i64 j.inc,Value.int IntKind.i64 j.nodes,Value.int IntKind.i64 j.since,Value.int IntKind.i64 j.til,Value.int IntKind.i64 j.epoch] 119)).alloc (Obj.cells #[Value.int IntKind.i64 (mset:Int)] 3))=W0:=⟨_,rfl⟩
 have hsz:W0.heap.size=w.heap.size+7:=by rw [← hW0]; simp
 have hB0:Below w.heap.size w W0:=by
  rw [← hW0]
  exact (((((((Below.refl _ w).alloc (Nat.le_refl _) _).alloc (by simp) _).alloc (by simp; omega) _).alloc (by simp; omega) _).alloc (by simp; omega) _).alloc (by simp; omega) _).alloc (by simp; omega) _
 have hat:∀ k o,w.heap.size≤k→[Obj.cells #[x0,x1,x2,x3,x4,x5] 30,Obj.cells #[Value.int IntKind.i64 j.queue,Value.int IntKind.i64 j.prio,Value.int IntKind.i64 j.min,Value.int IntKind.i64 j.max,Value.int IntKind.i64 j.work,Value.int IntKind.i64 j.pin,Value.int IntKind.i64 j.phase,Value.int IntKind.i64 j.inc,Value.int IntKind.i64 j.nodes,Value.int IntKind.i64 j.since,Value.int IntKind.i64 j.til,Value.int IntKind.i64 j.epoch] 119,Obj.cells #[Value.int IntKind.i64 0] 3,Obj.cells #[Value.int IntKind.i64 0] 3,Obj.cells #[x0,x1,x2,x3,x4,x5] 30,Obj.cells #[Value.int IntKind.i64 j.queue,Value.int IntKind.i64 j.prio,Value.int IntKind.i64 j.min,Value.int IntKind.i64 j.max,Value.int IntKind.i64 j.work,Value.int IntKind.i64 j.pin,Value.int IntKind.i64 j.phase,Value.int IntKind.i64 j.inc,Value.int IntKind.i64 j.nodes,Value.int IntKind.i64 j.since,Value.int IntKind.i64 j.til,Value.int IntKind.i64 j.epoch] 119,Obj.cells #[Value.int IntKind.i64 (mset:Int)] 3][k-w.heap.size]? = some o→W0.heap[k]? = some o:=fun k o hk ho=>by
  have:=wT _ w _ o ho
  rw [Nat.add_sub_cancel' hk] at this
  rw [← hW0]
  exact this
 rw [hW0]
 have g1:W0.heap[w.heap.size+1]? = some (Obj.cells #[Value.int IntKind.i64 j.queue,Value.int IntKind.i64 j.prio,Value.int IntKind.i64 j.min,Value.int IntKind.i64 j.max,Value.int IntKind.i64 j.work,Value.int IntKind.i64 j.pin,Value.int IntKind.i64 j.phase,Value.int IntKind.i64 j.inc,Value.int IntKind.i64 j.nodes,Value.int IntKind.i64 j.since,Value.int IntKind.i64 j.til,Value.int IntKind.i64 j.epoch] 119 (0,0)):=hat _ _ (by omega) (by rw [Nat.add_sub_cancel_left]; rfl)
 have g2:Boxed W0 (w.heap.size+1+1) 3 (.int .i64 0):=hat _ _ (by omega) (by rw [show w.heap.size+1+1-w.heap.size=2 by omega]; rfl)
 have g3:Boxed W0 (w.heap.size+1+1+1) 3 (.int .i64 0):=hat _ _ (by omega) (by rw [show w.heap.size+1+1+1-w.heap.size=3 by omega]; rfl)
 have g4:W0.heap[w.heap.size+1+1+1+1]? = some (Obj.cells #[x0,x1,x2,x3,x4,x5] 30 (0,0)):=hat _ _ (by omega) (by rw [show w.heap.size+1+1+1+1-w.heap.size=4 by omega]; rfl)
 have g5:W0.heap[w.heap.size+1+1+1+1+1]? = some (Obj.cells #[Value.int IntKind.i64 j.queue,Value.int IntKind.i64 j.prio,Value.int IntKind.i64 j.min,Value.int IntKind.i64 j.max,Value.int IntKind.i64 j.work,Value.int IntKind.i64 j.pin,Value.int IntKind.i64 j.phase,Value.int IntKind.i64 j.inc,Value.int IntKind.i64 j.nodes,Value.int IntKind.i64 j.since,Value.int IntKind.i64 j.til,Value.int IntKind.i64 j.epoch] 119 (0,0)):=hat _ _ (by omega) (by rw [show w.heap.size+1+1+1+1+1-w.heap.size=5 by omega]; rfl)
 have g6:Boxed W0 (w.heap.size+1+1+1+1+1+1) 3 (.int .i64 (mset:Int)):=hat _ _ (by omega) (by rw [show w.heap.size+1+1+1+1+1+1-w.heap.size=6 by omega]; rfl)
 clear hat hW0
 have hst:∀ A,Below w.heap.size w A→Dv.aF G J A ι (Dv.au []):=fun A hb=>S.still (fun b h=>hb.block b (S.BY b h)) (fun b h=>hb.block b (S.mU h)) (fun b h=>Dv.bH (hb.block b (Dv.gA h)))
 refine wpIn_rangeFunc_ownG (n:=8) rfl (by decide) (gf:=349) (lb:=#[.pointer (some ⟨w.heap.size+1+1+1+1,0,none⟩),.pointer (some ⟨w.heap.size+1+1+1+1+1,0,none⟩),.pointer (some ⟨w.heap.size+1+1+1+1+1+1,0,none⟩)]) rfl trivial (enters_of Tryz.func349 (by kernel_rfl) rfl)
  (encs:=fun x:Int×Int=>#[.int .i64 x.1,.int .i64 x.2]) (Kp:=tq (w.heap.size+1+1) (w.heap.size+1+1+1)) (S:=fun ys=>ys=Dv.AA s j mset (Dv.Cv (Dv.fM s))) (Sp:=fun _=>True) (N:=10) (w0:=W0)
  (fun l I Jx W hbw hIa _ hY h0=>?seq) (fun h k=>h.trans k) (fun W l o o' hl ho hc hw=>?kb) (Below.refl _ _) (fun _=>rfl)
  (fun pre W=>Below w.heap.size w W∧Boxed W (w.heap.size+1+1) 3 (.int .i64 (pre.foldl (fun q x=>Dv.pQ j.max q x.2) (0,0)).1)∧Boxed W (w.heap.size+1+1+1) 3 (.int .i64 (pre.foldl (fun q x=>Dv.pQ j.max q x.2) (0,0)).2)∧W.heap[w.heap.size+1]? = some (Obj.cells #[Value.int IntKind.i64 j.queue,Value.int IntKind.i64 j.prio,Value.int IntKind.i64 j.min,Value.int IntKind.i64 j.max,Value.int IntKind.i64 j.work,Value.int IntKind.i64 j.pin,Value.int IntKind.i64 j.phase,Value.int IntKind.i64 j.inc,Value.int IntKind.i64 j.nodes,Value.int IntKind.i64 j.since,Value.int IntKind.i64 j.til,Value.int IntKind.i64 j.epoch] 119 (0,0))∧W0.heap.size≤W.heap.size)
  (fun _ _ _=>False) ?own (fun c=>fun _ _ _ _ h=>h.elim) ⟨hB0,g2,g3,g1,Nat.le_refl _⟩
  (fun x=>{ tmps:=#[.agg #[x0,x1,x2,x3,x4,x5],.agg #[Value.int IntKind.i64 j.queue,Value.int IntKind.i64 j.prio,Value.int IntKind.i64 j.min,Value.int IntKind.i64 j.max,Value.int IntKind.i64 j.work,Value.int IntKind.i64 j.pin,Value.int IntKind.i64 j.phase,Value.int IntKind.i64 j.inc,Value.int IntKind.i64 j.nodes,Value.int IntKind.i64 j.since,Value.int IntKind.i64 j.til,Value.int IntKind.i64 j.epoch],.int .i64 (mset:Int),.pointer (some ⟨w.heap.size,0,none⟩),.pointer (some ⟨w.heap.size+1,0,none⟩),undef,.int .i64 0,.bool false,.pointer (some ⟨w.heap.size+1+1,0,none⟩),.pointer (some ⟨w.heap.size+1+1+1,0,none⟩),undef,.int .i64 x.2,undef,.agg #[x0,x1,x2,x3,x4,x5],.agg #[Value.int IntKind.i64 j.queue,Value.int IntKind.i64 j.prio,Value.int IntKind.i64 j.min,Value.int IntKind.i64 j.max,Value.int IntKind.i64 j.work,Value.int IntKind.i64 j.pin,Value.int IntKind.i64 j.phase,Value.int IntKind.i64 j.inc,Value.int IntKind.i64 j.nodes,Value.int IntKind.i64 j.since,Value.int IntKind.i64 j.til,Value.int IntKind.i64 j.epoch],.int .i64 (mset:Int),.int .i64 (mset:Int),.func (.func 349) #[] #[.pointer (some ⟨w.heap.size+1+1+1+1,0,none⟩),.pointer (some ⟨w.heap.size+1+1+1+1+1,0,none⟩),.pointer (some ⟨w.heap.size+1+1+1+1+1+1,0,none⟩)],.int .i64 x.1,.int .i64 x.2,undef,undef,undef,undef,undef,undef,undef,undef,undef,undef,undef,undef,undef,undef,undef,undef],defers:=[] }) ?assign ?body ?done (fun _ _ _ _ _ _ h=>h.elim)
 case seq=>
  have hC:∀ k,k<W0.heap.size→W.heap[k]? = W0.heap[k]?:=fun k hk=>hbw.block k hk
  have hBW:Below w.heap.size w W:=hB0.trans (hbw.mono (by omega))
  exact FV s j mset hn ⟨by omega,by omega⟩ 7 (by decide) l _ _ _ (w.heap.size+1+1) (w.heap.size+1+1+1) W x0 x1 x2 x3 x4 x5 (hst W hBW) (fun k hk=>by have:=S.BY k hk; omega) (by omega) (by omega) (by omega) (by have:=hbw.size; omega) (by have:=hbw.size; omega)
   ⟨(hC _ (by omega)).trans g4,Dv.bD.mono (fun _ h=>h) (fun b h=>hBW.block b (S.BY b h)) _ _ hds,hone⟩ ((hC _ (by omega)).trans g5) ((hC _ (by omega)).trans g6) I Jx (fun pre A A' h hg=>hIa pre A A' none h hg (fun r e=>by cases e)) hY h0
 case kb=>exact tq.put W l o o' ho hc
 case own=>
  rintro pre A A' row ⟨hB,hb1,hb2,hj1,hsz1⟩ hg hr
  have hne:∀ k,k<W0.heap.size→some k≠row:=fun k hk e=>by have:=(hr k e.symm).1; omega
  exact ⟨hB.grown hg hB.size (fun k e=>by have:=(hr k e).1; omega),hb1.kept hg (hne _ (by omega)),hb2.kept hg (hne _ (by omega)),(hg.block _ (by omega) (hne _ (by omega))).trans hj1,Nat.le_trans hsz1 hg.size⟩
 case assign=>
  intro l x W K hK
  gi_wp2
  exact hK
 case body=>
  rintro l pre x W ⟨hB,hb1,hb2,hj1,hsz1⟩ hlen
  have mixed:Tryz.prog.follows .mixedOrders=true:=by kernel_rfl
  have hBd:Below w.heap.size w W.drew:=⟨hB.os,hB.tape,hB.output,hB.size,hB.block⟩
  have hCt:=(Dv.rz (G:=G) x.2).num (hst _ hBd) (vs:=#[.int .i64 x.2]) ⟨rfl,trivial⟩
  have hp3:W.cell? ⟨w.heap.size+1,3,none⟩=some (.int .i64 j.max):=by simp only [World.cell?,hj1]; rfl
  have hfold:(pre++[x]).foldl (fun q x=>Dv.pQ j.max q x.2) (0,0)=Dv.pQ j.max (pre.foldl (fun q x=>Dv.pQ j.max q x.2) (0,0)) x.2:=by rw [List.foldl_append]; rfl
  generalize (pre.foldl (fun q x=>Dv.pQ j.max q x.2) (0,0))=p at *
  obtain ⟨best,most⟩:=p
  dsimp only at hb1 hb2
  generalize hc:Dv.many (x.2 % 64)=c at hCt
  have hst2:Dv.pQ j.max (best,most) x.2=if most<(if j.max<c then j.max else c) then (x.2,if j.max<c then j.max else c) else (best,most):=by unfold Dv.pQ Dv.Qk; rw [hc]
  rw [hst2] at hfold
  have hlt1:w.heap.size+1<W.drew.heap.size:=(Array.getElem?_eq_some_iff.1 hj1).1
  gi_wp2
  gi_region_with_o (refine ⟨trivial,?_⟩; gi_at_call 310; refine (CallsIn.mono (CallsIn.inRound l (callsIn_wide.2 hCt)) ?_); rintro e w3 ⟨rfl,hb3⟩; have hp4:w3.cell? ⟨w.heap.size+1,3,none⟩=some (.int .i64 j.max):=((Dv.jd (hb3.block _ hlt1)).trans hp3))
  all_goals
   have hlt3:=hb3.size
   have b1:Boxed w3 (w.heap.size+1+1) 3 (.int .i64 best):=(hb3.block _ (show w.heap.size+1+1<W.heap.size by omega)).trans hb1
   have b2:Boxed w3 (w.heap.size+1+1+1) 3 (.int .i64 most):=(hb3.block _ (show w.heap.size+1+1+1<W.heap.size by omega)).trans hb2
   have bb2:Boxed (w3.setCell ⟨w.heap.size+1+1,0,none⟩ (.int .i64 x.2)) (w.heap.size+1+1+1) 3 (.int .i64 most):=b2.kept (grownBy_setCell' _ _ _) (by simp)
   have d1:=b1.cell
   have e1:=b1.frozen
   have d2:=b2.cell
   have d3:=bb2.cell
   have e3:=bb2.frozen
   have Hk:tq (w.heap.size+1+1) (w.heap.size+1+1+1) W w3:=(tq.drew W).trans (tq.lC hb3)
   have Hf:KeepsFrom (w.heap.size+7) W w3:=⟨hlt3,fun k o _ hk _=>(hb3.block k (Array.getElem?_eq_some_iff.1 hk).1).trans hk⟩
   have HB:Below w.heap.size w w3:=hBd.trans (hb3.mono hB.size)
   have Hj:w3.heap[w.heap.size+1]? = _:=(hb3.block _ hlt1).trans hj1
   have hsz3:W0.heap.size≤w3.heap.size:=Nat.le_trans hsz1 hlt3
   gi_wp2
  all_goals
   rw [← hsz]
   first
   | (have hy:=‹most<if j.max<c then j.max else c›
      rw [if_pos hy] at hfold
      refine ⟨hsz ▸ (Hf.trans ((KeepsOthers.setCell _ _ _).from _)).trans ((KeepsOthers.setCell _ _ _).from _),(Hk.trans (tq.aav _ _ (.inl rfl) b1)).trans (tq.aav _ _ (.inr rfl) bb2),(HB.setCell (p:=⟨w.heap.size+1+1,0,none⟩) (show w.heap.size≤w.heap.size+1+1 by omega) _).setCell (p:=⟨w.heap.size+1+1+1,0,none⟩) (show w.heap.size≤w.heap.size+1+1+1 by omega) _,?_,?_,?_,?_⟩
      ·rw [hfold]; exact (b1.set _).kept (grownBy_setCell' _ _ _) (by simp)
      ·rw [hfold]
       first
       | (rw [if_pos ‹j.max<c›]; exact bb2.set _)
       | (rw [if_neg (by omega)]; exact bb2.set _)
      ·exact (Below.heap_setCell _ _ _ _ (show w.heap.size+1≠w.heap.size+1+1+1 by omega)).trans ((Below.heap_setCell _ _ _ _ (show w.heap.size+1≠w.heap.size+1+1 by omega)).trans Hj)
      ·exact Nat.le_trans hsz3 (Nat.le_trans (KeepsWalks.setCell _ _ _).size (KeepsWalks.setCell _ _ _).size))
   | (have hy:=‹(if j.max<c then j.max else c)≤most›
      rw [if_neg (by omega)] at hfold
      refine ⟨hsz ▸ Hf,Hk,HB,?_,?_,Hj,hsz3⟩
      ·rw [hfold]; exact b1
      ·rw [hfold]; exact b2)
 case done=>
  rintro D ys W hD rfl ⟨hB,hb1,hb2,hj1,hsz1⟩ hK
  have mixed:Tryz.prog.follows .mixedOrders=true:=by kernel_rfl
  rw [Dv.Az s j mset hn] at hb1 hb2
  have e1:=hb1.cell
  have e2:=hb2.cell
  have hp3:W.cell? ⟨w.heap.size+1,3,none⟩=some (.int .i64 j.max):=by simp only [World.cell?,hj1]; rfl
  have hbp:(((Dv.Cv (Dv.fM s)).filter (Dv.okV s j mset)).map (Dv.fI s mset)).foldl (Dv.tL j.max) (0,0)=Dv.nM s j mset:=rfl
  rw [hbp] at e1 e2 hb1 hb2
  have h6:=Dv.U7 s j mset hn
  have hBd:Below w.heap.size w W.drew:=⟨hB.os,hB.tape,hB.output,hB.size,hB.block⟩
  have hL:=(Dv.Hi (G:=G) (Dv.nM s j mset).1 j.max h6 ⟨hmx.1,by omega⟩).num (hst _ hBd) (vs:=#[.int .i64 (Dv.nM s j mset).1,.int .i64 j.max]) ⟨rfl,rfl,trivial⟩
  have hpk:Dv.jk s j mset=(Dv.vN 6 ((Dv.nM s j mset).1,j.max,0),decide (0<(Dv.nM s j mset).2)):=rfl
  generalize Dv.nM s j mset=p at *
  obtain ⟨best,most⟩:=p
  dsimp only at *
  generalize Dv.vN 6 (best,j.max,0)=r at *
  have hlt2:w.heap.size+1+1+1<W.drew.heap.size:=hb2.lt
  have hDl:D<W.drew.heap.size:=(Array.getElem?_eq_some_iff.1 hK).1
  gi_wp2
  refine Ku ?_
  gi_region_with_o (refine ⟨trivial,?_⟩; gi_at_call 337; refine (callsIn_wide.2 hL).mono ?_; rintro e w3 ⟨rfl,hb3⟩; have e3:w3.cell? ⟨w.heap.size+1+1+1,0,none⟩=some (.int .i64 most):=((Dv.jd (hb3.block _ hlt2)).trans e2); have hK3:w3.heap[D]? = some (.deferred (some [])):=((hb3.block _ hDl).trans hK))
  all_goals simp only [Yn]
  all_goals gi_wp2
  all_goals
   refine ⟨by simp,.inl ⟨_,_,rfl,run_takeDeferred hK3,?_⟩⟩
   have hB4:Below w.heap.size w (w3.putObj D (.deferred none)):=(hBd.trans (hb3.mono hB.size)).grown (grownBy_putObj' w3 D (.deferred none)) (Nat.le_trans hB.size hb3.size) (fun k e=>by cases e; omega)
   refine ⟨.tuple #[.int .i64 r,.bool (decide (0<most))],?_,_,rfl,?_⟩
   ·simp [results,Tryz.f326,go_sem]
   ·rw [hpk]
    exact Dv.aN.RI S hB4 (fun _ _ _=>⟨_,rfl,rfl,rfl,trivial⟩)
end Go.Proofs
