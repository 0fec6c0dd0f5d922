/- part -/
import Derived.Test.YtkalnfkokkjliaaGreatDoorTA
import Derived.Test.YtkalnfkokkjliaaGreatDoorDB
import Derived.Test.YtkalnfkokkjliaaGreatDoorVD
import Derived.RangeFuncNested
import Derived.RangeFuncBound
import Derived.RangeFuncCalls
import Derived.RangeFuncLeaves
import Derived.RangeFuncWrites
import Derived.RangeFuncBox
import Derived.Shelf.Abstract
import Derived.Shelf.RegionOpen
import Derived.WalkKit
import Derived.Deep.RegionHeld
import Derived.OwnWalkIn
import Derived.TacticsInMore
import Derived.LoopNIn
import Derived.LoopIn
set_option linter.all false
set_option maxHeartbeats 4000000
set_option maxRecDepth 100000
namespace Dv
open Go Go.Proofs
theorem bh.num {P:Program} {G:Nat→Option (List DV)} {f:Nat} {args:List LV} {r:Int} (h:bh P G f args [] (.int r) []) {J:Nat→Prop} {ι:Nat→Nat→Option Nat} {w:World} {vs:Array Value} (S:aF G J w ι (au [])) (hR:ck J w ι args vs.toList) :
  Calls P f vs w fun e w'=>e=.returned (.int .i64 r)∧RowKit.Below w.heap.size w w':=by
 refine (h.2 J ι w vs S hR).mono fun e w' hh=>?_
 obtain ⟨v,he,J',ι',S',hr,hE⟩:=hh
 obtain rfl:v=.int .i64 r:=hr
 refine ⟨he,⟨hE.ev.os,hE.ev.tape,hE.ev.output,hE.ev.size,fun k hk=>hE.ev.same k hk ?_⟩⟩
 rintro ⟨o,hb⟩
 simp [au,b_.own] at hb
structure lY (J:Nat→Prop) (s:aa) (W:World) (b:Nat) (x0 x1 x2 x3 x4 x5:Value):Prop where
 heap:W.heap[b]? = some (.cells #[x0,x1,x2,x3,x4,x5] 30 (0,0))
 rep:bD J W [.dK 5 (s.nodes.map bX),.dK 12 (s.jobs.map dF),i64 s.goal,i64 s.prior,i64 s.mode,i64 s.term] [x0,x1,x2,x3,x4,x5]
 one:∀ v∈[x0,x1,x2,x3,x4,x5],v.oneCell'=true
theorem lY.cells {J:Nat→Prop} {s:aa} {W:World} {b:Nat} {x0 x1 x2 x3 x4 x5:Value} (h:lY J s W b x0 x1 x2 x3 x4 x5):W.cell? ⟨b,0,none⟩=some x0∧W.cell? ⟨b,1,none⟩=some x1∧W.cell? ⟨b,2,none⟩=some x2∧W.cell? ⟨b,3,none⟩=some x3∧W.cell? ⟨b,4,none⟩=some x4∧W.cell? ⟨b,5,none⟩=some x5:=by
 refine ⟨?_,?_,?_,?_,?_,?_⟩ <;> simp [World.cell?,h.heap]
theorem lY.kept {J:Nat→Prop} {s:aa} {W W':World} {b:Nat} {x0 x1 x2 x3 x4 x5:Value} (h:lY J s W b x0 x1 x2 x3 x4 x5) (hb:W'.heap[b]? = W.heap[b]?) (hJ:∀ k,J k→W'.heap[k]? = W.heap[k]?):lY J s W' b x0 x1 x2 x3 x4 x5:=
 ⟨hb.trans h.heap,bD.mono (fun _ h=>h) hJ _ _ h.rep,h.one⟩
theorem lY.arg {J:Nat→Prop} {ι:Nat→Nat→Option Nat} {s:aa} {W:World} {b:Nat} {x0 x1 x2 x3 x4 x5:Value} (h:lY J s W b x0 x1 x2 x3 x4 x5):cT J W ι (aY s) (.agg #[x0,x1,x2,x3,x4,x5]):=
 ⟨#[x0,x1,x2,x3,x4,x5],rfl,bD.xE h.rep h.one⟩
theorem Iz (W:World) (C:Array Value) (t:TypeId) (b:Nat) (hb:b=W.heap.size) (j:Nat) (u:Value) (h:C.toList[j]? = some u):(W.alloc (.cells C t)).cell? ((⟨b,0,none⟩:Addr).add j)=some u:=by
 subst hb
 have e:((⟨W.heap.size,0,none⟩:Addr).add j)=⟨W.heap.size,j,none⟩:=by
  cases j with
  | zero=>rfl
  | succ j=>simp [Addr.add]
 rw [e]
 simp only [World.cell?,World.alloc_heap_new]
 simpa using h
def xC (m:Int) (k:Nat):List Int:=m::(Kx.take k).filter (fun v=>decide (v≠m))
theorem NP (m:Int):xC m 9=Cv m:=rfl
theorem NN (m:Int) (k:Nat) (h:k<9) (hv:((k+1:Nat):Int)≠m):xC m (k+1)=xC m k++[((k+1:Nat):Int)]:=by
 have e:=DW ⟨k,h⟩
 dsimp only at e
 unfold xC
 rw [e,List.filter_append,List.filter_cons_of_pos (by simpa using hv)]
 simp
theorem Rz (m:Int) (k:Nat) (h:k<9) (hv:((k+1:Nat):Int)=m):xC m (k+1)=xC m k:=by
 have e:=DW ⟨k,h⟩
 dsimp only at e
 unfold xC
 rw [e,List.filter_append,List.filter_cons_of_neg (by simpa using hv)]
 simp
theorem NO (m:Int) (k:Nat):(xC m k).length≤k+1:=by
 unfold xC
 have:=List.length_filter_le (fun v=>decide (v≠m)) (Kx.take k)
 have:=List.length_take_le k Kx
 rw [List.length_cons]; omega
def AA (s:aa) (j:bP) (set:Int):List Int→List (Int×Int)
 | []=>[]
 | v::l=>if okV s j set v=true then (v,fI s set v)::AA s j set l else AA s j set l
theorem oK (s:aa) (j:bP) (set:Int):∀ (l l':List Int),AA s j set (l++l')=AA s j set l++AA s j set l'
 | [],l'=>rfl
 | v::l,l'=>by
   rw [List.cons_append,AA,AA,oK s j set l l']
   split <;> rfl
theorem Kb (s:aa) (j:bP) (set:Int):∀ l:List Int,(AA s j set l).length≤l.length
 | []=>Nat.le_refl _
 | v::l=>by
   have:=Kb s j set l
   rw [AA]; split <;> simp <;> omega
end Dv
namespace Go.Proofs
open Go.RowKit Go.Shelf
attribute [local go_sem] Oper.semAt_some
theorem Iv (n:Nat) (x0 x1 x2 x3 x4 x5 c0 c1 c2 c3 c4 c5 c6 c7 c8 c9 c10 c11:Value) (set:Int) (w:World) :
  CallsIn Fence.wide n Tryz.prog 336 #[.agg #[x0,x1,x2,x3,x4,x5],.agg #[c0,c1,c2,c3,c4,c5,c6,c7,c8,c9,c10,c11],.int .i64 set] w fun e w'=>
   e=.returned (.func (.func 349) #[] #[.pointer (some ⟨w.heap.size,0,none⟩),.pointer (some ⟨w.heap.size+1,0,none⟩),.pointer (some ⟨w.heap.size+1+1,0,none⟩)])∧
   w'=((w.alloc (.cells #[x0,x1,x2,x3,x4,x5] 30)).alloc (.cells #[c0,c1,c2,c3,c4,c5,c6,c7,c8,c9,c10,c11] 119)).alloc (.cells #[.int .i64 set] 3):=by
 refine callsIn_of_wp Tryz.func336 rfl trivial ?_ rfl
 simp only [Tryz.ntmps336,List.size_toArray,List.length_cons,List.length_nil,Nat.reduceAdd,Nat.reduceSub,Array.replicate_succ,Array.replicate_zero,List.push_toArray,List.append_toArray,List.nil_append,List.cons_append]
 gi_wp2
 go_ret
 exact ⟨rfl,rfl⟩
structure tq (B1 B2:Nat) (W W':World):Prop where
 os:W'.os=W.os
 tape:W'.tape=W.tape
 output:W'.output=W.output
 size:W.heap.size≤W'.heap.size
 same:∀ (k:Nat) C t f,k≠B1→k≠B2→W.heap[k]? = some (.cells C t f)→W'.heap[k]? = some (.cells C t f)
 shape:∀ k,(W.shape? k).isSome=true→W'.shape? k=W.shape? k
theorem tq.lC {B1 B2:Nat} {W W':World} (h:Below W.heap.size W W'):tq B1 B2 W W':=
 ⟨h.os,h.tape,h.output,h.size,fun k C t f _ _ hk=>(h.block k (Array.getElem?_eq_some_iff.1 hk).1).trans hk,fun k hk=>Dv.bH (h.block k (Dv.gA hk))⟩
theorem tq.drew {B1 B2:Nat} (W:World):tq B1 B2 W W.drew:=⟨rfl,rfl,rfl,Nat.le_refl _,fun _ _ _ _ _ _ h=>h,fun _ _=>rfl⟩
theorem Yp {A B:World→Prop} (e:Ending) (W':World) (h:(e=.returned (.bool true)∧A W')∨(e=.returned (.bool false)∧B W')):∃ b:Bool,e=.returned (.bool b)∧(b=true→A W')∧(b=false→B W'):=by
 rcases h with ⟨h,k⟩ | ⟨h,k⟩
 ·exact ⟨true,h,fun _=>k,fun h=>by cases h⟩
 ·exact ⟨false,h,fun h=>(by cases h),fun _=>k⟩
structure ChI (G:Nat→Option (List Dv.DV)) (Js:Nat→Prop) (ι:Nat→Nat→Option Nat) (s:Dv.aa) (j:Dv.bP) (set:Int) (bs bj bk B1 B2 g:Nat) (x0 x1 x2 x3 x4 x5:Value) (L:List Int) (W:World):Prop where
 st:Dv.aF G Js W ι (Dv.au [])
 hs:Dv.lY Js s W bs x0 x1 x2 x3 x4 x5
 hj:W.heap[bj]? = some (.cells #[.int .i64 j.queue,.int .i64 j.prio,.int .i64 j.min,.int .i64 j.max,.int .i64 j.work,.int .i64 j.pin,.int .i64 j.phase,.int .i64 j.inc,.int .i64 j.nodes,.int .i64 j.since,.int .i64 j.til,.int .i64 j.epoch] 119 (0,0))
 hk:Boxed W bk 3 (.int .i64 set)
 row:∃ cur,W.heap[g]? = some (.cells cur 3 (0,0))∧∀ (i:Nat) v,L[i]? = some v→cur[i]? = some (.int .i64 v)
theorem ChI.kept {G:Nat→Option (List Dv.DV)} {Js:Nat→Prop} {ι:Nat→Nat→Option Nat} {s:Dv.aa} {j:Dv.bP} {set:Int} {bs bj bk B1 B2 g:Nat} {x0 x1 x2 x3 x4 x5:Value} {L:List Int} {W W':World} (h:ChI G Js ι s j set bs bj bk B1 B2 g x0 x1 x2 x3 x4 x5 L W)
  (hJB:∀ k,Js k→k≠B1∧k≠B2) (hBs:bs≠B1∧bs≠B2) (hBj:bj≠B1∧bj≠B2) (hBk:bk≠B1∧bk≠B2) (hBg:g≠B1∧g≠B2) (hk:tq B1 B2 W W'):ChI G Js ι s j set bs bj bk B1 B2 g x0 x1 x2 x3 x4 x5 L W':=by
 have hJ:∀ k,Js k→W'.heap[k]? = W.heap[k]?:=fun k hkj=>by
  obtain ⟨C,t,f,hc⟩:=h.st.jcell k hkj
  rw [hc]; exact hk.same k C t f (hJB k hkj).1 (hJB k hkj).2 hc
 have hsb:W'.heap[bs]? = W.heap[bs]?:=by rw [h.hs.heap]; exact hk.same _ _ _ _ hBs.1 hBs.2 h.hs.heap
 obtain ⟨cur,hg,hc⟩:=h.row
 exact ⟨h.st.still hJ (fun b ⟨o,ho⟩=>by simp [Dv.au,Dv.b_.own] at ho) hk.shape,h.hs.kept hsb hJ,hk.same _ _ _ _ hBj.1 hBj.2 h.hj,hk.same _ _ _ _ hBk.1 hBk.2 h.hk,cur,hk.same _ _ _ _ hBg.1 hBg.2 hg,hc⟩
theorem FV {G:Nat→Option (List Dv.DV)} {Js:Nat→Prop} {ι:Nat→Nat→Option Nat} (s:Dv.aa) (j:Dv.bP) (set:Int) (hn:s.nodes.length≤6) (hs6:Dv.fS set) (n:Nat) (hn1:1≤n) (l bs bj bk B1 B2:Nat) (W:World) (x0 x1 x2 x3 x4 x5:Value)
  (S:Dv.aF G Js W ι (Dv.au [])) (hJB:∀ k,Js k→k≠B1∧k≠B2) (hBs:bs≠B1∧bs≠B2) (hBj:bj≠B1∧bj≠B2) (hBk:bk≠B1∧bk≠B2) (hB1:B1<W.heap.size) (hB2:B2<W.heap.size)
  (hs:Dv.lY Js s W bs x0 x1 x2 x3 x4 x5)
  (hj:W.heap[bj]? = some (.cells #[.int .i64 j.queue,.int .i64 j.prio,.int .i64 j.min,.int .i64 j.max,.int .i64 j.work,.int .i64 j.pin,.int .i64 j.phase,.int .i64 j.inc,.int .i64 j.nodes,.int .i64 j.since,.int .i64 j.til,.int .i64 j.epoch] 119 (0,0)))
  (hk':Boxed W bk 3 (.int .i64 set))
  (I Jx:List (Int×Int)→World→Prop) (hI:∀ pre A A',I pre A→A.grownBy A' none→I pre A')
  (hY:∀ pre x A,I pre A→pre.length<10→YieldAt Fence.wide (n-1) Tryz.prog l #[.int .i64 x.1,.int .i64 x.2] A fun e A'=>(e=.returned (.bool true)∧I (pre++[x]) A'∧tq B1 B2 A A')∨(e=.returned (.bool false)∧Jx (pre++[x]) A'))
  (h0:I [] W) :
  CallsIn Fence.wide n Tryz.prog 349 #[.func (.yield l) #[] #[],.pointer (some ⟨bs,0,none⟩),.pointer (some ⟨bj,0,none⟩),.pointer (some ⟨bk,0,none⟩)] W fun e W'=>(∃ v,e=.returned v)∧
   ((∃ ys,ys=Dv.AA s j set (Dv.Cv (Dv.fM s))∧I ys W')∨(∃ pre,True∧Jx pre W')):=by
 have hYb:∀ pre x A,I pre A→pre.length<10→YieldAt Fence.wide (n-1) Tryz.prog l #[.int .i64 x.1,.int .i64 x.2] A fun e A'=>∃ b:Bool,e=.returned (.bool b)∧(b=true→I (pre++[x]) A'∧tq B1 B2 A A')∧(b=false→Jx (pre++[x]) A'):=fun pre x A h1 h2=>
  (hY pre x A h1 h2).mono (fun e W' h=>Yp (A:=fun W'=>I (pre++[x]) W'∧tq B1 B2 A W') (B:=fun W'=>Jx (pre++[x]) W') e W' h)
 clear hY
 obtain ⟨a0,a1,a2,a3,a4,a5⟩:=hs.cells
 have hM:Calls Tryz.prog 220 #[.agg #[x0,x1,x2,x3,x4,x5]] W fun e w'=>e=.returned (.int .i64 (Dv.fM s))∧Below W.heap.size W w':=(Dv.jH s).num S ⟨hs.arg,trivial⟩
 refine callsIn_of_wp Tryz.func349 rfl trivial ?_ rfl
 simp only [Tryz.ntmps349,List.size_toArray,List.length_cons,List.length_nil,Nat.reduceAdd,Nat.reduceSub,Array.replicate_succ,Array.replicate_zero,List.push_toArray,List.append_toArray,List.nil_append,List.cons_append]
 gi_wp2_with (refine ⟨trivial,?_⟩; gi_at_call 220; refine (callsIn_wide.2 hM).mono ?_; rintro e w1 ⟨rfl,hb1⟩)
 generalize hm:Dv.fM s=m at *
 obtain ⟨i0,z0,q1,q2,q3,q4,q5,_⟩:=Dv.lN (P:=Tryz.prog) (e:=3) (n:=1) (b:=8) (by kernel_rfl)
 gi_loopw [5,6] (fun p q wr=>∃ (k:Nat) (v:Int),(0≤v∧v.toNat=k+1)∧k≤9∧q=.int .i64 v∧wr.ownsRow W.heap.size 3 1 p (Dv.xC m k).length ((Dv.xC m k).map (Value.int .i64))∧Below W.heap.size W wr)
  (fun _ q _=>10-(intOf q).toNat)
 case atStart=>
  refine ⟨0,1,⟨by omega,rfl⟩,by omega,rfl,⟨rfl,.inr ⟨_,1,#[.int .i64 m],rfl,hb1.size,World.alloc_heap_new _ _,Nat.le_refl _,by decide,rfl,rfl⟩⟩,hb1.alloc hb1.size _⟩
 case round=>
  obtain ⟨k,v,hvv,hk9,rfl,hown,hbw⟩:=hrel
  have hlen:=Dv.NO m k
  obtain ⟨N,hN⟩:∃ N,(Dv.xC m k).length=N+1:=⟨_,rfl⟩
  rw [hN] at hown hlen
  obtain ⟨g,cap,rfl⟩:=ownsRow_succ hown
  have hg0:wr.cell? ⟨g,0,none⟩=some (.int .i64 m):=by
   rcases hown.2 with ⟨h,_⟩ | ⟨g',cap',cur,h,_,hgb,_,_,_,h4⟩
   ·cases h
   ·cases h
    simp only [World.cell?,hgb]
    rw [Nat.mul_one] at h4
    have:=congrArg (fun l=>l[0]?) h4
    simp only [List.getElem?_take] at this
    rw [if_pos (by omega)] at this
    rw [← Array.getElem?_toList,this]
    rfl
  have hv0:0≤v:=by omega
  have hv1:v≤10:=by omega
  rcases Nat.lt_or_ge k 9 with hk | hk
  ·have hle:v≤9:=by omega
   have hw2:IntKind.i64.wrap (v+1)=v+1:=Dv.aL (by omega) (by omega)
   by_cases hv:v=m
   ·have hno:=Dv.Rz m k hk (by omega)
    subst hv
    gi_wp2
    exact ⟨⟨k+1,v+1,⟨by omega,by omega⟩,by omega,rfl,by rw [hno,hN]; exact hown,hbw⟩,by simp [intOf]; omega⟩
   ·have hyes:=Dv.NN m k hk (by omega)
    rw [show ((k+1:Nat):Int)=v by omega] at hyes
    have hsz:=hbw.size
    gi_wp2_with (gi_at_builtin; refine wpListIn_append_own _ rfl _ _ 42 rfl W.heap.size 3 i0 z0 1 8 Tryz.underlying42 q1 q2 q3 q4 (q5.trans q3) (by decide) _ _ _ rfl (hown.alloc _) ⟨wr.heap.size,0,none⟩ 1 1 [.int .i64 v] rfl rfl (fun j u hj=>Dv.Iz wr _ _ _ (by simp) j u hj) (by simp [Value.oneCell']) (by simp only [Go.maxLen]; omega) (by omega) (by simp; omega) (fun v' w3 hown2 hg3 hz=>?_))
    have hgW:W.heap.size≤g:=by
     rcases hown.2 with ⟨h,_⟩ | ⟨g',cap',cur,h,hb,_⟩
     ·cases h
     ·cases h; exact hb
    refine ⟨⟨k+1,v+1,⟨by omega,by omega⟩,by omega,rfl,by rw [hyes,List.map_append,List.length_append,hN]; exact hown2,?_⟩,by simp [intOf]; omega⟩
    exact (hbw.alloc hsz _).grown hg3 (by simp; omega) (fun r e=>by cases e; exact hgW)
  ·obtain rfl:k=9:=by omega
   obtain rfl:v=10:=by omega
   have hrow:∃ cur,wr.heap[g]? = some (.cells cur 3 (0,0))∧∀ (i:Nat) v,(Dv.Cv m)[i]? = some v→cur[i]? = some (.int .i64 v):=by
    rcases hown.2 with ⟨h,_⟩ | ⟨g',cap',cur,h,_,hgb,_,_,_,h4⟩
    ·cases h
    ·cases h
     refine ⟨cur,hgb,fun i v hi=>?_⟩
     rw [Nat.mul_one] at h4
     have hlt:=(List.getElem?_eq_some_iff.1 hi).1
     have:=congrArg (fun l=>l[i]?) h4
     simp only [List.getElem?_take] at this
     rw [if_pos (by rw [← hN]; exact hlt)] at this
     rw [← Array.getElem?_toList,this,List.getElem?_map,Dv.NP,hi]
     rfl
   have hgW:W.heap.size≤g:=by
    rcases hown.2 with ⟨h,_⟩ | ⟨g',cap',cur,h,hb,_⟩
    ·cases h
    ·cases h; exact hb
   have hlenL:(Dv.Cv m).length=N+1:=hN
   have hC0:ChI G Js ι s j set bs bj bk B1 B2 g x0 x1 x2 x3 x4 x5 (Dv.Cv m) wr:=by
    have hC:∀ k,k<W.heap.size→wr.heap[k]? = W.heap[k]?:=fun k hk=>hbw.block k hk
    exact ⟨S.still (fun b hb=>hC b (S.BY b hb)) (fun b ⟨o,ho⟩=>by simp [Dv.au,Dv.b_.own] at ho) (fun b hb=>Dv.bH (hC b (Dv.gA hb))),hs.kept (hC bs (Array.getElem?_eq_some_iff.1 hs.heap).1) (fun b hb=>hC b (S.BY b hb)),(hC bj (Array.getElem?_eq_some_iff.1 hj).1).trans hj,(hC bk hk'.lt).trans hk',hrow⟩
   have hI0:I [] wr:=hI _ _ _ h0 ⟨hbw.os,hbw.tape,hbw.output,hbw.size,fun k hk _=>hbw.block k hk⟩
   have hBg:g≠B1∧g≠B2:=⟨by omega,by omega⟩
   have hb1W:=Nat.lt_of_lt_of_le hB1 hbw.size
   have hb2W:=Nat.lt_of_lt_of_le hB2 hbw.size
   clear hown hrow h0 hs hj hk' S hM hb1 hg0
   generalize hL:Dv.Cv m=L at *
   gi_wp2
   have mixed:Tryz.prog.follows .mixedOrders=true:=by kernel_rfl
   gi_loopw [28] (fun q wq=>∃ i:Nat,q=.int .i64 i∧i≤N+1∧ChI G Js ι s j set bs bj bk B1 B2 g x0 x1 x2 x3 x4 x5 L wq∧I (Dv.AA s j set (L.take i)) wq)
    (fun q _=>N+1-(intOf q).toNat)
   case atStart=>exact ⟨0,rfl,by omega,hC0,hI0⟩
   case round=>
    obtain ⟨i,rfl,hi,hC,hIi⟩:=hrel
    obtain ⟨cur,hgc,hgv⟩:=hC.row
    obtain ⟨b0,b1,b2,b3,b4,b5⟩:=hC.hs.cells
    have hk0:=hC.hk.cell
    have hp5:wr.cell? ⟨bj,5,none⟩=some (.int .i64 j.pin):=by simp only [World.cell?,hC.hj]; rfl
    have hp2:wr.cell? ⟨bj,2,none⟩=some (.int .i64 j.min):=by simp only [World.cell?,hC.hj]; rfl
    rcases Nat.lt_or_ge i (N+1) with hlt | hge
    ·obtain ⟨v,hv⟩:∃ v,L[i]? = some v:=⟨L[i],List.getElem?_eq_getElem (by omega)⟩
     have hgi:wr.cell? ⟨g,i,none⟩=some (.int .i64 v):=by
      have:=hgv i v hv
      simp only [World.cell?,hgc]
      exact this
     have htk:L.take (i+1)=L.take i++[v]:=by rw [List.take_add_one,hv]; rfl
     have hR:=(Dv.KZ (G:=G) s set v hn).num hC.st (vs:=#[.agg #[x0,x1,x2,x3,x4,x5],.int .i64 set,.int .i64 v]) ⟨hC.hs.arg,rfl,rfl,trivial⟩
     have hlen2:=Dv.Kb s j set (L.take i)
     have hlt2:=List.length_take_le i L
     by_cases hpin:j.pin≠0∧j.pin≠v
     ·have hok:Dv.okV s j set v=false:=by unfold Dv.okV; rw [decide_eq_true hpin.1,decide_eq_true hpin.2]; rfl
      have hp0:=hpin.1
      have hpv:=hpin.2
      gi_wp2
      rotate_left
      ·have h2:=‹(j.pin !=0)=false∨(j.pin !=v)=false›
       simp only [bne_eq_false_iff_eq] at h2
       exact absurd h2 (by rintro (h | h); exact hp0 h; exact hpv h)
      exact ⟨⟨i+1,by simp,by omega,hC,by rw [htk,Dv.oK]; simp only [Dv.AA,hok,Bool.false_eq_true,if_false,List.append_nil]; exact hIi⟩,by simp [intOf]; omega⟩
     ·by_cases hp0:j.pin=0
      ·have hokv:Dv.okV s j set v=decide (j.min≤Dv.many (Dv.fI s set v)):=by
        unfold Dv.okV
        rw [decide_eq_false (fun h=>h hp0)]; rfl
       gi_wp2_with (refine ⟨trivial,?_⟩; gi_at_call 350; refine (callsIn_wide.2 hR).mono ?_; rintro e w2 ⟨rfl,hb2⟩)
       have hC2:=hC.kept hJB hBs hBj hBk hBg (tq.lC hb2)
       have hC2d:=hC2.kept hJB hBs hBj hBk hBg (tq.drew w2)
       have hp2':w2.cell? ⟨bj,2,none⟩=some (.int .i64 j.min):=by simp only [World.cell?,hC2.hj]; rfl
       have hCt:=(Dv.rz (G:=G) (Dv.fI s set v)).num hC2d.st (vs:=#[.int .i64 (Dv.fI s set v)]) ⟨rfl,trivial⟩
       have hI2:I (Dv.AA s j set (L.take i)) w2.drew:=hI _ _ _ hIi ⟨hb2.os,hb2.tape,hb2.output,hb2.size,fun k hk _=>hb2.block k hk⟩
       have hr6:=Dv.OC _ (Dv.tW s set v hn)
       rw [hr6] at hCt
       have hchs:∀ b:Bool,Dv.okV s j set v=b→Dv.AA s j set (L.take (i+1))=Dv.AA s j set (L.take i)++if b=true then [(v,Dv.fI s set v)] else []:=fun b hb=>by
        rw [htk,Dv.oK]
        simp only [Dv.AA,hb]
       generalize Dv.fI s set v=r at *
       generalize Dv.many r=c at *
       by_cases hmin:j.min≤c
       ·rw [decide_eq_true hmin] at hokv
        have hch:=hchs _ hokv
        rw [if_pos rfl] at hch
        gi_region_with_o (first
         | (refine ⟨trivial,?_⟩; gi_at_call 310; refine (CallsIn.mono (callsIn_wide.2 hCt) ?_); rintro e w3 ⟨rfl,hb3⟩; have hC3:=hC2d.kept hJB hBs hBj hBk hBg (tq.lC hb3); have hp3:w3.cell? ⟨bj,2,none⟩=some (.int .i64 j.min):=(by simp only [World.cell?,hC3.hj]; rfl); have hI3:=hI _ _ w3 hI2 ⟨hb3.os,hb3.tape,hb3.output,hb3.size,fun k hk _=>hb3.block k hk⟩; obtain ⟨fn,tmps,assign,body,hy,hYR⟩:=hYb _ (v,r) w3 hI3 (by omega))
         | (refine hYR.mono ?_; rintro e w4 ⟨b,rfl,hyes,hno⟩))
        all_goals
         cases b with
         | true=>
           obtain ⟨hI4,hK4⟩:=hyes rfl
           have hC4:=hC3.kept hJB hBs hBj hBk hBg hK4
           gi_wp2
           exact ⟨⟨i+1,by simp,by omega,hC4,by rw [hch]; exact hI4⟩,by simp [intOf]; omega⟩
         | false=>
           gi_wp2
           refine bodyPost_ret (results_none rfl _ _ _) rfl ?_
           exact ⟨⟨_,rfl⟩,.inr ⟨_,by first | exact hno rfl | exact hno | simpa using hno⟩⟩
       ·rw [decide_eq_false hmin] at hokv
        have hmin':c<j.min:=by omega
        have hdec:decide (j.min≤c)=false:=decide_eq_false hmin
        have hch:=hchs _ hokv
        rw [if_neg (by decide),List.append_nil] at hch
        refine wpIn_wide.2 ?_
        refine wp_region_held_drew (S:=fun A=>A.cell? ⟨bj,2,none⟩=some (.int .i64 j.min)) mixed hp2' (fun hS=>?_)
        (refine wpAnyH_take (i:=0) (v:=?_) rfl (by kernel_rfl) (by kernel_rfl) (by kernel_rfl) (fun _ _ _ h=>h) (Or.inl ⟨by rfl,?_⟩) (by assumption) ?_); rotate_left 1; (focus (intro w hSw; (try dsimp only at hSw); go_simp; try (with_reducible rfl))); (try simp only [List.getElem_toArray,List.getElem_cons_zero,List.getElem_cons_succ,Act.put,List.setIfInBounds_toArray,List.set_cons_zero,List.set_cons_succ])
        (refine wpAnyH_take (i:=2) (v:=?_) rfl (by kernel_rfl) (by kernel_rfl) (by kernel_rfl) (fun _ _ _ h=>h) (Or.inl ⟨by rfl,?_⟩) (by assumption) ?_); rotate_left 1; (focus (intro w hSw; (try dsimp only at hSw); go_simp; try (with_reducible rfl))); (try simp only [List.getElem_toArray,List.getElem_cons_zero,List.getElem_cons_succ,Act.put,List.setIfInBounds_toArray,List.set_cons_zero,List.set_cons_succ])
        (refine wpAnyH_take (i:=3) (v:=?_) rfl (by kernel_rfl) (by kernel_rfl) (by kernel_rfl) (fun _ _ _ h=>h) (Or.inl ⟨by rfl,?_⟩) (by assumption) ?_); rotate_left 1; (focus (intro w hSw; (try dsimp only at hSw); go_simp; try (with_reducible rfl))); (try simp only [List.getElem_toArray,List.getElem_cons_zero,List.getElem_cons_succ,Act.put,List.setIfInBounds_toArray,List.set_cons_zero,List.set_cons_succ])
        (refine wpAnyH_ready (rs:=[1]) (by kernel_rfl) (by simp) ?_); (refine AllReadyH.cons rfl (fun K hK=>?_) AllReadyH.nil); go_simp
        refine hCt.mono ?_
        rintro e w3 ⟨rfl,hb3⟩
        have hC3:=hC2d.kept hJB hBs hBj hBk hBg (tq.lC hb3)
        have hI3:=hI _ _ w3 hI2 ⟨hb3.os,hb3.tape,hb3.output,hb3.size,fun k hk _=>hb3.block k hk⟩
        (refine hK.out _ _ (by simp only [World.cell?,hC3.hj]; rfl) (fun hHeld=>?_)); clear hK K; (try simp only [List.getElem_toArray,List.getElem_cons_zero,List.getElem_cons_succ,Act.put,List.setIfInBounds_toArray,List.set_cons_zero,List.set_cons_succ])
        (refine wpAnyH_take (i:=4) (v:=?_) rfl (by kernel_rfl) (by kernel_rfl) (by kernel_rfl) (fun _ _ _ h=>h) (Or.inl ⟨by rfl,?_⟩) (by assumption) ?_); rotate_left 1; (focus (intro w hSw; (try dsimp only at hSw); go_simp; try (with_reducible rfl))); (try simp only [List.getElem_toArray,List.getElem_cons_zero,List.getElem_cons_succ,Act.put,List.setIfInBounds_toArray,List.set_cons_zero,List.set_cons_succ])
        (refine wpAnyH_take (i:=5) (v:=?_) rfl (by kernel_rfl) (by kernel_rfl) (by kernel_rfl) (fun _ _ _ h=>h) (Or.inl ⟨by rfl,?_⟩) (by assumption) ?_); rotate_left 1; (focus (intro w hSw; (try dsimp only at hSw); go_simp; try (with_reducible rfl))); (try simp only [List.getElem_toArray,List.getElem_cons_zero,List.getElem_cons_succ,Act.put,List.setIfInBounds_toArray,List.set_cons_zero,List.set_cons_succ])
        (refine wpAnyH_take (i:=6) (v:=undef) rfl (by kernel_rfl) (by kernel_rfl) (by kernel_rfl) (fun _ _ _ h=>h) (Or.inr ⟨by rfl,rfl⟩) (by assumption) ?_); (try simp only [List.getElem_toArray,List.getElem_cons_zero,List.getElem_cons_succ,Act.put,List.setIfInBounds_toArray,List.set_cons_zero,List.set_cons_succ])
        (refine wpAnyH_take (i:=7) (v:=undef) rfl (by kernel_rfl) (by kernel_rfl) (by kernel_rfl) (fun _ _ _ h=>h) (Or.inr ⟨by rfl,rfl⟩) (by assumption) ?_); (try simp only [List.getElem_toArray,List.getElem_cons_zero,List.getElem_cons_succ,Act.put,List.setIfInBounds_toArray,List.set_cons_zero,List.set_cons_succ])
        (refine wpAnyH_take (i:=8) (v:=undef) rfl (by kernel_rfl) (by kernel_rfl) (by kernel_rfl) (fun _ _ _ h=>h) (Or.inr ⟨by rfl,rfl⟩) (by assumption) ?_); (try simp only [List.getElem_toArray,List.getElem_cons_zero,List.getElem_cons_succ,Act.put,List.setIfInBounds_toArray,List.set_cons_zero,List.set_cons_succ])
        (refine wpAnyH_take (i:=9) (v:=undef) rfl (by kernel_rfl) (by kernel_rfl) (by kernel_rfl) (fun _ _ _ h=>h) (Or.inr ⟨by rfl,rfl⟩) (by assumption) ?_); (try simp only [List.getElem_toArray,List.getElem_cons_zero,List.getElem_cons_succ,Act.put,List.setIfInBounds_toArray,List.set_cons_zero,List.set_cons_succ])
        (refine wpAnyH_take (i:=10) (v:=undef) rfl (by kernel_rfl) (by kernel_rfl) (by kernel_rfl) (fun _ _ _ h=>h) (Or.inr ⟨by rfl,rfl⟩) (by assumption) ?_); (try simp only [List.getElem_toArray,List.getElem_cons_zero,List.getElem_cons_succ,Act.put,List.setIfInBounds_toArray,List.set_cons_zero,List.set_cons_succ])
        (refine wpAnyH_take (i:=11) (v:=?_) rfl (by kernel_rfl) (by kernel_rfl) (by kernel_rfl) (fun _ _ _ h=>h) (Or.inl ⟨by rfl,?_⟩) (by assumption) ?_); rotate_left 1; (focus (intro w hSw; (try dsimp only at hSw); go_simp; try (with_reducible rfl))); (try simp only [List.getElem_toArray,List.getElem_cons_zero,List.getElem_cons_succ,Act.put,List.setIfInBounds_toArray,List.set_cons_zero,List.set_cons_succ])
        refine wpAnyH_done (by kernel_rfl) ?_ _
        gi_wp2
        exact ⟨⟨i+1,by simp,by omega,hC3,by rw [hch]; exact hI3⟩,by simp [intOf]; omega⟩
      ·obtain hpv:j.pin=v:=Decidable.byContradiction fun h=>hpin ⟨hp0,h⟩
       have hokv:Dv.okV s j set v=decide (j.min≤Dv.many (Dv.fI s set v)):=by
        unfold Dv.okV
        rw [decide_eq_false (p:=j.pin≠v) (fun h=>h hpv),Bool.and_false]; rfl
       gi_wp2_with (refine ⟨trivial,?_⟩; gi_at_call 350; refine (callsIn_wide.2 hR).mono ?_; rintro e w2 ⟨rfl,hb2⟩)
       have hC2:=hC.kept hJB hBs hBj hBk hBg (tq.lC hb2)
       have hC2d:=hC2.kept hJB hBs hBj hBk hBg (tq.drew w2)
       have hp2':w2.cell? ⟨bj,2,none⟩=some (.int .i64 j.min):=by simp only [World.cell?,hC2.hj]; rfl
       have hCt:=(Dv.rz (G:=G) (Dv.fI s set v)).num hC2d.st (vs:=#[.int .i64 (Dv.fI s set v)]) ⟨rfl,trivial⟩
       have hI2:I (Dv.AA s j set (L.take i)) w2.drew:=hI _ _ _ hIi ⟨hb2.os,hb2.tape,hb2.output,hb2.size,fun k hk _=>hb2.block k hk⟩
       have hr6:=Dv.OC _ (Dv.tW s set v hn)
       rw [hr6] at hCt
       have hchs:∀ b:Bool,Dv.okV s j set v=b→Dv.AA s j set (L.take (i+1))=Dv.AA s j set (L.take i)++if b=true then [(v,Dv.fI s set v)] else []:=fun b hb=>by
        rw [htk,Dv.oK]
        simp only [Dv.AA,hb]
       generalize Dv.fI s set v=r at *
       generalize Dv.many r=c at *
       by_cases hmin:j.min≤c
       ·rw [decide_eq_true hmin] at hokv
        have hch:=hchs _ hokv
        rw [if_pos rfl] at hch
        gi_region_with_o (first
         | (refine ⟨trivial,?_⟩; gi_at_call 310; refine (CallsIn.mono (callsIn_wide.2 hCt) ?_); rintro e w3 ⟨rfl,hb3⟩; have hC3:=hC2d.kept hJB hBs hBj hBk hBg (tq.lC hb3); have hp3:w3.cell? ⟨bj,2,none⟩=some (.int .i64 j.min):=(by simp only [World.cell?,hC3.hj]; rfl); have hI3:=hI _ _ w3 hI2 ⟨hb3.os,hb3.tape,hb3.output,hb3.size,fun k hk _=>hb3.block k hk⟩; obtain ⟨fn,tmps,assign,body,hy,hYR⟩:=hYb _ (v,r) w3 hI3 (by omega))
         | (refine hYR.mono ?_; rintro e w4 ⟨b,rfl,hyes,hno⟩))
        all_goals
         cases b with
         | true=>
           obtain ⟨hI4,hK4⟩:=hyes rfl
           have hC4:=hC3.kept hJB hBs hBj hBk hBg hK4
           gi_wp2
           exact ⟨⟨i+1,by simp,by omega,hC4,by rw [hch]; exact hI4⟩,by simp [intOf]; omega⟩
         | false=>
           gi_wp2
           refine bodyPost_ret (results_none rfl _ _ _) rfl ?_
           exact ⟨⟨_,rfl⟩,.inr ⟨_,by first | exact hno rfl | exact hno | simpa using hno⟩⟩
       ·rw [decide_eq_false hmin] at hokv
        have hmin':c<j.min:=by omega
        have hdec:decide (j.min≤c)=false:=decide_eq_false hmin
        have hch:=hchs _ hokv
        rw [if_neg (by decide),List.append_nil] at hch
        refine wpIn_wide.2 ?_
        refine wp_region_held_drew (S:=fun A=>A.cell? ⟨bj,2,none⟩=some (.int .i64 j.min)) mixed hp2' (fun hS=>?_)
        (refine wpAnyH_take (i:=0) (v:=?_) rfl (by kernel_rfl) (by kernel_rfl) (by kernel_rfl) (fun _ _ _ h=>h) (Or.inl ⟨by rfl,?_⟩) (by assumption) ?_); rotate_left 1; (focus (intro w hSw; (try dsimp only at hSw); go_simp; try (with_reducible rfl))); (try simp only [List.getElem_toArray,List.getElem_cons_zero,List.getElem_cons_succ,Act.put,List.setIfInBounds_toArray,List.set_cons_zero,List.set_cons_succ])
        (refine wpAnyH_take (i:=2) (v:=?_) rfl (by kernel_rfl) (by kernel_rfl) (by kernel_rfl) (fun _ _ _ h=>h) (Or.inl ⟨by rfl,?_⟩) (by assumption) ?_); rotate_left 1; (focus (intro w hSw; (try dsimp only at hSw); go_simp; try (with_reducible rfl))); (try simp only [List.getElem_toArray,List.getElem_cons_zero,List.getElem_cons_succ,Act.put,List.setIfInBounds_toArray,List.set_cons_zero,List.set_cons_succ])
        (refine wpAnyH_take (i:=3) (v:=?_) rfl (by kernel_rfl) (by kernel_rfl) (by kernel_rfl) (fun _ _ _ h=>h) (Or.inl ⟨by rfl,?_⟩) (by assumption) ?_); rotate_left 1; (focus (intro w hSw; (try dsimp only at hSw); go_simp; try (with_reducible rfl))); (try simp only [List.getElem_toArray,List.getElem_cons_zero,List.getElem_cons_succ,Act.put,List.setIfInBounds_toArray,List.set_cons_zero,List.set_cons_succ])
        (refine wpAnyH_ready (rs:=[1]) (by kernel_rfl) (by simp) ?_); (refine AllReadyH.cons rfl (fun K hK=>?_) AllReadyH.nil); go_simp
        refine hCt.mono ?_
        rintro e w3 ⟨rfl,hb3⟩
        have hC3:=hC2d.kept hJB hBs hBj hBk hBg (tq.lC hb3)
        have hI3:=hI _ _ w3 hI2 ⟨hb3.os,hb3.tape,hb3.output,hb3.size,fun k hk _=>hb3.block k hk⟩
        (refine hK.out _ _ (by simp only [World.cell?,hC3.hj]; rfl) (fun hHeld=>?_)); clear hK K; (try simp only [List.getElem_toArray,List.getElem_cons_zero,List.getElem_cons_succ,Act.put,List.setIfInBounds_toArray,List.set_cons_zero,List.set_cons_succ])
        (refine wpAnyH_take (i:=4) (v:=?_) rfl (by kernel_rfl) (by kernel_rfl) (by kernel_rfl) (fun _ _ _ h=>h) (Or.inl ⟨by rfl,?_⟩) (by assumption) ?_); rotate_left 1; (focus (intro w hSw; (try dsimp only at hSw); go_simp; try (with_reducible rfl))); (try simp only [List.getElem_toArray,List.getElem_cons_zero,List.getElem_cons_succ,Act.put,List.setIfInBounds_toArray,List.set_cons_zero,List.set_cons_succ])
        (refine wpAnyH_take (i:=5) (v:=?_) rfl (by kernel_rfl) (by kernel_rfl) (by kernel_rfl) (fun _ _ _ h=>h) (Or.inl ⟨by rfl,?_⟩) (by assumption) ?_); rotate_left 1; (focus (intro w hSw; (try dsimp only at hSw); go_simp; try (with_reducible rfl))); (try simp only [List.getElem_toArray,List.getElem_cons_zero,List.getElem_cons_succ,Act.put,List.setIfInBounds_toArray,List.set_cons_zero,List.set_cons_succ])
        (refine wpAnyH_take (i:=6) (v:=undef) rfl (by kernel_rfl) (by kernel_rfl) (by kernel_rfl) (fun _ _ _ h=>h) (Or.inr ⟨by rfl,rfl⟩) (by assumption) ?_); (try simp only [List.getElem_toArray,List.getElem_cons_zero,List.getElem_cons_succ,Act.put,List.setIfInBounds_toArray,List.set_cons_zero,List.set_cons_succ])
        (refine wpAnyH_take (i:=7) (v:=undef) rfl (by kernel_rfl) (by kernel_rfl) (by kernel_rfl) (fun _ _ _ h=>h) (Or.inr ⟨by rfl,rfl⟩) (by assumption) ?_); (try simp only [List.getElem_toArray,List.getElem_cons_zero,List.getElem_cons_succ,Act.put,List.setIfInBounds_toArray,List.set_cons_zero,List.set_cons_succ])
        (refine wpAnyH_take (i:=8) (v:=undef) rfl (by kernel_rfl) (by kernel_rfl) (by kernel_rfl) (fun _ _ _ h=>h) (Or.inr ⟨by rfl,rfl⟩) (by assumption) ?_); (try simp only [List.getElem_toArray,List.getElem_cons_zero,List.getElem_cons_succ,Act.put,List.setIfInBounds_toArray,List.set_cons_zero,List.set_cons_succ])
        (refine wpAnyH_take (i:=9) (v:=undef) rfl (by kernel_rfl) (by kernel_rfl) (by kernel_rfl) (fun _ _ _ h=>h) (Or.inr ⟨by rfl,rfl⟩) (by assumption) ?_); (try simp only [List.getElem_toArray,List.getElem_cons_zero,List.getElem_cons_succ,Act.put,List.setIfInBounds_toArray,List.set_cons_zero,List.set_cons_succ])
        (refine wpAnyH_take (i:=10) (v:=undef) rfl (by kernel_rfl) (by kernel_rfl) (by kernel_rfl) (fun _ _ _ h=>h) (Or.inr ⟨by rfl,rfl⟩) (by assumption) ?_); (try simp only [List.getElem_toArray,List.getElem_cons_zero,List.getElem_cons_succ,Act.put,List.setIfInBounds_toArray,List.set_cons_zero,List.set_cons_succ])
        (refine wpAnyH_take (i:=11) (v:=?_) rfl (by kernel_rfl) (by kernel_rfl) (by kernel_rfl) (fun _ _ _ h=>h) (Or.inl ⟨by rfl,?_⟩) (by assumption) ?_); rotate_left 1; (focus (intro w hSw; (try dsimp only at hSw); go_simp; try (with_reducible rfl))); (try simp only [List.getElem_toArray,List.getElem_cons_zero,List.getElem_cons_succ,Act.put,List.setIfInBounds_toArray,List.set_cons_zero,List.set_cons_succ])
        refine wpAnyH_done (by kernel_rfl) ?_ _
        gi_wp2
        exact ⟨⟨i+1,by simp,by omega,hC3,by rw [hch]; exact hI3⟩,by simp [intOf]; omega⟩
    ·obtain rfl:i=N+1:=by omega
     gi_wp2
     go_end0
     rw [List.take_of_length_le (by omega)] at hIi
     exact ⟨⟨_,rfl⟩,.inl ⟨_,by rw [hm,hL],hIi⟩⟩
end Go.Proofs
