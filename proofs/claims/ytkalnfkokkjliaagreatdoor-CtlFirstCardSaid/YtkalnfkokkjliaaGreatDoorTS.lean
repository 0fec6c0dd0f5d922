/- The logical machine and its plain laws: parts T4, T5, T6, T7, proved sound. -/
import Derived.Test.YtkalnfkokkjliaaGreatDoorSR
import Derived.Test.YtkalnfkokkjliaaGreatDoorQA
import Derived.Test.YtkalnfkokkjliaaGreatDoorTA
import Derived.Test.YtkalnfkokkjliaaGreatDoorV23
import Derived.Test.YtkalnfkokkjliaaGreatDoorVD
set_option linter.unusedVariables false
set_option linter.unusedSimpArgs false
namespace Dv
open Go Go.Proofs Go.Sort Go.Shelf
variable {G:Nat→Option (List DV)}
def P0:Nat×C×List RV:=(34,
(.seq (.af [qo 3 (.box 30 (.t 0)),
 qo 6 (.mv (qk 0))])
 (.seq (.bQ [qo 9 (.aj 1 (.t 3)),
 qd 10 (.ld1 (.t 9)) [0],
 qm 11 1,
 qd 12 (.bin .sub (.t 11) (qk 1)) [2],
 qd 13 (.eG 12 (.t 10) (.t 12)) [1,0,3,2],
 qd 14 (.bP 12 (.t 13)) [4,1,0,3,2],
 qo 15 (.aj 1 (.t 3)),
 qd 16 (.ld1 (.t 15)) [6],
 qm 17 2,
 qd 18 (.bin .sub (.t 17) (qk 1)) [8],
 qd 19 (.eG 12 (.t 16) (.t 18)) [7,6,9,8],
 qd 20 (.bP 12 (.t 19)) [10,7,6,9,8],
 qo 7 (.new 119 [q0,q0,q0,q0,q0,q0,q0,q0,q0,q0,q0,q0]),
 qo 8 (.new 119 [q0,q0,q0,q0,q0,q0,q0,q0,q0,q0,q0,q0]),
 ql (.st 12 (.t 7) (.t 14)) [12,5,4,1,0,3,2,13],
 ql (.st 12 (.t 8) (.t 20)) [13,11,10,7,6,9,8,14,12,5,4,1,0,3,2]])
 (.seq (.seq (.af [qo 21 (.aj 1 (.t 7)),
 qo 22 (.ld1 (.t 21)),
 qo 23 (.aj 1 (.t 8)),
 qo 24 (.ld1 (.t 23)),
 qo 25 (.bin .neq (.t 22) (.t 24))])
 (.cond (.t 25) (.seq (.af [qo 26 (.aj 1 (.t 8)),
 qo 27 (.ld1 (.t 26)),
 qo 28 (.aj 1 (.t 7)),
 qo 29 (.ld1 (.t 28)),
 qo 30 (.bin .sub (.t 27) (.t 29)),
 qm 6 30])
 .ret)
 .skip))
 (.seq (.af [qm 31 1,
 qm 32 2,
 qo 33 (.bin .sub (.t 31) (.t 32)),
 qm 6 33])
 .ret)))),
[(.t 6)])
theorem MD:aq Tryz.prog Tryz.f325=some P0:=by kernel_rfl
def Qa:Nat×C×List RV:=(27,
(.seq (.af [qo 1 (.box 30 (.t 0)),
 qo 2 (.mv (.c (.val (.slice none 0 0))))])
 (.seq (.af [qo 3 (.mv (.c (.val (.slice none 0 0))))])
 (.seq (.seq (.af [qo 6 (.aj 1 (.t 1)),
 qo 7 (.ld1 (.t 6)),
 qo 8 (.len (.t 7)),
 qo 9 (.mv (qk 0))])
 (.block 0 (.loop (.seq (.af [qo 10 (.bin .lss (.t 9) (.t 8))])
 (.seq (.cond (.t 10) .skip
 (.exit 0))
 (.seq (.block 1 (.seq (.af [qm 11 9,
 qo 12 (.eG 12 (.t 7) (.t 9)),
 qo 13 (.bP 12 (.t 12)),
 qo 5 (.new 119 [q0,q0,q0,q0,q0,q0,q0,q0,q0,q0,q0,q0]),
 qm 4 11,
 qn (.st 12 (.t 5) (.t 13))])
 (.seq (.af [qo 14 (.aj 6 (.t 5)),
 qo 15 (.ld1 (.t 14)),
 qo 16 (.bin .eql (.t 15) (qk 0))])
 (.cond (.t 16) (.af [qm 17 3,
 qm 18 4,
 qo 19 (.bin .add (.t 18) (qk 1)),
 qo 20 (.nh 3 1 [(.t 19)]),
 qo 21 (.app 3 1 8 (.t 17) (.t 20)),
 qm 3 21])
 .skip))))
 (.af [qo 22 (.bin .add (.t 9) (qk 1)),
 qm 9 22])))))))
 (.seq (.af [qm 23 3,
 qo 24 (.zS (.func 324) [] [(.t 1)]),
 qo 25 (.call (.f 323) [(.t 23),(.t 24)])])
 (.seq (.af [qm 26 3,
 qm 2 26])
 .ret))))),
[(.t 2)])
theorem MH:aq Tryz.prog Tryz.f312=some Qa:=by kernel_rfl
def uw (s:aa) (i j:Nat):Int:=if ee s i=ee s j then (i:Int)-j else ee s j-ee s i
theorem vH (s:aa) (i j:Nat):decide (uw s i j<0)=AM s i j:=by
 unfold uw AM
 rw [Bool.eq_iff_iff,decide_eq_true_eq,decide_eq_true_eq]
 split <;> omega
def FW (s:aa):Prop:=∀ i,i<s.jobs.length→0≤ee s i∧ee s i≤1000000
set_option maxHeartbeats 4000000 in
theorem Bj (s:aa) (hl:s.jobs.length≤1000000) (hp:FW s) (i j:Nat) (hi:i<s.jobs.length) (hj:j<s.jobs.length) {J:Nat→Prop} {ι:Nat→Nat→Option Nat} {w:World} {vs:Array Value} (S:aJ G J w ι (aB [])) (hargs:bW J w ι [bp s,.int ((i+1:Nat):Int),.int ((j+1:Nat):Int)] vs.toList) :
  Calls Tryz.prog 325 vs w (fun e w'=>∃ v,e=.returned v∧a_ G (aB []) (aB []) J ι w (.int (uw s i j)) v w'∧w.drawn≤w'.drawn):=by
 refine UT Tryz.func325 (by decide) MD rfl rfl (by kernel_rfl) ?_ J ι w vs S hargs
 have hgi:=aL (f:=dh) ax hi
 have Io:=aL (f:=dh) ax hj
 have hpi:=hp i hi
 have Zy:=hp j hj
 have e1:IntKind.i64.wrap (((i+1:Nat):Int)-1)=(i:Int):=by rw [aO (by omega) (by omega)]; omega
 have e2:IntKind.i64.wrap (((j+1:Nat):Int)-1)=(j:Int):=by rw [aO (by omega) (by omega)]; omega
 have e3:IntKind.i64.wrap (((i+1:Nat):Int)-((j+1:Nat):Int))=(i:Int)-j:=by rw [aO (by omega) (by omega)]; omega
 have e4:IntKind.i64.wrap (ee s j-ee s i)=ee s j-ee s i:=aO (by omega) (by omega)
 unfold uw
 unfold ee at *
 generalize s.jobs.getD i ax=x at *
 generalize s.jobs.getD j ax=y at *
 simp only [dh] at hgi Io
 simp only [P0,e1,e2,hgi,Io,go_sem,simprocAttr]
 refine av rfl ?_
 simp only [go_sem,simprocAttr]
 by_cases h:x.prio=y.prio
 ·simp only [h,bne_self_eq_false,e3,go_sem,simprocAttr]
 ·simp only [show (x.prio !=y.prio)=true from bne_iff_ne.2 h,h,e4,go_sem,simprocAttr]
theorem xP {G:Nat→Option (List DV)} {J:Nat→Prop} {ι:Nat→Nat→Option Nat} {w w':World} {r:LV} {v:Value} (h:a_ G (aB []) (aB []) J ι w r v w') (hd:w.drawn≤w'.drawn):∃ q os',w'=grow (w.drewN q) os':=by
 obtain ⟨J',ι',_,_,E⟩:=h
 have hno:∀ b,¬ Own ι (aB []) b:=fun b ⟨o,ho⟩=>by simp [aB,cv.own] at ho
 have hh:w'.heap=w.heap++w'.heap.extract w.heap.size w'.heap.size:=by
  apply Array.ext_getElem?
  intro i
  rw [Array.getElem?_append]
  split
  ·rename_i hi; exact E.ev.same i hi (hno i)
  ·rename_i hi
   rw [Array.getElem?_extract]
   have:=E.ev.size
   split
   ·congr 1; omega
   ·exact Array.getElem?_eq_none (by omega)
 refine ⟨w'.drawn-w.drawn,w'.heap.extract w.heap.size w'.heap.size,?_⟩
 have e1:=E.ev.os
 have e2:=E.ev.tape
 have e3:=E.ev.output
 clear E hno
 cases w' with
 | mk h0 t0 d0 o0 u0=>
   simp only at e1 e2 e3 hh hd
   subst e1 e2 e3
   simp only [grow,World.drewN,Nat.add_sub_cancel' hd]
   rw [← hh]
set_option maxHeartbeats 4000000 in
theorem BE (s:aa) (hl:s.jobs.length≤1000000) (hp:FW s) (i j:Nat) (hi:i<s.jobs.length) (hj:j<s.jobs.length) {J:Nat→Prop} {ι:Nat→Nat→Option Nat} {w:World} (S:aJ G J w ι (aB [])) {bs:Nat} {C:Array Value} {et:TypeId} (hb:w.heap[bs]? = some (.cells C et (0,0)))
  (hC:bI J w ι [bZ s.nodes,dg s.jobs,.int s.goal,.int s.prior,.int s.mode,.int s.term] C.toList) :
  Calls Tryz.prog 324 #[.int .i64 ((i+1:Nat):Int),.int .i64 ((j+1:Nat):Int),.pointer (some ⟨bs,0,none⟩)] w (fun e w'=>e=.returned (.int .i64 (uw s i j))∧∃ q os',w'=grow (w.drewN q) os'):=by
 obtain ⟨cl⟩:=C
 match cl,hC with
 | [x0,x1,x2,x3,x4,x5],⟨o0,r0,o1,r1,o2,r2,o3,r3,o4,r4,o5,r5,_⟩=>
 have hcs:∀ k v,([x0,x1,x2,x3,x4,x5]:List Value)[k]? = some v→w.cell? ⟨bs,k,none⟩=some v:=fun k v hk=>by
  simp only [World.cell?,hb]
  simpa using hk
 have c0:=hcs 0 x0 rfl
 have c1:=hcs 1 x1 rfl
 have c2:=hcs 2 x2 rfl
 have c3:=hcs 3 x3 rfl
 have c4:=hcs 4 x4 rfl
 have c5:=hcs 5 x5 rfl
 have hO:=Bj (w:=w) (vs:=#[.agg #[x0,x1,x2,x3,x4,x5],.int .i64 ((i+1:Nat):Int),.int .i64 ((j+1:Nat):Int)]) s hl hp i j hi hj S ⟨⟨_,rfl,o0,r0,o1,r1,o2,r2,o3,r3,o4,r4,o5,r5,trivial⟩,rfl,rfl,trivial⟩
 clear hcs hb r0 r1 r2 r3 r4 r5
 generalize ((i+1:Nat):Int)=a at *
 generalize ((j+1:Nat):Int)=b at *
 generalize uw s i j=r at *
 go_enter Tryz.func324,Tryz.ntmps324
 go_wp2_with (go_at_call 325; refine hO.mono ?_; rintro e w' ⟨v,rfl,hA,hd⟩; obtain ⟨q,os',rfl⟩:=xP hA hd; obtain ⟨_,_,_,hv,_⟩:=hA; obtain rfl:v=.int .i64 r:=hv)
 go_ret
 exact ⟨rfl,q,os',rfl⟩
end Dv
namespace Dv
open Go Go.Proofs Go.Sort Go.Shelf
variable {G:Nat→Option (List DV)}
def j8 {n:Nat} (l:List (Fin n)):List (List DV):=l.map fun i=>[i64 ((i.val+1:Nat):Int)]
def j9 {n:Nat} (i:Fin n):Value:=.int .i64 ((i.val+1:Nat):Int)
theorem tP {J:Nat→Prop} {w:World} {n:Nat} : ∀ (l:List (Fin n)) (b off:Nat),(∀ k x,l[k]? = some x→w.cell? ⟨b,off+k,none⟩=some (j9 x))→bC J w 1 (j8 l) b off
 | [],_,_,_=>trivial
 | x::l,b,off,h=>⟨rfl,⟨⟨j9 x,h 0 x rfl,rfl,rfl⟩,trivial⟩,tP l b (off+1) (fun k y hk=>by
    have:=h (k+1) y hk
    rwa [show off+(k+1)=off+1+k by omega] at this)⟩
section
variable {α:Type} [Inhabited α] (enc:α→Value) (w:World) (blk m:Nat) (d:Array α) (os:Array Obj)
theorem nD (hb:blk<w.heap.size) {k:Nat} (hk:k<w.heap.size) (hne:k≠blk):(sortWorld enc w blk 0 m d os).heap[k]? = w.heap[k]?:=by
 unfold sortWorld
 rw [heap_grow_old _ _ (by rw [Go.Sort.size_putRow]; exact hk)]
 unfold putRow mapBlock
 show (w.heap.modify blk _)[k]? = _
 rw [Array.getElem?_modify]
 rw [if_neg (fun e=>hne e.symm)]
theorem IB {C:Array Value} {t:TypeId} {f:Nat×Nat} (hb:w.heap[blk]? = some (.cells C t f)):(sortWorld enc w blk 0 m d os).heap[blk]? = some (.cells (putCells enc 0 d C) t f):=by
 have hlt:=(Array.getElem?_eq_some_iff.1 hb).1
 unfold sortWorld
 rw [heap_grow_old _ _ (by rw [Go.Sort.size_putRow]; exact hlt)]
 unfold putRow mapBlock
 show (w.heap.modify blk _)[blk]? = _
 rw [Array.getElem?_modify,if_pos rfl,hb]
 rfl
theorem LN:w.heap.size≤(sortWorld enc w blk 0 m d os).heap.size:=by
 unfold sortWorld grow
 simp [Go.Sort.size_putRow,Sort.ahead]
theorem AZ {C:Array Value} {t:TypeId} {f:Nat×Nat} (hb:w.heap[blk]? = some (.cells C t f)) {k:Nat} (hk:k<w.heap.size):(sortWorld enc w blk 0 m d os).shape? k=w.shape? k:=by
 by_cases e:k=blk
 ·subst e
  unfold World.shape?
  rw [IB enc w k m d os hb,hb]
  simp [putCells]
 ·exact bD (nD enc w blk m d os (Array.getElem?_eq_some_iff.1 hb).1 hk e)
end
theorem XY (s:aa):SWO (ltOf (fun x y:Fin s.jobs.length=>uw s x.val y.val)) where
 irrefl x:=by unfold ltOf; rw [vH]; exact Uh s _
 trans x y z h1 h2:=by unfold ltOf at *; rw [vH] at *; exact Cv h1 h2
 ntrans x y z h1 h2:=by
  unfold ltOf at *; rw [vH] at *
  cases h:AM s x.val z.val with
  | false=>rfl
  | true=>
    by_cases e:y.val=x.val
    ·rw [← e] at h; rw [h] at h2; exact h2
    ·rcases Cw (s:=s) (fun h=>e h.symm) with k | k
     ·rw [k] at h1; exact h1
     ·have:=Cv k h; rw [this] at h2; exact h2
theorem XX (s:aa) (x y:Fin s.jobs.length) (h1:ltOf (fun x y:Fin s.jobs.length=>uw s x.val y.val) x y=false) (h2:ltOf (fun x y:Fin s.jobs.length=>uw s x.val y.val) y x=false):x=y:=by
 unfold ltOf at *; rw [vH] at *
 by_cases e:x.val=y.val
 ·exact Fin.ext e
 ·rcases Cw (s:=s) e with k | k
  ·rw [k] at h1; cases h1
  ·rw [k] at h2; cases h2
set_option maxRecDepth 100000 in
set_option maxHeartbeats 2000000 in
theorem IG (s:aa) (hl:s.jobs.length≤1000000) (hp:FW s) (l:List (Fin s.jobs.length)) (uQ:l.length≤1000000) :
  bw Tryz.prog G 323 [.sl 0 l.length 1 0 l.length,.fn (.func 324) [] [.ptr 1 0]] [.dat 3 1 (j8 l),eM s] (.dP []) [.dat 3 1 (j8 (l.mergeSort fun x y=>!AM s y.val x.val)),eM s]:=by
 refine ⟨by decide,fun J ι w vs S hR=>?_⟩
 obtain ⟨vl⟩:=vs
 match vl,hR with
 | [v0,v1],⟨h0,h1,_⟩=>
 obtain ⟨fs,cs,rfl,hfs,hcs⟩:=h1
 obtain ⟨fl⟩:=fs
 obtain ⟨cl⟩:=cs
 match fl,hfs,cl,hcs with
 | [],_,[p],⟨⟨bs,Sh,hpv⟩,_⟩=>
 subst hpv
 by_cases kW:l=[]
 ·subst kW
  rw [List.mergeSort_nil]
  obtain ⟨p,cap,rfl⟩:∃ p cap,v0=.slice p 0 cap:=by
   rcases h0 with ⟨_,a,rfl⟩ | ⟨b,cap,et,C,_,rfl,_⟩
   ·exact ⟨a,0,rfl⟩
   ·exact ⟨_,cap,rfl⟩
  have hc:=AnyF.slices_SortFunc_none (P:=Tryz.prog) (ρ:=Tryz.ye) { Tryz.PC with } p cap (.func (.func 324) #[] #[.pointer (some ⟨bs,0,none⟩)]) w
  change Calls Tryz.prog 323 _ _ _ at hc
  refine hc.mono ?_
  rintro e w' ⟨rfl,rfl⟩
  exact ⟨.tuple #[],rfl,a_.stay S (show cQ J _ ι (.dP []) (.tuple #[]) from ⟨#[],rfl,trivial⟩)⟩
 obtain ⟨x0,_⟩:=List.exists_mem_of_ne_nil l kW
 haveI:Inhabited (Fin s.jobs.length):=⟨x0⟩
 have hpos:0<l.length:=List.length_pos_iff.2 kW
 obtain ⟨b,cap,et',C',hb,rfl,hcap,_,_⟩:=h0.resolve_left (fun h=>by omega)
 have VY:=S.rep 0
 have VX:=S.rep 1
 obtain ⟨⟨_,BW⟩,hkey⟩:=VY
 have hlen:(j8 l).length=l.length:=List.length_map _
 rw [hlen] at BW
 obtain ⟨⟨C,hC⟩,hrows⟩:=BW b hb
 obtain ⟨⟨bs',B,WL,hB,ZQ⟩,_⟩:=VX
 rw [Sh] at WL; cases WL
 have G9:=(Array.getElem?_eq_some_iff.1 hC).1
 have BR:(aB (List.map some [aD.dat 3 1 (j8 l),eM s]) 0).own ι 0 b:=by show ι 0 (j8 l).length=some b; rw [hlen]; exact hb
 have wk:(aB (List.map some [aD.dat 3 1 (j8 l),eM s]) 1).own ι 1 bs:=Sh
 have hne:bs≠b:=fun e=>by
  have:=S.inj 1 0 b (by rw [← e]; exact wk) BR
  cases this
 have hnJ:∀ k,J k→k≠b:=fun k hk e=>S.qq 0 b BR (e ▸ hk)
 have hcell:∀ k x,l[k]? = some x→w.cell? ⟨b,k,none⟩=some (j9 x):=fun k x hk=>by
  have hr:(j8 l)[k]? = some [i64 ((x.val+1:Nat):Int)]:=by unfold j8; rw [List.getElem?_map,hk]; rfl
  obtain ⟨_,h⟩:=hrows.get hr
  obtain ⟨v,h1,_,h3⟩:=h.get (i:=0) rfl
  have h3:v=j9 x:=h3
  rw [h3] at h1
  simpa using h1
 have hH:Holds j9 w b 0 l.toArray:=fun j hj=>by
  have hj':j<l.length:=by simpa using hj
  have hx:l[j]? = some l[j]:=List.getElem?_eq_getElem hj'
  have e:l.toArray[j]! = l[j]:=by simp [hj']
  rw [e,Nat.zero_add]
  exact ⟨hcell j _ hx,by simp [World.frozen?,hC]⟩
 obtain ⟨S0,_⟩:=S.sub (ρ:=[]) (Z:=[]) (aM:=[]) (base:=0) List.nodup_nil (fun _ h=>by cases h) rfl (fun i o h=>by simp at h) rfl (fun _ h=>by cases h)
 have hcmp:CmpLays1 Tryz.prog 324 #[.pointer (some ⟨bs,0,none⟩)] j9 (fun x y:Fin s.jobs.length=>uw s x.val y.val) b 0 l.toArray.size w:=fun m os dk hs x y=>by
  have hds:=k9 (ds:=[.dY 5 (s.nodes.map ck),.dY 12 (s.jobs.map dh),i64 s.goal,i64 s.prior,i64 s.mode,i64 s.term]) rfl ZQ.xC
  have hJ':∀ k,(J k∨CA ι (aB (List.map some [aD.dat 3 1 (j8 l),eM s])) [] k)→J k:=fun k h=>h.resolve_right (fun ⟨z,hz,_⟩=>by cases hz)
  have hsame:∀ k,J k→(sortWorld j9 w b 0 m dk os).heap[k]? = w.heap[k]?:=fun k hk=>nD j9 w b m dk os G9 (S.AK k hk) (hnJ k hk)
  have hst:=S0.still (w':=sortWorld j9 w b 0 m dk os) (fun k hk=>hsame k (hJ' k hk)) (fun k hk=>by
   obtain ⟨o,ho⟩:=hk
   simp [aB,cv.own] at ho) (fun k hk=>AZ j9 w b m dk os hC (fI hk))
  refine BE s hl hp x.val y.val x.isLt y.isLt hst (C:=B) (et:=30) ((nD j9 w b m dk os G9 (Array.getElem?_eq_some_iff.1 hB).1 hne).trans hB) ?_
  exact bq.ux (bq.mono (fun k hk=>.inl hk) hsame _ _ hds) ZQ.one
 have hc:=Any.slices_SortFunc_total Tryz.PC j9 (fun _=>rfl) (fun x y:Fin s.jobs.length=>uw s x.val y.val) (XY s) 324 #[.pointer (some ⟨bs,0,none⟩)] b 0 cap l.toArray w (enters_of Tryz.func324 (by kernel_rfl) rfl) hcmp hH G9 (by simp; omega) (XX s)
 change Calls Tryz.prog 323 _ _ _ at hc
 simp only [List.size_toArray,Nat.zero_mul] at hc ⊢
 refine hc.mono ?_
 rintro e w' ⟨rfl,m,os,rfl⟩
 refine ⟨_,rfl,?_⟩
 have elt:(fun x y:Fin s.jobs.length=>!ltOf (fun x y:Fin s.jobs.length=>uw s x.val y.val) y x)=fun x y=>!AM s y.val x.val:=by
  funext x y
  unfold ltOf
  rw [vH]
 rw [elt]
 generalize hl':(l.mergeSort fun x y=>!AM s y.val x.val)=l'
 have hlen':l'.length=l.length:=by rw [← hl']; exact List.length_mergeSort _
 have hSW:SW j9 w b 0 l'.toArray (sortWorld j9 w b 0 m l'.toArray os):=⟨m,os,rfl⟩
 have hH':=hSW.holds G9 hH (by simpa using hlen')
 have TR:∀ k x,l'[k]? = some x→(sortWorld j9 w b 0 m l'.toArray os).cell? ⟨b,k,none⟩=some (j9 x):=fun k x hk=>by
  obtain ⟨LD,hk2⟩:=List.getElem?_eq_some_iff.1 hk
  have:=(hH' k (by simpa using LD)).1
  have e:l'.toArray[k]! = x:=by simp [LD,hk2]
  rw [e,Nat.zero_add] at this
  exact this
 have E:Ev (Own ι (aB (List.map some [aD.dat 3 1 (j8 l),eM s]))) J J ι ι w (sortWorld j9 w b 0 m l'.toArray os):=
  ⟨rfl,rfl,rfl,LN j9 w b m _ os,fun k hk hn=>nD j9 w b m _ os G9 hk (fun e=>hn ⟨0,e ▸ BR⟩),fun k hk=>AZ j9 w b m _ os hC hk,fun _ h=>h,fun _ h=>.inl h,fun _ _ _ h=>h⟩
 obtain ⟨S1,E1⟩:=S.qK 0 (.live (.dat 3 1 (j8 l'))) E (fun _ _ _=>rfl) (fun k hk hn=>nD j9 w b m _ os G9 hk (fun e=>hn (e ▸ BR))) (by
  have hlr:(j8 l').length=l.length:=by unfold j8; rw [List.length_map,hlen']
  refine ⟨⟨.inr (by rw [hlr,hb]; rfl),fun k hk=>?_⟩,fun n hn=>hkey n (by rw [hlen]; rw [hlr] at hn; exact hn)⟩
  rw [hlr,hb] at hk
  cases hk
  exact ⟨⟨_,IB j9 w b m _ os hC⟩,tP l' b 0 (fun k x hk=>by rw [Nat.zero_add]; exact TR k x hk)⟩) (fun k hk=>by
  have hlr:(j8 l').length=l.length:=by unfold j8; rw [List.length_map,hlen']
  have hk:ι 0 (j8 l').length=some k:=hk
  rw [hlr,hb] at hk
  cases hk
  exact .inl BR)
 have e:(fun o=>if o=0 then cv.live (aD.dat 3 1 (j8 l')) else aB (List.map some [aD.dat 3 1 (j8 l),eM s]) o)=aB (List.map some [aD.dat 3 1 (j8 l'),eM s]):=by
  funext o
  cases o <;> rfl
 rw [e] at S1 E1
 exact ⟨J,ι,S1,⟨#[],rfl,trivial⟩,E1⟩
end Dv
namespace Dv
open Go Go.Proofs
variable {G:Nat→Option (List DV)}
def jr (l:List Nat):List (List DV):=l.map fun i=>[i64 ((i+1:Nat):Int)]
def eC (s:aa) (k:Nat):List Nat:=(List.range k).filter (qB s)
theorem xF (s:aa) (k:Nat):eC s (k+1)=eC s k++(if qB s k=true then [k] else []):=by
 unfold eC
 rw [List.range_succ,List.filter_append]
 simp only [List.filter_cons,List.filter_nil]
theorem l7 (s:aa) (k:Nat):(eC s k).length≤k:=by
 have:=List.length_filter_le (qB s) (List.range k)
 simpa [eC] using this
def qF (s:aa):List (Fin s.jobs.length):=(l8 s).pmap (fun i h=>⟨i,h⟩) (fun i hi=>(gz.1 hi).1)
theorem zF (s:aa):(qF s).map (·.val)=l8 s:=by
 unfold qF
 rw [List.map_pmap,List.pmap_eq_map,List.map_id']
theorem BO {n:Nat} (l:List (Fin n)):j8 l=jr (l.map (·.val)):=by
 unfold j8 jr
 rw [List.map_map]; rfl
theorem L4 (s:aa):((qF s).mergeSort fun x y=>!AM s y.val x.val).map (·.val)=kr s:=by
 unfold kr
 rw [← zF s]
 exact List.map_mergeSort (fun _ _ _ _=>rfl)
def Va (s:aa) (k:Nat):St:=⟨[(1,.ptr 0 0),(3,.sl 1 (eC s k).length 1 0 (eC s k).length),(7,dg s.jobs),(8,.int s.jobs.length),(9,.int k)],[some (eM s),some (.dat 3 1 (jr (eC s k)))]⟩
set_option maxHeartbeats 4000000 in
theorem BD (s:aa) (hn:s.jobs.length≤1000) (hp:FW s):bw Tryz.prog G 312 [bp s] [] (.d (.dY 1 (jr (kr s)))) []:=by
 refine cG Tryz.func312 (by decide) MH rfl ?_
 simp only [Qa,go_sem,simprocAttr]
 refine aY [1,3,7,8,9] [.t 3 3 1] (fun k:Nat=>k≤s.jobs.length) (fun k=>s.jobs.length-k) (Va s) 0 ?_ (Nat.zero_le _) (fun k hk=>?_)
 ·simp only [Va,eM,go_sem,simprocAttr,eC,List.range_zero,List.filter_nil,jr,Int.natCast_zero]
 simp only [Va,eM,go_sem,simprocAttr]
 by_cases hlt:k<s.jobs.length
 ·have hg:=aL (f:=dh) ax hlt
  have hk2:=xF s k
  have hlen:=l7 s k
  have hbd:((eC s k).length+1)*8≤70368744177664:=by omega
  have hq:qB s k=decide ((s.jobs.getD k ax).phase=0):=rfl
  generalize s.jobs.getD k ax=j at *
  simp only [dh] at hg
  simp only [decide_eq_true (show ((k:Nat):Int)<((s.jobs.length:Nat):Int) by omega),hg,go_sem,simprocAttr]
  by_cases hb:j.phase=0
  ·rw [hq,decide_eq_true hb,if_pos rfl] at hk2
   simp only [show (j.phase==0)=true from beq_iff_eq.2 hb,jr,List.length_append,hbd,aG (show k<9223372036854775807 by omega),go_sem,simprocAttr]
   refine bz (k+1) ?_ ?_ (by omega) (by omega)
   ·simp only [go_sem,simprocAttr]
   ·simp only [Va,eM,hk2,jr,List.map_append,List.length_append,go_sem,simprocAttr]
  ·rw [hq,decide_eq_false hb,if_neg (by decide),List.append_nil] at hk2
   simp only [show (j.phase==0)=false from beq_eq_false_iff_ne.2 hb,go_sem,simprocAttr]
   refine bz (k+1) ?_ ?_ (by omega) (by omega)
   ·simp only [go_sem,simprocAttr]
   ·simp only [Va,eM,hk2,jr,go_sem,simprocAttr,aG (show k<9223372036854775807 by omega)]
 ·obtain rfl:k=s.jobs.length:=by omega
  simp only [decide_eq_false (show ¬ ((s.jobs.length:Nat):Int)<((s.jobs.length:Nat):Int) by omega),go_sem,simprocAttr]
  have XB:eC s s.jobs.length=l8 s:=rfl
  have hS:=IG (G:=G) s (by omega) hp (qF s) (by
   have:=l7 s s.jobs.length
   have e:=congrArg List.length (zF s)
   rw [List.length_map] at e
   rw [e,← XB]; omega)
  have hlq:(qF s).length=(eC s s.jobs.length).length:=by rw [XB,← zF s,List.length_map]
  rw [BO,BO,zF,L4,hlq,← XB] at hS
  have hl2:(eC s s.jobs.length).length=(kr s).length:=by rw [XB]; exact ((pZ s).length_eq).symm
  generalize eC s s.jobs.length=Q at *
  generalize kr s=L at *
  rw [hl2] at hS ⊢
  refine aK [1,0] (hS) rfl ?_ (by decide) ?_ ?_ (by simp) ?_ <;> simp only [ah,ai,go_sem,simprocAttr,eM]
  exact dL [1] rfl (by simp [St.obj,aB]) (by simp [St.obj,aB,aW,St.get,bx,ai,bE,jr,List.take_of_length_le])
end Dv
namespace Dv
open Go Go.Proofs
variable {G:Nat→Option (List DV)}
theorem succ_pred (i:Nat) (h:i≤1000):IntKind.i64.wrap (((i+1:Nat):Int)-1)=(i:Int):=by rw [aO (by omega) (by omega)]; omega
end Dv
