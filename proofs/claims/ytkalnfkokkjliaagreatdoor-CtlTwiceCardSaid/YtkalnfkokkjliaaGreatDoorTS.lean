/- part -/
import Derived.Test.YtkalnfkokkjliaaGreatDoorSR
import Derived.Test.YtkalnfkokkjliaaGreatDoorQA
import Derived.Test.YtkalnfkokkjliaaGreatDoorTA
import Derived.Test.YtkalnfkokkjliaaGreatDoorV23
import Derived.Test.YtkalnfkokkjliaaGreatDoorVD
set_option linter.all false
set_option maxHeartbeats 4000000
set_option maxRecDepth 100000
namespace Dv
open Go Go.Proofs Go.Sort Go.Shelf
variable {G:Nat→Option (List DV)}
def Wo:=qx Tryz.f325
theorem SN:aj Tryz.prog Tryz.f325=some Wo:=by kernel_rfl
def Ws:=qx Tryz.f312
theorem SR:aj Tryz.prog Tryz.f312=some Ws:=by kernel_rfl
def xR (s:aa) (i j:Nat):Int:=if eS s i=eS s j then (i:Int)-j else eS s j-eS s i
theorem zA (s:aa) (i j:Nat):decide (xR s i j<0)=ED s i j:=by
 unfold xR ED
 rw [Bool.eq_iff_iff,decide_eq_true_eq,decide_eq_true_eq]
 split <;> omega
def KX (s:aa):Prop:=∀ i,i<s.jobs.length→0≤eS s i∧eS s i≤1000000
theorem Fo (s:aa) (hl:s.jobs.length≤1000000) (hp:KX s) (i j:Nat) (hi:i<s.jobs.length) (hj:j<s.jobs.length) {J:Nat→Prop} {ι:Nat→Nat→Option Nat} {w:World} {vs:Array Value} (S:aI G J w ι (aD [])) (hargs:cu J w ι [aY s,.int ((i+1:Nat):Int),.int ((j+1:Nat):Int)] vs.toList) :
  Calls Tryz.prog 325 vs w (fun e w'=>∃ v,e=.returned v∧bg G (aD []) (aD []) J ι w (.int (xR s i j)) v w'∧w.drawn≤w'.drawn):=by
 refine aaO Tryz.func325 (by decide) SN rfl rfl (by kernel_rfl) ?_ J ι w vs S hargs
 have hgi:=aJ (f:=dD) az hi
 have Nx:=aJ (f:=dD) az hj
 have hpi:=hp i hi
 have hpj:=hp j hj
 have e1:IntKind.i64.wrap (((i+1:Nat):Int)-1)=(i:Int):=by rw [aN (by omega) (by omega)]; omega
 have e2:IntKind.i64.wrap (((j+1:Nat):Int)-1)=(j:Int):=by rw [aN (by omega) (by omega)]; omega
 have e3:IntKind.i64.wrap (((i+1:Nat):Int)-((j+1:Nat):Int))=(i:Int)-j:=by rw [aN (by omega) (by omega)]; omega
 have e4:IntKind.i64.wrap (eS s j-eS s i)=eS s j-eS s i:=aN (by omega) (by omega)
 unfold xR
 unfold eS at *
 generalize s.jobs.getD i az=x at *
 generalize s.jobs.getD j az=y at *
 simp only [dD] at hgi Nx
 simp only [Wo,e1,e2,e3,hgi,Nx,go_sem]
 refine au rfl ?_
 simp only [go_sem]
 by_cases h:x.prio=y.prio
 ·simp only [h,bne_self_eq_false,e3,go_sem]
 ·simp only [show (x.prio !=y.prio)=true from bne_iff_ne.2 h,h,e4,go_sem]
theorem Bu {G:Nat→Option (List DV)} {J:Nat→Prop} {ι:Nat→Nat→Option Nat} {w w':World} {r:LV} {v:Value} (h:bg G (aD []) (aD []) J ι w r v w') (hd:w.drawn≤w'.drawn):∃ q os',w'=grow (w.drewN q) os':=by
 obtain ⟨J',ι',_,_,E⟩:=h
 have hno:∀ b,¬ Own ι (aD []) b:=fun b ⟨o,ho⟩=>by simp [aD,cF.own] at ho
 have hh:w'.heap=w.heap++w'.heap.extract w.heap.size w'.heap.size:=by
  apply Array.ext_getElem?
  intro i
  rw [Array.getElem?_append]
  split
  ·rename_i hi; exact E.ev.same i hi (hno i)
  ·rename_i hi
   rw [Array.getElem?_extract]
   have:=E.ev.size
   split
   ·congr 1; omega
   ·exact Array.getElem?_eq_none (by omega)
 refine ⟨w'.drawn-w.drawn,w'.heap.extract w.heap.size w'.heap.size,?_⟩
 have e1:=E.ev.os
 have e2:=E.ev.tape
 have e3:=E.ev.output
 clear E hno
 cases w' with
 | mk h0 t0 d0 o0 u0=>
   simp only at e1 e2 e3 hh hd
   subst e1 e2 e3
   simp only [grow,World.drewN,Nat.add_sub_cancel' hd]
   rw [← hh]
theorem FJ (s:aa) (hl:s.jobs.length≤1000000) (hp:KX s) (i j:Nat) (hi:i<s.jobs.length) (hj:j<s.jobs.length) {J:Nat→Prop} {ι:Nat→Nat→Option Nat} {w:World} (S:aI G J w ι (aD [])) {bs:Nat} {C:Array Value} {et:TypeId} (hb:w.heap[bs]? = some (.cells C et (0,0)))
  (hC:bM J w ι [bO s.nodes,cO s.jobs,.int s.goal,.int s.prior,.int s.mode,.int s.term] C.toList) :
  Calls Tryz.prog 324 #[.int .i64 ((i+1:Nat):Int),.int .i64 ((j+1:Nat):Int),.pointer (some ⟨bs,0,none⟩)] w (fun e w'=>e=.returned (.int .i64 (xR s i j))∧∃ q os',w'=grow (w.drewN q) os'):=by
 obtain ⟨cl⟩:=C
 match cl,hC with
 | [x0,x1,x2,x3,x4,x5],⟨o0,r0,o1,r1,o2,r2,o3,r3,o4,r4,o5,r5,_⟩=>
 have hcs:∀ k v,([x0,x1,x2,x3,x4,x5]:List Value)[k]? = some v→w.cell? ⟨bs,k,none⟩=some v:=fun k v hk=>by
  simp only [World.cell?,hb]
  simpa using hk
 have c0:=hcs 0 x0 rfl
 have c1:=hcs 1 x1 rfl
 have c2:=hcs 2 x2 rfl
 have c3:=hcs 3 x3 rfl
 have c4:=hcs 4 x4 rfl
 have c5:=hcs 5 x5 rfl
 have hO:=Fo (w:=w) (vs:=#[.agg #[x0,x1,x2,x3,x4,x5],.int .i64 ((i+1:Nat):Int),.int .i64 ((j+1:Nat):Int)]) s hl hp i j hi hj S ⟨⟨_,rfl,o0,r0,o1,r1,o2,r2,o3,r3,o4,r4,o5,r5,trivial⟩,rfl,rfl,trivial⟩
 clear hcs hb r0 r1 r2 r3 r4 r5
 generalize ((i+1:Nat):Int)=a at *
 generalize ((j+1:Nat):Int)=b at *
 generalize xR s i j=r at *
 go_enter Tryz.func324,Tryz.ntmps324
 go_wp2_with (go_at_call 325; refine hO.mono ?_; rintro e w' ⟨v,rfl,hA,hd⟩; obtain ⟨q,os',rfl⟩:=Bu hA hd; obtain ⟨_,_,_,hv,_⟩:=hA; obtain rfl:v=.int .i64 r:=hv)
 go_ret
 exact ⟨rfl,q,os',rfl⟩
end Dv
namespace Dv
open Go Go.Proofs Go.Sort Go.Shelf
variable {G:Nat→Option (List DV)}
def mG {n:Nat} (l:List (Fin n)):List (List DV):=l.map fun i=>[i64 ((i.val+1:Nat):Int)]
def mH {n:Nat} (i:Fin n):Value:=.int .i64 ((i.val+1:Nat):Int)
theorem wX {J:Nat→Prop} {w:World} {n:Nat} : ∀ (l:List (Fin n)) (b off:Nat),(∀ k x,l[k]? = some x→w.cell? ⟨b,off+k,none⟩=some (mH x))→bF J w 1 (mG l) b off
 | [],_,_,_=>trivial
 | x::l,b,off,h=>⟨rfl,⟨⟨mH x,h 0 x rfl,rfl,rfl⟩,trivial⟩,wX l b (off+1) (fun k y hk=>by
    have:=h (k+1) y hk
    rwa [show off+(k+1)=off+1+k by omega] at this)⟩
section
variable {α:Type} [Inhabited α] (enc:α→Value) (w:World) (blk m:Nat) (d:Array α) (os:Array Obj)
theorem qa (hb:blk<w.heap.size) {k:Nat} (hk:k<w.heap.size) (hne:k≠blk):(sortWorld enc w blk 0 m d os).heap[k]? = w.heap[k]?:=by
 unfold sortWorld
 rw [heap_grow_old _ _ (by rw [Go.Sort.size_putRow]; exact hk)]
 unfold putRow mapBlock
 show (w.heap.modify blk _)[k]? = _
 rw [Array.getElem?_modify]
 rw [if_neg (fun e=>hne e.symm)]
theorem NM {C:Array Value} {t:TypeId} {f:Nat×Nat} (hb:w.heap[blk]? = some (.cells C t f)):(sortWorld enc w blk 0 m d os).heap[blk]? = some (.cells (putCells enc 0 d C) t f):=by
 have hlt:=(Array.getElem?_eq_some_iff.1 hb).1
 unfold sortWorld
 rw [heap_grow_old _ _ (by rw [Go.Sort.size_putRow]; exact hlt)]
 unfold putRow mapBlock
 show (w.heap.modify blk _)[blk]? = _
 rw [Array.getElem?_modify,if_pos rfl,hb]
 rfl
theorem RJ:w.heap.size≤(sortWorld enc w blk 0 m d os).heap.size:=by
 unfold sortWorld grow
 simp [Go.Sort.size_putRow,Sort.ahead]
theorem EO {C:Array Value} {t:TypeId} {f:Nat×Nat} (hb:w.heap[blk]? = some (.cells C t f)) {k:Nat} (hk:k<w.heap.size):(sortWorld enc w blk 0 m d os).shape? k=w.shape? k:=by
 by_cases e:k=blk
 ·subst e
  unfold World.shape?
  rw [NM enc w k m d os hb,hb]
  simp [putCells]
 ·exact bJ (qa enc w blk m d os (Array.getElem?_eq_some_iff.1 hb).1 hk e)
end
theorem acL (s:aa):SWO (ltOf (fun x y:Fin s.jobs.length=>xR s x.val y.val)) where
 irrefl x:=by unfold ltOf; rw [zA]; exact aax s _
 trans x y z h1 h2:=by unfold ltOf at *; rw [zA] at *; exact GM h1 h2
 ntrans x y z h1 h2:=by
  unfold ltOf at *; rw [zA] at *
  cases h:ED s x.val z.val with
  | false=>rfl
  | true=>
    by_cases e:y.val=x.val
    ·rw [← e] at h; rw [h] at h2; exact h2
    ·rcases GN (s:=s) (fun h=>e h.symm) with k | k
     ·rw [k] at h1; exact h1
     ·have:=GM k h; rw [this] at h2; exact h2
theorem acK (s:aa) (x y:Fin s.jobs.length) (h1:ltOf (fun x y:Fin s.jobs.length=>xR s x.val y.val) x y=false) (h2:ltOf (fun x y:Fin s.jobs.length=>xR s x.val y.val) y x=false):x=y:=by
 unfold ltOf at *; rw [zA] at *
 by_cases e:x.val=y.val
 ·exact Fin.ext e
 ·rcases GN (s:=s) e with k | k
  ·rw [k] at h1; cases h1
  ·rw [k] at h2; cases h2
theorem NS (s:aa) (hl:s.jobs.length≤1000000) (hp:KX s) (l:List (Fin s.jobs.length)) (we:l.length≤1000000) :
  bw Tryz.prog G 323 [.sl 0 l.length 1 0 l.length,.fn (.func 324) [] [.ptr 1 0]] [.dat 3 1 (mG l),fE s] (.dJ []) [.dat 3 1 (mG (l.mergeSort fun x y=>!ED s y.val x.val)),fE s]:=by
 refine ⟨by decide,fun J ι w vs S hR=>?_⟩
 obtain ⟨vl⟩:=vs
 match vl,hR with
 | [v0,v1],⟨h0,h1,_⟩=>
 obtain ⟨fs,cs,rfl,Rw,hcs⟩:=h1
 obtain ⟨fl⟩:=fs
 obtain ⟨cl⟩:=cs
 match fl,Rw,cl,hcs with
 | [],_,[p],⟨⟨bs,Rx,hpv⟩,_⟩=>
 subst hpv
 by_cases nD:l=[]
 ·subst nD
  rw [List.mergeSort_nil]
  obtain ⟨p,cap,rfl⟩:∃ p cap,v0=.slice p 0 cap:=by
   rcases h0 with ⟨_,a,rfl⟩ | ⟨b,cap,et,C,_,rfl,_⟩
   ·exact ⟨a,0,rfl⟩
   ·exact ⟨_,cap,rfl⟩
  have hc:=AnyF.slices_SortFunc_none (P:=Tryz.prog) (ρ:=Tryz.BN) { Tryz.VX with } p cap (.func (.func 324) #[] #[.pointer (some ⟨bs,0,none⟩)]) w
  change Calls Tryz.prog 323 _ _ _ at hc
  refine hc.mono ?_
  rintro e w' ⟨rfl,rfl⟩
  exact ⟨.tuple #[],rfl,bg.stay S (show dm J _ ι (.dJ []) (.tuple #[]) from ⟨#[],rfl,trivial⟩)⟩
 obtain ⟨x0,_⟩:=List.exists_mem_of_ne_nil l nD
 haveI:Inhabited (Fin s.jobs.length):=⟨x0⟩
 have hpos:0<l.length:=List.length_pos_iff.2 nD
 obtain ⟨b,cap,et',C',hb,rfl,hcap,_,_⟩:=h0.resolve_left (fun h=>by omega)
 have abF:=S.rep 0
 have abE:=S.rep 1
 obtain ⟨⟨_,F3⟩,hkey⟩:=abF
 have hlen:(mG l).length=l.length:=List.length_map _
 rw [hlen] at F3
 obtain ⟨⟨C,hC⟩,hrows⟩:=F3 b hb
 obtain ⟨⟨bs',B,ab_,hB,hBc⟩,_⟩:=abE
 rw [Rx] at ab_; cases ab_
 have Mt:=(Array.getElem?_eq_some_iff.1 hC).1
 have FY:(aD (List.map some [aH.dat 3 1 (mG l),fE s]) 0).own ι 0 b:=by show ι 0 (mG l).length=some b; rw [hlen]; exact hb
 have Ae:(aD (List.map some [aH.dat 3 1 (mG l),fE s]) 1).own ι 1 bs:=Rx
 have hne:bs≠b:=fun e=>by
  have:=S.inj 1 0 b (by rw [← e]; exact Ae) FY
  cases this
 have hnJ:∀ k,J k→k≠b:=fun k hk e=>S.sn 0 b FY (e ▸ hk)
 have hcell:∀ k x,l[k]? = some x→w.cell? ⟨b,k,none⟩=some (mH x):=fun k x hk=>by
  have hr:(mG l)[k]? = some [i64 ((x.val+1:Nat):Int)]:=by unfold mG; rw [List.getElem?_map,hk]; rfl
  obtain ⟨_,h⟩:=hrows.get hr
  obtain ⟨v,h1,_,h3⟩:=h.get (i:=0) rfl
  have h3:v=mH x:=h3
  rw [h3] at h1
  simpa using h1
 have hH:Holds mH w b 0 l.toArray:=fun j hj=>by
  have hj':j<l.length:=by simpa using hj
  have hx:l[j]? = some l[j]:=List.getElem?_eq_getElem hj'
  have e:l.toArray[j]! = l[j]:=by simp [hj']
  rw [e,Nat.zero_add]
  exact ⟨hcell j _ hx,by simp [World.frozen?,hC]⟩
 obtain ⟨S0,_⟩:=S.sub (ρ:=[]) (Z:=[]) (aK:=[]) (base:=0) List.nodup_nil (fun _ h=>by cases h) rfl (fun i o h=>by simp at h) rfl (fun _ h=>by cases h)
 have hcmp:CmpLays1 Tryz.prog 324 #[.pointer (some ⟨bs,0,none⟩)] mH (fun x y:Fin s.jobs.length=>xR s x.val y.val) b 0 l.toArray.size w:=fun m os dk hs x y=>by
  have hds:=nK (ds:=[.dH 5 (s.nodes.map bY),.dH 12 (s.jobs.map dD),i64 s.goal,i64 s.prior,i64 s.mode,i64 s.term]) rfl hBc.A_
  have hJ':∀ k,(J k∨GR ι (aD (List.map some [aH.dat 3 1 (mG l),fE s])) [] k)→J k:=fun k h=>h.resolve_right (fun ⟨z,hz,_⟩=>by cases hz)
  have hsame:∀ k,J k→(sortWorld mH w b 0 m dk os).heap[k]? = w.heap[k]?:=fun k hk=>qa mH w b m dk os Mt (S.Ez k hk) (hnJ k hk)
  have hst:=S0.still (w':=sortWorld mH w b 0 m dk os) (fun k hk=>hsame k (hJ' k hk)) (fun k hk=>by
   obtain ⟨o,ho⟩:=hk
   simp [aD,cF.own] at ho) (fun k hk=>EO mH w b m dk os hC (gI hk))
  refine FJ s hl hp x.val y.val x.isLt y.isLt hst (C:=B) (et:=30) ((qa mH w b m dk os Mt (Array.getElem?_eq_some_iff.1 hB).1 hne).trans hB) ?_
  exact bA.xT (bA.mono (fun k hk=>.inl hk) hsame _ _ hds) hBc.one
 have hc:=Any.slices_SortFunc_total Tryz.VX mH (fun _=>rfl) (fun x y:Fin s.jobs.length=>xR s x.val y.val) (acL s) 324 #[.pointer (some ⟨bs,0,none⟩)] b 0 cap l.toArray w (enters_of Tryz.func324 (by kernel_rfl) rfl) hcmp hH Mt (by simp; omega) (acK s)
 change Calls Tryz.prog 323 _ _ _ at hc
 simp only [List.size_toArray,Nat.zero_mul] at hc ⊢
 refine hc.mono ?_
 rintro e w' ⟨rfl,m,os,rfl⟩
 refine ⟨_,rfl,?_⟩
 have elt:(fun x y:Fin s.jobs.length=>!ltOf (fun x y:Fin s.jobs.length=>xR s x.val y.val) y x)=fun x y=>!ED s y.val x.val:=by
  funext x y
  unfold ltOf
  rw [zA]
 rw [elt]
 generalize hl':(l.mergeSort fun x y=>!ED s y.val x.val)=l'
 have hlen':l'.length=l.length:=by rw [← hl']; exact List.length_mergeSort _
 have hSW:SW mH w b 0 l'.toArray (sortWorld mH w b 0 m l'.toArray os):=⟨m,os,rfl⟩
 have hH':=hSW.holds Mt hH (by simpa using hlen')
 have aah:∀ k x,l'[k]? = some x→(sortWorld mH w b 0 m l'.toArray os).cell? ⟨b,k,none⟩=some (mH x):=fun k x hk=>by
  obtain ⟨wg,hk2⟩:=List.getElem?_eq_some_iff.1 hk
  have:=(hH' k (by simpa using wg)).1
  have e:l'.toArray[k]! = x:=by simp [wg,hk2]
  rw [e,Nat.zero_add] at this
  exact this
 have E:Ev (Own ι (aD (List.map some [aH.dat 3 1 (mG l),fE s]))) J J ι ι w (sortWorld mH w b 0 m l'.toArray os):=
  ⟨rfl,rfl,rfl,RJ mH w b m _ os,fun k hk hn=>qa mH w b m _ os Mt hk (fun e=>hn ⟨0,e ▸ FY⟩),fun k hk=>EO mH w b m _ os hC hk,fun _ h=>h,fun _ h=>.inl h,fun _ _ _ h=>h⟩
 obtain ⟨S1,E1⟩:=S.tV 0 (.live (.dat 3 1 (mG l'))) E (fun _ _ _=>rfl) (fun k hk hn=>qa mH w b m _ os Mt hk (fun e=>hn (e ▸ FY))) (by
  have hlr:(mG l').length=l.length:=by unfold mG; rw [List.length_map,hlen']
  refine ⟨⟨.inr (by rw [hlr,hb]; rfl),fun k hk=>?_⟩,fun n hn=>hkey n (by rw [hlen]; rw [hlr] at hn; exact hn)⟩
  rw [hlr,hb] at hk
  cases hk
  exact ⟨⟨_,NM mH w b m _ os hC⟩,wX l' b 0 (fun k x hk=>by rw [Nat.zero_add]; exact aah k x hk)⟩) (fun k hk=>by
  have hlr:(mG l').length=l.length:=by unfold mG; rw [List.length_map,hlen']
  have hk:ι 0 (mG l').length=some k:=hk
  rw [hlr,hb] at hk
  cases hk
  exact .inl FY)
 have e:(fun o=>if o=0 then cF.live (aH.dat 3 1 (mG l')) else aD (List.map some [aH.dat 3 1 (mG l),fE s]) o)=aD (List.map some [aH.dat 3 1 (mG l'),fE s]):=by
  funext o
  cases o <;> rfl
 rw [e] at S1 E1
 exact ⟨J,ι,S1,⟨#[],rfl,trivial⟩,E1⟩
end Dv
namespace Dv
open Go Go.Proofs
variable {G:Nat→Option (List DV)}
def kU (l:List Nat):List (List DV):=l.map fun i=>[i64 ((i+1:Nat):Int)]
def fk (s:aa) (k:Nat):List Nat:=(List.range k).filter (qB s)
theorem Bd (s:aa) (k:Nat):fk s (k+1)=fk s k++(if qB s k=true then [k] else []):=by
 unfold fk
 rw [List.range_succ,List.filter_append]
 simp only [List.filter_cons,List.filter_nil]
theorem oE (s:aa) (k:Nat):(fk s k).length≤k:=by
 have:=List.length_filter_le (qB s) (List.range k)
 simpa [fk] using this
def qF (s:aa):List (Fin s.jobs.length):=(oF s).pmap (fun i h=>⟨i,h⟩) (fun i hi=>(iN.1 hi).1)
theorem Dx (s:aa):(qF s).map (·.val)=oF s:=by
 unfold qF
 rw [List.map_pmap,List.pmap_eq_map,List.map_id']
theorem FV {n:Nat} (l:List (Fin n)):mG l=kU (l.map (·.val)):=by
 unfold mG kU
 rw [List.map_map]; rfl
theorem R6 (s:aa):((qF s).mergeSort fun x y=>!ED s y.val x.val).map (·.val)=mM s:=by
 unfold mM
 rw [← Dx s]
 exact List.map_mergeSort (fun _ _ _ _=>rfl)
def lnS (s:aa) (k:Nat):St:=⟨[(1,.ptr 0 0),(3,.sl 1 (fk s k).length 1 0 (fk s k).length),(7,cO s.jobs),(8,.int s.jobs.length),(9,.int k)],[some (fE s),some (.dat 3 1 (kU (fk s k)))]⟩
theorem FI (s:aa) (hn:s.jobs.length≤1000) (hp:KX s):bw Tryz.prog G 312 [aY s] [] (.d (.dH 1 (kU (mM s)))) []:=by
 refine cD Tryz.func312 (by decide) SR rfl ?_
 simp only [Ws,go_sem]
 refine aW [1,3,7,8,9] [.t 3 3 1] (fun k:Nat=>k≤s.jobs.length) (fun k=>s.jobs.length-k) (lnS s) 0 ?_ (Nat.zero_le _) (fun k hk=>?_)
 ·simp only [lnS,fE,go_sem,fk,List.range_zero,List.filter_nil,kU,Int.natCast_zero]
 simp only [lnS,fE,go_sem]
 by_cases hlt:k<s.jobs.length
 ·have hg:=aJ (f:=dD) az hlt
  have hk2:=Bd s k
  have hlen:=oE s k
  have hbd:((fk s k).length+1)*8≤70368744177664:=by omega
  have hq:qB s k=decide ((s.jobs.getD k az).phase=0):=rfl
  generalize s.jobs.getD k az=j at *
  simp only [dD] at hg
  simp only [decide_eq_true (show ((k:Nat):Int)<((s.jobs.length:Nat):Int) by omega),hg,go_sem]
  by_cases hb:j.phase=0
  ·rw [hq,decide_eq_true hb,if_pos rfl] at hk2
   simp only [show (j.phase==0)=true from beq_iff_eq.2 hb,kU,List.length_append,hbd,aG (show k<9223372036854775807 by omega),go_sem]
   refine a_ (k+1) ?_ ?_ (by omega) (by omega)
   ·simp only [go_sem]
   ·simp only [lnS,fE,hk2,kU,List.map_append,List.length_append,go_sem,aG (show k<9223372036854775807 by omega)]
  ·rw [hq,decide_eq_false hb,if_neg (by decide),List.append_nil] at hk2
   simp only [show (j.phase==0)=false from beq_eq_false_iff_ne.2 hb,go_sem]
   refine a_ (k+1) ?_ ?_ (by omega) (by omega)
   ·simp only [go_sem]
   ·simp only [lnS,fE,hk2,kU,List.map_append,List.length_append,go_sem,aG (show k<9223372036854775807 by omega)]
 ·obtain rfl:k=s.jobs.length:=by omega
  simp only [decide_eq_false (show ¬ ((s.jobs.length:Nat):Int)<((s.jobs.length:Nat):Int) by omega),go_sem]
  have hqe:fk s s.jobs.length=oF s:=rfl
  have hS:=NS (G:=G) s (by omega) hp (qF s) (by
   have:=oE s s.jobs.length
   have e:=congrArg List.length (Dx s)
   rw [List.length_map] at e
   rw [e,← hqe]; omega)
  have hlq:(qF s).length=(fk s s.jobs.length).length:=by rw [hqe,← Dx s,List.length_map]
  rw [FV,FV,Dx,R6,hlq,← hqe] at hS
  have hl2:(fk s s.jobs.length).length=(mM s).length:=by rw [hqe]; exact ((th s).length_eq).symm
  generalize fk s s.jobs.length=Q at *
  generalize mM s=L at *
  rw [hl2] at hS ⊢
  refine av [1,0] (hS) rfl ?_ (by decide) ?_ ?_ (by simp) ?_ <;> simp only [ag,ah,go_sem,fE]
  exact dP [1] rfl (by simp [St.obj,aD]) (by simp [St.obj,aD,aU,St.get,aZ,ah,bG,kU,List.take_of_length_le])
end Dv
namespace Dv
open Go Go.Proofs
variable {G:Nat→Option (List DV)}
theorem succ_pred (i:Nat) (h:i≤1000):IntKind.i64.wrap (((i+1:Nat):Int)-1)=(i:Int):=by rw [aN (by omega) (by omega)]; omega
end Dv
