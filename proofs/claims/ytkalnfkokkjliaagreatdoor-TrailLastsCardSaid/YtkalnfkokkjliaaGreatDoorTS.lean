/- part -/
import Derived.Test.YtkalnfkokkjliaaGreatDoorSR
import Derived.Test.YtkalnfkokkjliaaGreatDoorQA
import Derived.Test.YtkalnfkokkjliaaGreatDoorTA
import Derived.Test.YtkalnfkokkjliaaGreatDoorV23
import Derived.Test.YtkalnfkokkjliaaGreatDoorVD
set_option linter.all false
set_option maxHeartbeats 4000000
set_option maxRecDepth 100000
namespace Dv
open Go Go.Proofs Go.Sort Go.Shelf
variable {G:Nat→Option (List DV)}
def VG:=qx Tryz.f325
theorem R_:aj Tryz.prog Tryz.f325=some VG:=by kernel_rfl
def VK:=qx Tryz.f312
theorem Sd:aj Tryz.prog Tryz.f312=some VK:=by kernel_rfl
def xD (s:aa) (i j:Nat):Int:=if eE s i=eE s j then (i:Int)-j else eE s j-eE s i
theorem ze (s:aa) (i j:Nat):decide (xD s i j<0)=DT s i j:=by
 unfold xD DT
 rw [Bool.eq_iff_iff,decide_eq_true_eq,decide_eq_true_eq]
 split <;> omega
def Ko (s:aa):Prop:=∀ i,i<s.jobs.length→0≤eE s i∧eE s i≤1000000
theorem EG (s:aa) (hl:s.jobs.length≤1000000) (hp:Ko s) (i j:Nat) (hi:i<s.jobs.length) (hj:j<s.jobs.length) {J:Nat→Prop} {ι:Nat→Nat→Option Nat} {w:World} {vs:Array Value} (S:aF G J w ι (au [])) (hargs:ck J w ι [aY s,.int ((i+1:Nat):Int),.int ((j+1:Nat):Int)] vs.toList) :
  Calls Tryz.prog 325 vs w (fun e w'=>∃ v,e=.returned v∧aN G (au []) (au []) J ι w (.int (xD s i j)) v w'∧w.drawn≤w'.drawn):=by
 refine aar Tryz.func325 (by decide) R_ rfl rfl (by kernel_rfl) ?_ J ι w vs S hargs
 have hgi:=aK (f:=dF) aD hi
 have MX:=aK (f:=dF) aD hj
 have hpi:=hp i hi
 have hpj:=hp j hj
 have e1:IntKind.i64.wrap (((i+1:Nat):Int)-1)=(i:Int):=by rw [aL (by omega) (by omega)]; omega
 have e2:IntKind.i64.wrap (((j+1:Nat):Int)-1)=(j:Int):=by rw [aL (by omega) (by omega)]; omega
 have e3:IntKind.i64.wrap (((i+1:Nat):Int)-((j+1:Nat):Int))=(i:Int)-j:=by rw [aL (by omega) (by omega)]; omega
 have e4:IntKind.i64.wrap (eE s j-eE s i)=eE s j-eE s i:=aL (by omega) (by omega)
 unfold xD
 unfold eE at *
 generalize s.jobs.getD i aD=x at *
 generalize s.jobs.getD j aD=y at *
 simp only [dF] at hgi MX
 simp only [VG,e1,e2,e3,hgi,MX,go_sem]
 refine an rfl ?_
 simp only [go_sem]
 by_cases h:x.prio=y.prio
 ·simp only [h,bne_self_eq_false,e3,go_sem]
 ·simp only [show (x.prio !=y.prio)=true from bne_iff_ne.2 h,h,e4,go_sem]
theorem A6 {G:Nat→Option (List DV)} {J:Nat→Prop} {ι:Nat→Nat→Option Nat} {w w':World} {r:LV} {v:Value} (h:aN G (au []) (au []) J ι w r v w') (hd:w.drawn≤w'.drawn):∃ q os',w'=grow (w.drewN q) os':=by
 obtain ⟨J',ι',_,_,E⟩:=h
 have hno:∀ b,¬ Own ι (au []) b:=fun b ⟨o,ho⟩=>by simp [au,b_.own] at ho
 have hh:w'.heap=w.heap++w'.heap.extract w.heap.size w'.heap.size:=by
  apply Array.ext_getElem?
  intro i
  rw [Array.getElem?_append]
  split
  ·rename_i hi; exact E.ev.same i hi (hno i)
  ·rename_i hi
   rw [Array.getElem?_extract]
   have:=E.ev.size
   split
   ·congr 1; omega
   ·exact Array.getElem?_eq_none (by omega)
 refine ⟨w'.drawn-w.drawn,w'.heap.extract w.heap.size w'.heap.size,?_⟩
 have e1:=E.ev.os
 have e2:=E.ev.tape
 have e3:=E.ev.output
 clear E hno
 cases w' with
 | mk h0 t0 d0 o0 u0=>
   simp only at e1 e2 e3 hh hd
   subst e1 e2 e3
   simp only [grow,World.drewN,Nat.add_sub_cancel' hd]
   rw [← hh]
theorem E8 (s:aa) (hl:s.jobs.length≤1000000) (hp:Ko s) (i j:Nat) (hi:i<s.jobs.length) (hj:j<s.jobs.length) {J:Nat→Prop} {ι:Nat→Nat→Option Nat} {w:World} (S:aF G J w ι (au [])) {bs:Nat} {C:Array Value} {et:TypeId} (hb:w.heap[bs]? = some (.cells C et (0,0)))
  (hC:bA J w ι [bS s.nodes,de s.jobs,.int s.goal,.int s.prior,.int s.mode,.int s.term] C.toList) :
  Calls Tryz.prog 324 #[.int .i64 ((i+1:Nat):Int),.int .i64 ((j+1:Nat):Int),.pointer (some ⟨bs,0,none⟩)] w (fun e w'=>e=.returned (.int .i64 (xD s i j))∧∃ q os',w'=grow (w.drewN q) os'):=by
 obtain ⟨cl⟩:=C
 match cl,hC with
 | [x0,x1,x2,x3,x4,x5],⟨o0,r0,o1,r1,o2,r2,o3,r3,o4,r4,o5,r5,_⟩=>
 have hcs:∀ k v,([x0,x1,x2,x3,x4,x5]:List Value)[k]? = some v→w.cell? ⟨bs,k,none⟩=some v:=fun k v hk=>by
  simp only [World.cell?,hb]
  simpa using hk
 have c0:=hcs 0 x0 rfl
 have c1:=hcs 1 x1 rfl
 have c2:=hcs 2 x2 rfl
 have c3:=hcs 3 x3 rfl
 have c4:=hcs 4 x4 rfl
 have c5:=hcs 5 x5 rfl
 have hO:=EG (w:=w) (vs:=#[.agg #[x0,x1,x2,x3,x4,x5],.int .i64 ((i+1:Nat):Int),.int .i64 ((j+1:Nat):Int)]) s hl hp i j hi hj S ⟨⟨_,rfl,o0,r0,o1,r1,o2,r2,o3,r3,o4,r4,o5,r5,trivial⟩,rfl,rfl,trivial⟩
 clear hcs hb r0 r1 r2 r3 r4 r5
 generalize ((i+1:Nat):Int)=a at *
 generalize ((j+1:Nat):Int)=b at *
 generalize xD s i j=r at *
 go_enter Tryz.func324,Tryz.ntmps324
 go_wp2_with (go_at_call 325; refine hO.mono ?_; rintro e w' ⟨v,rfl,hA,hd⟩; obtain ⟨q,os',rfl⟩:=A6 hA hd; obtain ⟨_,_,_,hv,_⟩:=hA; obtain rfl:v=.int .i64 r:=hv)
 go_ret
 exact ⟨rfl,q,os',rfl⟩
end Dv
namespace Dv
open Go Go.Proofs Go.Sort Go.Shelf
variable {G:Nat→Option (List DV)}
def mg {n:Nat} (l:List (Fin n)):List (List DV):=l.map fun i=>[i64 ((i.val+1:Nat):Int)]
def mh {n:Nat} (i:Fin n):Value:=.int .i64 ((i.val+1:Nat):Int)
theorem wG {J:Nat→Prop} {w:World} {n:Nat} : ∀ (l:List (Fin n)) (b off:Nat),(∀ k x,l[k]? = some x→w.cell? ⟨b,off+k,none⟩=some (mh x))→bq J w 1 (mg l) b off
 | [],_,_,_=>trivial
 | x::l,b,off,h=>⟨rfl,⟨⟨mh x,h 0 x rfl,rfl,rfl⟩,trivial⟩,wG l b (off+1) (fun k y hk=>by
    have:=h (k+1) y hk
    rwa [show off+(k+1)=off+1+k by omega] at this)⟩
section
variable {α:Type} [Inhabited α] (enc:α→Value) (w:World) (blk m:Nat) (d:Array α) (os:Array Obj)
theorem pO (hb:blk<w.heap.size) {k:Nat} (hk:k<w.heap.size) (hne:k≠blk):(sortWorld enc w blk 0 m d os).heap[k]? = w.heap[k]?:=by
 unfold sortWorld
 rw [heap_grow_old _ _ (by rw [Go.Sort.size_putRow]; exact hk)]
 unfold putRow mapBlock
 show (w.heap.modify blk _)[k]? = _
 rw [Array.getElem?_modify]
 rw [if_neg (fun e=>hne e.symm)]
theorem Nb {C:Array Value} {t:TypeId} {f:Nat×Nat} (hb:w.heap[blk]? = some (.cells C t f)):(sortWorld enc w blk 0 m d os).heap[blk]? = some (.cells (putCells enc 0 d C) t f):=by
 have hlt:=(Array.getElem?_eq_some_iff.1 hb).1
 unfold sortWorld
 rw [heap_grow_old _ _ (by rw [Go.Sort.size_putRow]; exact hlt)]
 unfold putRow mapBlock
 show (w.heap.modify blk _)[blk]? = _
 rw [Array.getElem?_modify,if_pos rfl,hb]
 rfl
theorem Rb:w.heap.size≤(sortWorld enc w blk 0 m d os).heap.size:=by
 unfold sortWorld grow
 simp [Go.Sort.size_putRow,Sort.ahead]
theorem Ee {C:Array Value} {t:TypeId} {f:Nat×Nat} (hb:w.heap[blk]? = some (.cells C t f)) {k:Nat} (hk:k<w.heap.size):(sortWorld enc w blk 0 m d os).shape? k=w.shape? k:=by
 by_cases e:k=blk
 ·subst e
  unfold World.shape?
  rw [Nb enc w k m d os hb,hb]
  simp [putCells]
 ·exact bH (pO enc w blk m d os (Array.getElem?_eq_some_iff.1 hb).1 hk e)
end
theorem acp (s:aa):SWO (ltOf (fun x y:Fin s.jobs.length=>xD s x.val y.val)) where
 irrefl x:=by unfold ltOf; rw [ze]; exact Z7 s _
 trans x y z h1 h2:=by unfold ltOf at *; rw [ze] at *; exact Ga h1 h2
 ntrans x y z h1 h2:=by
  unfold ltOf at *; rw [ze] at *
  cases h:DT s x.val z.val with
  | false=>rfl
  | true=>
    by_cases e:y.val=x.val
    ·rw [← e] at h; rw [h] at h2; exact h2
    ·rcases Gb (s:=s) (fun h=>e h.symm) with k | k
     ·rw [k] at h1; exact h1
     ·have:=Ga k h; rw [this] at h2; exact h2
theorem aco (s:aa) (x y:Fin s.jobs.length) (h1:ltOf (fun x y:Fin s.jobs.length=>xD s x.val y.val) x y=false) (h2:ltOf (fun x y:Fin s.jobs.length=>xD s x.val y.val) y x=false):x=y:=by
 unfold ltOf at *; rw [ze] at *
 by_cases e:x.val=y.val
 ·exact Fin.ext e
 ·rcases Gb (s:=s) e with k | k
  ·rw [k] at h1; cases h1
  ·rw [k] at h2; cases h2
theorem Ni (s:aa) (hl:s.jobs.length≤1000000) (hp:Ko s) (l:List (Fin s.jobs.length)) (sV:l.length≤1000000) :
  bh Tryz.prog G 323 [.sl 0 l.length 1 0 l.length,.fn (.func 324) [] [.ptr 1 0]] [.dat 3 1 (mg l),fk s] (.dH []) [.dat 3 1 (mg (l.mergeSort fun x y=>!DT s y.val x.val)),fk s]:=by
 refine ⟨by decide,fun J ι w vs S hR=>?_⟩
 obtain ⟨vl⟩:=vs
 match vl,hR with
 | [v0,v1],⟨h0,h1,_⟩=>
 obtain ⟨fs,cs,rfl,UA,hcs⟩:=h1
 obtain ⟨fl⟩:=fs
 obtain ⟨cl⟩:=cs
 match fl,UA,cl,hcs with
 | [],_,[p],⟨⟨bs,QS,hpv⟩,_⟩=>
 subst hpv
 by_cases lH:l=[]
 ·subst lH
  rw [List.mergeSort_nil]
  obtain ⟨p,cap,rfl⟩:∃ p cap,v0=.slice p 0 cap:=by
   rcases h0 with ⟨_,a,rfl⟩ | ⟨b,cap,et,C,_,rfl,_⟩
   ·exact ⟨a,0,rfl⟩
   ·exact ⟨_,cap,rfl⟩
  have hc:=AnyF.slices_SortFunc_none (P:=Tryz.prog) (ρ:=Tryz.Br) { Tryz.Vm with } p cap (.func (.func 324) #[] #[.pointer (some ⟨bs,0,none⟩)]) w
  change Calls Tryz.prog 323 _ _ _ at hc
  refine hc.mono ?_
  rintro e w' ⟨rfl,rfl⟩
  exact ⟨.tuple #[],rfl,aN.stay S (show cT J _ ι (.dH []) (.tuple #[]) from ⟨#[],rfl,trivial⟩)⟩
 obtain ⟨x0,_⟩:=List.exists_mem_of_ne_nil l lH
 haveI:Inhabited (Fin s.jobs.length):=⟨x0⟩
 have hpos:0<l.length:=List.length_pos_iff.2 lH
 obtain ⟨b,cap,et',C',hb,rfl,hcap,_,_⟩:=h0.resolve_left (fun h=>by omega)
 have abl:=S.rep 0
 have abk:=S.rep 1
 obtain ⟨⟨_,Fu⟩,hkey⟩:=abl
 have hlen:(mg l).length=l.length:=List.length_map _
 rw [hlen] at Fu
 obtain ⟨⟨C,hC⟩,hrows⟩:=Fu b hb
 obtain ⟨⟨bs',B,abP,hB,hBc⟩,_⟩:=abk
 rw [QS] at abP; cases abP
 have LS:=(Array.getElem?_eq_some_iff.1 hC).1
 have Fl:(au (List.map some [aC.dat 3 1 (mg l),fk s]) 0).own ι 0 b:=by show ι 0 (mg l).length=some b; rw [hlen]; exact hb
 have rX:(au (List.map some [aC.dat 3 1 (mg l),fk s]) 1).own ι 1 bs:=QS
 have hne:bs≠b:=fun e=>by
  have:=S.inj 1 0 b (by rw [← e]; exact rX) Fl
  cases this
 have hnJ:∀ k,J k→k≠b:=fun k hk e=>S.oH 0 b Fl (e ▸ hk)
 have hcell:∀ k x,l[k]? = some x→w.cell? ⟨b,k,none⟩=some (mh x):=fun k x hk=>by
  have hr:(mg l)[k]? = some [i64 ((x.val+1:Nat):Int)]:=by unfold mg; rw [List.getElem?_map,hk]; rfl
  obtain ⟨_,h⟩:=hrows.get hr
  obtain ⟨v,h1,_,h3⟩:=h.get (i:=0) rfl
  have h3:v=mh x:=h3
  rw [h3] at h1
  simpa using h1
 have hH:Holds mh w b 0 l.toArray:=fun j hj=>by
  have hj':j<l.length:=by simpa using hj
  have hx:l[j]? = some l[j]:=List.getElem?_eq_getElem hj'
  have e:l.toArray[j]! = l[j]:=by simp [hj']
  rw [e,Nat.zero_add]
  exact ⟨hcell j _ hx,by simp [World.frozen?,hC]⟩
 obtain ⟨S0,_⟩:=S.sub (ρ:=[]) (Z:=[]) (aH:=[]) (base:=0) List.nodup_nil (fun _ h=>by cases h) rfl (fun i o h=>by simp at h) rfl (fun _ h=>by cases h)
 have hcmp:CmpLays1 Tryz.prog 324 #[.pointer (some ⟨bs,0,none⟩)] mh (fun x y:Fin s.jobs.length=>xD s x.val y.val) b 0 l.toArray.size w:=fun m os dk hs x y=>by
  have hds:=kX (ds:=[.dK 5 (s.nodes.map bX),.dK 12 (s.jobs.map dF),i64 s.goal,i64 s.prior,i64 s.mode,i64 s.term]) rfl hBc.AP
  have hJ':∀ k,(J k∨Bb ι (au (List.map some [aC.dat 3 1 (mg l),fk s])) [] k)→J k:=fun k h=>h.resolve_right (fun ⟨z,hz,_⟩=>by cases hz)
  have hsame:∀ k,J k→(sortWorld mh w b 0 m dk os).heap[k]? = w.heap[k]?:=fun k hk=>pO mh w b m dk os LS (S.BY k hk) (hnJ k hk)
  have hst:=S0.still (w':=sortWorld mh w b 0 m dk os) (fun k hk=>hsame k (hJ' k hk)) (fun k hk=>by
   obtain ⟨o,ho⟩:=hk
   simp [au,b_.own] at ho) (fun k hk=>Ee mh w b m dk os hC (gA hk))
  refine E8 s hl hp x.val y.val x.isLt y.isLt hst (C:=B) (et:=30) ((pO mh w b m dk os LS (Array.getElem?_eq_some_iff.1 hB).1 hne).trans hB) ?_
  exact bD.xE (bD.mono (fun k hk=>.inl hk) hsame _ _ hds) hBc.one
 have hc:=Any.slices_SortFunc_total Tryz.Vm mh (fun _=>rfl) (fun x y:Fin s.jobs.length=>xD s x.val y.val) (acp s) 324 #[.pointer (some ⟨bs,0,none⟩)] b 0 cap l.toArray w (enters_of Tryz.func324 (by kernel_rfl) rfl) hcmp hH LS (by simp; omega) (aco s)
 change Calls Tryz.prog 323 _ _ _ at hc
 simp only [List.size_toArray,Nat.zero_mul] at hc ⊢
 refine hc.mono ?_
 rintro e w' ⟨rfl,m,os,rfl⟩
 refine ⟨_,rfl,?_⟩
 have elt:(fun x y:Fin s.jobs.length=>!ltOf (fun x y:Fin s.jobs.length=>xD s x.val y.val) y x)=fun x y=>!DT s y.val x.val:=by
  funext x y
  unfold ltOf
  rw [ze]
 rw [elt]
 generalize hl':(l.mergeSort fun x y=>!DT s y.val x.val)=l'
 have hlen':l'.length=l.length:=by rw [← hl']; exact List.length_mergeSort _
 have hSW:SW mh w b 0 l'.toArray (sortWorld mh w b 0 m l'.toArray os):=⟨m,os,rfl⟩
 have hH':=hSW.holds LS hH (by simpa using hlen')
 have ZM:∀ k x,l'[k]? = some x→(sortWorld mh w b 0 m l'.toArray os).cell? ⟨b,k,none⟩=some (mh x):=fun k x hk=>by
  obtain ⟨vS,hk2⟩:=List.getElem?_eq_some_iff.1 hk
  have:=(hH' k (by simpa using vS)).1
  have e:l'.toArray[k]! = x:=by simp [vS,hk2]
  rw [e,Nat.zero_add] at this
  exact this
 have E:Ev (Own ι (au (List.map some [aC.dat 3 1 (mg l),fk s]))) J J ι ι w (sortWorld mh w b 0 m l'.toArray os):=
  ⟨rfl,rfl,rfl,Rb mh w b m _ os,fun k hk hn=>pO mh w b m _ os LS hk (fun e=>hn ⟨0,e ▸ Fl⟩),fun k hk=>Ee mh w b m _ os hC hk,fun _ h=>h,fun _ h=>.inl h,fun _ _ _ h=>h⟩
 obtain ⟨S1,E1⟩:=S.kf 0 (.live (.dat 3 1 (mg l'))) E (fun _ _ _=>rfl) (fun k hk hn=>pO mh w b m _ os LS hk (fun e=>hn (e ▸ Fl))) (by
  have hlr:(mg l').length=l.length:=by unfold mg; rw [List.length_map,hlen']
  refine ⟨⟨.inr (by rw [hlr,hb]; rfl),fun k hk=>?_⟩,fun n hn=>hkey n (by rw [hlen]; rw [hlr] at hn; exact hn)⟩
  rw [hlr,hb] at hk
  cases hk
  exact ⟨⟨_,Nb mh w b m _ os hC⟩,wG l' b 0 (fun k x hk=>by rw [Nat.zero_add]; exact ZM k x hk)⟩) (fun k hk=>by
  have hlr:(mg l').length=l.length:=by unfold mg; rw [List.length_map,hlen']
  have hk:ι 0 (mg l').length=some k:=hk
  rw [hlr,hb] at hk
  cases hk
  exact .inl Fl)
 have e:(fun o=>if o=0 then b_.live (aC.dat 3 1 (mg l')) else au (List.map some [aC.dat 3 1 (mg l),fk s]) o)=au (List.map some [aC.dat 3 1 (mg l'),fk s]):=by
  funext o
  cases o <;> rfl
 rw [e] at S1 E1
 exact ⟨J,ι,S1,⟨#[],rfl,trivial⟩,E1⟩
end Dv
namespace Dv
open Go Go.Proofs
variable {G:Nat→Option (List DV)}
def kH (l:List Nat):List (List DV):=l.map fun i=>[i64 ((i+1:Nat):Int)]
def e_ (s:aa) (k:Nat):List Nat:=(List.range k).filter (qB s)
theorem AV (s:aa) (k:Nat):e_ s (k+1)=e_ s k++(if qB s k=true then [k] else []):=by
 unfold e_
 rw [List.range_succ,List.filter_append]
 simp only [List.filter_cons,List.filter_nil]
theorem od (s:aa) (k:Nat):(e_ s k).length≤k:=by
 have:=List.length_filter_le (qB s) (List.range k)
 simpa [e_] using this
def qF (s:aa):List (Fin s.jobs.length):=(oe s).pmap (fun i h=>⟨i,h⟩) (fun i hi=>(iF.1 hi).1)
theorem CU (s:aa):(qF s).map (·.val)=oe s:=by
 unfold qF
 rw [List.map_pmap,List.pmap_eq_map,List.map_id']
theorem Fh {n:Nat} (l:List (Fin n)):mg l=kH (l.map (·.val)):=by
 unfold mg kH
 rw [List.map_map]; rfl
theorem Rs (s:aa):((qF s).mergeSort fun x y=>!DT s y.val x.val).map (·.val)=mA s:=by
 unfold mA
 rw [← CU s]
 exact List.map_mergeSort (fun _ _ _ _=>rfl)
def lnS (s:aa) (k:Nat):St:=⟨[(1,.ptr 0 0),(3,.sl 1 (e_ s k).length 1 0 (e_ s k).length),(7,de s.jobs),(8,.int s.jobs.length),(9,.int k)],[some (fk s),some (.dat 3 1 (kH (e_ s k)))]⟩
theorem E7 (s:aa) (hn:s.jobs.length≤1000) (hp:Ko s):bh Tryz.prog G 312 [aY s] [] (.d (.dK 1 (kH (mA s)))) []:=by
 refine cA Tryz.func312 (by decide) Sd rfl ?_
 simp only [VK,go_sem]
 refine aR [1,3,7,8,9] [.t 3 3 1] (fun k:Nat=>k≤s.jobs.length) (fun k=>s.jobs.length-k) (lnS s) 0 ?_ (Nat.zero_le _) (fun k hk=>?_)
 ·simp only [lnS,fk,go_sem,e_,List.range_zero,List.filter_nil,kH,Int.natCast_zero]
 simp only [lnS,fk,go_sem]
 by_cases hlt:k<s.jobs.length
 ·have hg:=aK (f:=dF) aD hlt
  have hk2:=AV s k
  have hlen:=od s k
  have hbd:((e_ s k).length+1)*8≤70368744177664:=by omega
  have hq:qB s k=decide ((s.jobs.getD k aD).phase=0):=rfl
  generalize s.jobs.getD k aD=j at *
  simp only [dF] at hg
  simp only [decide_eq_true (show ((k:Nat):Int)<((s.jobs.length:Nat):Int) by omega),hg,go_sem]
  by_cases hb:j.phase=0
  ·rw [hq,decide_eq_true hb,if_pos rfl] at hk2
   simp only [show (j.phase==0)=true from beq_iff_eq.2 hb,kH,List.length_append,hbd,aG (show k<9223372036854775807 by omega),go_sem]
   refine bg (k+1) ?_ ?_ (by omega) (by omega)
   ·simp only [go_sem]
   ·simp only [lnS,fk,hk2,kH,List.map_append,List.length_append,go_sem,aG (show k<9223372036854775807 by omega)]
  ·rw [hq,decide_eq_false hb,if_neg (by decide),List.append_nil] at hk2
   simp only [show (j.phase==0)=false from beq_eq_false_iff_ne.2 hb,go_sem]
   refine bg (k+1) ?_ ?_ (by omega) (by omega)
   ·simp only [go_sem]
   ·simp only [lnS,fk,hk2,kH,List.map_append,List.length_append,go_sem,aG (show k<9223372036854775807 by omega)]
 ·obtain rfl:k=s.jobs.length:=by omega
  simp only [decide_eq_false (show ¬ ((s.jobs.length:Nat):Int)<((s.jobs.length:Nat):Int) by omega),go_sem]
  have hqe:e_ s s.jobs.length=oe s:=rfl
  have hS:=Ni (G:=G) s (by omega) hp (qF s) (by
   have:=od s s.jobs.length
   have e:=congrArg List.length (CU s)
   rw [List.length_map] at e
   rw [e,← hqe]; omega)
  have hlq:(qF s).length=(e_ s s.jobs.length).length:=by rw [hqe,← CU s,List.length_map]
  rw [Fh,Fh,CU,Rs,hlq,← hqe] at hS
  have hl2:(e_ s s.jobs.length).length=(mA s).length:=by rw [hqe]; exact ((sS s).length_eq).symm
  generalize e_ s s.jobs.length=Q at *
  generalize mA s=L at *
  rw [hl2] at hS ⊢
  refine av [1,0] (hS) rfl ?_ (by decide) ?_ ?_ (by simp) ?_ <;> simp only [ag,ah,go_sem,fk]
  exact dZ [1] rfl (by simp [St.obj,au]) (by simp [St.obj,au,aP,St.get,aW,ah,bB,kH,List.take_of_length_le])
end Dv
namespace Dv
open Go Go.Proofs
variable {G:Nat→Option (List DV)}
theorem succ_pred (i:Nat) (h:i≤1000):IntKind.i64.wrap (((i+1:Nat):Int)-1)=(i:Int):=by rw [aL (by omega) (by omega)]; omega
end Dv
