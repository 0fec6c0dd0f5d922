/- part -/
import Derived.Test.YtkalnfkokkjliaaGreatDoorTA
import Derived.Test.YtkalnfkokkjliaaGreatDoorTS
import Derived.Test.YtkalnfkokkjliaaGreatDoorT9
import Derived.Test.YtkalnfkokkjliaaGreatDoorQA
import Derived.Test.YtkalnfkokkjliaaGreatDoorSR
import Derived.Maps.OwnIn
import Derived.Maps.Views
set_option linter.all false
set_option maxHeartbeats 8000000
set_option maxRecDepth 100000
namespace Dv
open Go Go.Proofs
variable {G:Nat→Option (List DV)}
def Vz:=qx Tryz.f351
theorem R3:aj Tryz.prog Tryz.f351=some Vz:=by kernel_rfl
def VB:=qx Tryz.f339
theorem R5:aj Tryz.prog Tryz.f339=some VB:=by kernel_rfl
def VE:=qx Tryz.f328
theorem R8:aj Tryz.prog Tryz.f328=some VE:=by kernel_rfl
def u9 (now:Int):Prop:=0≤now∧now≤1000000
theorem J7 (s:aa) (h:tu s) (aM now:Int) (h0:u9 now):bh Tryz.prog G 351 [aY s,.int aM,.int now] [] (.int (UW s aM now)) []:=by
 refine bn Tryz.func351 (by decide) R3 rfl rfl ?_
 simp only [Vz,go_sem]
 have hj:=h.jobs
 obtain ⟨h01,h02⟩:=h0
 unfold UW
 by_cases h1:aM<1
 ·simp only [decide_eq_true h1,h1,go_sem]
 simp only [decide_eq_false h1,h1,false_or,go_sem]
 by_cases h2:(s.jobs.length:Int)<aM
 ·simp only [decide_eq_true (show aM>(s.jobs.length:Int) from h2),h2,go_sem]
 simp only [decide_eq_false (show ¬ aM>(s.jobs.length:Int) from h2),h2,false_or,go_sem]
 obtain ⟨i,rfl⟩:∃ i:Nat,aM=((i+1:Nat):Int):=⟨(aM-1).toNat,by omega⟩
 have hi:i<s.jobs.length:=by omega
 have e1:=succ_pred i (by omega)
 have e0:(((i+1:Nat):Int)-1).toNat=i:=by omega
 have hgi:=aK (f:=dF) aD hi
 have hE:Vi (s.jobs.getD i aD):=h.ends i hi
 generalize hx:s.jobs.getD i aD=x at hgi hE
 obtain ⟨w1,w2,w3⟩:=hE
 simp only [dF] at hgi
 simp only [e0,e1,hx,hgi,go_sem]
 unfold uP
 by_cases h3:x.phase=1
 ·simp only [show (x.phase==1)=true from beq_iff_eq.2 h3,if_pos h3,aL (show -9223372036854775808≤now+x.work by omega) (show now+x.work≤9223372036854775807 by omega),go_sem]
 simp only [show (x.phase==1)=false from beq_eq_false_iff_ne.2 h3,if_neg h3,go_sem]
 by_cases h4:x.phase=2
 ·simp only [show (x.phase==2)=true from beq_iff_eq.2 h4,if_pos h4,aL (show -9223372036854775808≤x.since+x.work by omega) (show x.since+x.work≤9223372036854775807 by omega),OA,go_sem]
 simp only [show (x.phase==2)=false from beq_eq_false_iff_ne.2 h4,if_neg h4,go_sem]
 by_cases h5:x.phase=3
 ·simp only [show (x.phase==3)=true from beq_iff_eq.2 h5,if_pos h5,OA,go_sem]
 simp only [show (x.phase==3)=false from beq_eq_false_iff_ne.2 h5,if_neg h5,go_sem]
theorem y2 (s:aa) (hn:s.jobs.length≤1000) (aM:Int):bh Tryz.prog G 328 [aY s,.int aM] [] (.bool (gH s aM)) []:=by
 refine bn Tryz.func328 (by decide) R8 rfl rfl ?_
 simp only [VE,go_sem]
 unfold gH
 by_cases h1:aM<1
 ·simp only [decide_eq_false (show ¬ aM≥1 by omega),show ¬ (1≤aM) by omega,false_and,go_sem]
 simp only [decide_eq_true (show aM≥1 by omega),show 1≤aM by omega,go_sem]
 by_cases h2:(s.jobs.length:Int)<aM
 ·simp only [decide_eq_false (show ¬ aM≤(s.jobs.length:Int) by omega),show ¬ (aM≤(s.jobs.length:Int)) by omega,false_and,go_sem]
 simp only [decide_eq_true (show aM≤(s.jobs.length:Int) by omega),show aM≤(s.jobs.length:Int) by omega,go_sem]
 obtain ⟨i,rfl⟩:∃ i:Nat,aM=((i+1:Nat):Int):=⟨(aM-1).toNat,by omega⟩
 have hi:i<s.jobs.length:=by omega
 have e1:=succ_pred i (by omega)
 have e0:(((i+1:Nat):Int)-1).toNat=i:=by omega
 have hgi:=aK (f:=dF) aD hi
 generalize hx:s.jobs.getD i aD=x at hgi
 simp only [dF] at hgi
 simp only [e0,e1,hx,hgi,go_sem]
 by_cases h3:x.phase=0
 ·simp only [h3,go_sem]
 ·simp only [show (x.phase==0)=false from beq_eq_false_iff_ne.2 h3,h3,go_sem]
theorem N_ (e t:Int):okE e t=if 0≤e then decide (e≤t) else false:=by
 unfold okE
 split
 ·rw [decide_eq_true (by assumption),Bool.true_and]
 ·rw [decide_eq_false (by assumption),Bool.false_and]
def MG (s:aa) (now t:Int) (k:Nat):St:=⟨[(1,.int now),(2,.int t),(3,.ptr 0 0),(7,.int (Gl s now t k)),(14,de s.jobs),(15,.int s.jobs.length),(16,.int k)],[some (fk s)]⟩
theorem Z2 (s:aa) (h:tu s) (now t:Int) (h0:u9 now):bh Tryz.prog G 339 [aY s,.int now,.int t] [] (.int (Gl s now t s.jobs.length)) []:=by
 refine bn Tryz.func339 (by decide) R5 rfl rfl ?_
 simp only [VB,go_sem]
 have hn:=h.jobs
 refine ax (vX s h.nodes) rfl rfl rfl rfl ?_; simp only [go_sem]
 refine aR [1,2,3,7,14,15,16] [] (fun k:Nat=>k≤s.jobs.length) (fun k=>s.jobs.length-k) (MG s now t) 0 ?_ (Nat.zero_le _) (fun k hk=>?_)
 ·simp only [MG,fk,Gl,Int.natCast_zero,go_sem]
 simp only [MG,fk,go_sem]
 by_cases hlt:k<s.jobs.length
 ·have hg:=aK (f:=dF) aD hlt
  have he:=J8 (s:=s) hlt now
  have hst:Gl s now t (k+1)=if okE (uP (dI s k) now) t=true then BK .i64 (Gl s now t k) (dI s k).nodes else Gl s now t k:=rfl
  have hjo:dI s k=s.jobs.getD k aD:=rfl
  generalize s.jobs.getD k aD=x at hg hjo
  rw [hjo] at he hst
  simp only [dF] at hg
  simp only [decide_eq_true (show ((k:Nat):Int)<((s.jobs.length:Nat):Int) by omega),hg,aG (show k<9223372036854775807 by omega),go_sem]
  refine ax (J7 s h ((k+1:Nat):Int) now h0) rfl rfl rfl rfl ?_; simp only [go_sem]
  simp only [he,go_sem]
  rw [N_] at hst
  generalize uP x now=e at hst ⊢
  by_cases h1:0≤e
  ·simp only [if_pos h1] at hst
   simp only [decide_eq_true (show e≥0 from h1),go_sem]
   by_cases h2:e≤t
   ·rw [decide_eq_true h2,if_pos rfl] at hst
    simp only [decide_eq_true h2,go_sem]
    refine bg (k+1) ?_ ?_ (by omega) (by omega)
    ·simp only [go_sem]
    ·simp only [MG,fk,hst,aG (show k<9223372036854775807 by omega),go_sem]
   ·rw [decide_eq_false h2,if_neg (by decide)] at hst
    simp only [decide_eq_false h2,go_sem]
    refine bg (k+1) ?_ ?_ (by omega) (by omega)
    ·simp only [go_sem]
    ·simp only [MG,fk,hst,aG (show k<9223372036854775807 by omega),go_sem]
  ·simp only [if_neg h1,if_neg (show ¬ false=true by decide)] at hst
   simp only [decide_eq_false (show ¬ e≥0 from h1),go_sem]
   refine bg (k+1) ?_ ?_ (by omega) (by omega)
   ·simp only [go_sem]
   ·simp only [MG,fk,hst,aG (show k<9223372036854775807 by omega),go_sem]
 ·obtain rfl:k=s.jobs.length:=by omega
  simp only [decide_eq_false (show ¬ ((s.jobs.length:Nat):Int)<((s.jobs.length:Nat):Int) by omega),go_sem]
end Dv
namespace Dv
open Go Go.Proofs
variable {G:Nat→Option (List DV)}
def VJ:=qx Tryz.f313
theorem Sc:aj Tryz.prog Tryz.f313=some VJ:=by kernel_rfl
theorem tX (s:aa) (aM:Int):(aM<1∧gH s aM=false)∨(¬ aM<1∧(s.jobs.length:Int)<aM∧gH s aM=false)∨
  ∃ i:Nat,aM=((i+1:Nat):Int)∧i<s.jobs.length∧¬ aM<1∧¬ (s.jobs.length:Int)<aM∧gH s aM=decide ((s.jobs.getD i aD).phase=0):=by
 unfold gH
 by_cases h1:aM<1
 ·exact .inl ⟨h1,decide_eq_false (fun h=>by omega)⟩
 by_cases h2:(s.jobs.length:Int)<aM
 ·exact .inr (.inl ⟨h1,h2,decide_eq_false (fun h=>by omega)⟩)
 refine .inr (.inr ⟨(aM-1).toNat,by omega,by omega,h1,h2,?_⟩)
 simp only [show 1≤aM by omega,show aM≤(s.jobs.length:Int) by omega,true_and]
theorem Jl (s:aa) (h:tu s) (aM:Int):bh Tryz.prog G 313 [aY s,.int aM] [] (.dH [.int (zl s aM).1,.bool (zl s aM).2]) []:=by
 refine bn Tryz.func313 (by decide) Sc rfl rfl ?_
 simp only [VJ,go_sem]
 have hj:=h.jobs
 unfold zl
 rcases tX s aM with ⟨h1,hq⟩ | ⟨h1,h2,hq⟩ | ⟨i,rfl,hi,h1,h2,hq⟩
 ·simp only [decide_eq_true h1,hq,if_neg (show ¬ false=true by decide),go_sem]
 ·simp only [decide_eq_false h1,decide_eq_true (show aM>(s.jobs.length:Int) from h2),hq,if_neg (show ¬ false=true by decide),go_sem]
 have e1:=succ_pred i (by omega)
 have e2:=yb s i
 have hgi:=aK (f:=dF) aD hi
 have hm:=h.most i hi
 have hjo:dI s i=s.jobs.getD i aD:=rfl
 generalize s.jobs.getD i aD=x at hgi hjo hq
 rw [hjo] at e2 hm
 simp only [dF] at hgi
 simp only [decide_eq_false h1,decide_eq_false (show ¬ ((i+1:Nat):Int)>(s.jobs.length:Int) from h2),e1,e2,hgi,go_sem]
 by_cases h3:x.phase=0
 ·simp only [show (x.phase !=0)=false from (bne_eq_false_iff_eq.2 h3),hq,decide_eq_true h3,e1,e2,hgi,go_sem]
  refine aU (vX s h.nodes) rfl rfl rfl rfl ?_; simp only [go_sem]
  refine aU (y7 s x (rY s) h.nodes (H7 h.nodes) hm) rfl rfl rfl rfl ?_; simp only [go_sem]
 ·simp only [show (x.phase !=0)=true from bne_iff_ne.2 h3,hq,decide_eq_false h3,if_neg (show ¬ false=true by decide),go_sem]
theorem EU (l:List Nat) (i:Nat) (h:i<l.length):(kH l)[i]? = some [i64 ((l.getD i 0+1:Nat):Int)]:=by
 unfold kH
 rw [List.getElem?_map,List.getElem?_eq_getElem h]
 simp [List.getD,h]
theorem ET (l:List Nat):(kH l).length=l.length:=by unfold kH; rw [List.length_map]
theorem EP (f g:Int→Int×Bool) (L:List Nat) (i:Nat) (hi:i<L.length):mV f g (L.drop i) i =
  if (if i=0 then f ((L.getD i 0+1:Nat):Int) else g ((L.getD i 0+1:Nat):Int)).2=true then (((L.getD i 0+1:Nat):Int),(if i=0 then f ((L.getD i 0+1:Nat):Int) else g ((L.getD i 0+1:Nat):Int)).1,true) else mV f g (L.drop (i+1)) (i+1):=by
 rw [List.drop_eq_getElem_cons hi,show L.getD i 0=L[i] by simp [List.getD,hi]]
 cases i with
 | zero=>simp only [mV,if_true]
 | succ i=>simp only [mV,if_neg (Nat.succ_ne_zero i)]
end Dv
namespace Dv
open Go Go.Proofs
theorem Bx {J:Nat→Prop} {w:World} {g:Nat} : ∀ (l:List Int) (off:Nat),(∀ (j:Nat) x,l[j]? = some x→w.cell? ⟨g,off+j,none⟩=some (.int .i64 x))→bq J w 1 (l.map fun i=>[i64 i]) g off
 | [],_,_=>trivial
 | x::l,off,h=>⟨rfl,⟨⟨.int .i64 x,h 0 x rfl,rfl,rfl⟩,trivial⟩,Bx l (off+1) (fun j y hy=>by
    have:=h (j+1) y (by simpa using hy)
    rw [show off+1+j=off+(j+1) by omega]; exact this)⟩
theorem Uo {J:Nat→Prop} {w:World} {n0:Nat} {e:TypeId} {v:Value} {l:List Int} (h:w.ownsRow n0 e 1 v l.length (l.map (Value.int .i64))) (hj:∀ b,v.ownBlock=some b→J b):jM J w (.dK 1 (l.map fun i=>[i64 i])) v:=by
 rcases h.2 with ⟨rfl,h0⟩ | ⟨g,cap,cur,rfl,_,hg,hc,_,_,hx⟩
 ·exact ⟨none,0,0,rfl,by simp [h0],Nat.le_refl _,.inl (by rw [List.eq_nil_of_length_eq_zero h0]; rfl)⟩
 ·refine ⟨_,_,_,rfl,by simp,hc,.inr ⟨g,0,rfl,hj g rfl,Bx l 0 (fun j x hjx=>?_)⟩⟩
  have h1:(cur.toList.take (l.length*1))[j]? = some (.int .i64 x):=by rw [hx,List.getElem?_map,hjx]; rfl
  have hlt:=(List.getElem?_eq_some_iff.1 h1).1
  rw [List.length_take] at hlt
  rw [List.getElem?_take,if_pos (by omega)] at h1
  rw [Nat.zero_add]
  simp only [World.cell?,hg]
  simpa using h1
theorem Ny {w:World} {n0:Nat} {e:TypeId} {aJ k:Nat} {v:Value} {xs:List Value} (h:w.ownsRow n0 e aJ v k xs) (b:Nat) (hb:v.ownBlock=some b):n0≤b∧∃ C t f,w.heap[b]? = some (.cells C t f):=by
 rcases h.2 with ⟨rfl,h0⟩ | ⟨g,cap,cur,rfl,hge,hg,_⟩
 ·simp [Value.ownBlock] at hb
 ·simp only [Value.ownBlock,Option.some.injEq] at hb
  subst hb
  exact ⟨hge,_,_,_,hg⟩
theorem MM {G:Nat→Option (List DV)} {J:Nat→Prop} {ι:Nat→Nat→Option Nat} {w W:World} (S:aF G J w ι (au [])) (hB:RowKit.Below w.heap.size w W) {n0:Nat} (hn:w.heap.size≤n0) {e:TypeId} {v:Value} {l:List Int}
  (h:W.ownsRow n0 e 1 v l.length (l.map (Value.int .i64))):aN G (au []) (au []) J ι w (.d (.dK 1 (l.map fun i=>[i64 i]))) v W:=by
 have S1:aF G J W ι (au []):=S.still (fun b h=>hB.block b (S.BY b h)) (fun b h=>hB.block b (S.mU h)) (fun b h=>bH (hB.block b (gA h)))
 have nil:∀ o b,¬ (au [] o).own ι o b:=fun o b=>by rw [cv (by simp)]; exact fun h=>h.elim
 refine ⟨fun b=>J b∨v.ownBlock=some b,ι,⟨fun o=>?_,fun o o' b h=>absurd h (nil o b),fun o b h=>absurd h (nil o b),fun b hb=>?_,fun q row hq=>?_⟩,Uo h (fun b hb=>.inr hb),
  ⟨⟨hB.os,hB.tape,hB.output,hB.size,fun b hb _=>hB.block b hb,fun b hb=>bH (hB.block b hb),fun b hb=>.inl hb,fun b hb=>?_,fun _ _ _ h=>h⟩,fun b hb=>?_⟩⟩
 ·have:=S1.rep o
  rw [cv (by simp)] at this ⊢
  exact this
 ·rcases hb with hb | hb
  ·exact S1.jcell b hb
  ·exact (Ny h b hb).2
 ·obtain ⟨q1,q2,q3⟩:=S1.uI q row hq
  exact ⟨.inl q1,dL.mono (fun k h=>.inl h) (fun _ _=>rfl) _ _ _ rfl q2,q3⟩
 ·rcases hb with hb | hb
  ·exact .inl hb
  ·exact .inr (.inl (Nat.le_trans hn (Ny h b hb).1))
 ·obtain ⟨o,h⟩:=hb
  exact absurd h (nil o b)
def B0 (l:List Int):List (List DV):=l.map fun i=>[i64 i]
end Dv
namespace Go
open Go.Maps (Keyed)
theorem rF {H:Type} {P:Program} (w:World) {F:Fence} {nF:Nat} {ops:Array Oper} {rest:List Oper} {o:Oper} {a:Act} {Q:Exit→Act→World→Prop}
  (hg:o.guard=none) (m x v:Operand) (t:TypeId) (hop:o.op=Op.insert t m x v)
  (k e:TypeId) (K:Keyed P k) (ht:P.underlying t=some (.map k e)) (R:Value→Option (DataW H×List MemPlace)) (b n:Nat) (D:DataW H)
  (hm:a.eval m=.map (some b)) (hown:w.ownsMap P k R b n D) (hn:n<maxLen) (key val:Value) (kl:Lit) (hx:a.eval x=key) (hv:a.eval v=val) (hkey:keyOf P k key=some kl)
  (d:DataW H) (ps:List MemPlace) (hval:R val=some (d,ps))
  (hK:∀ w',w'.ownsMap P k R b (n+1) (D.put kl d)→w.grownBy w' (some b)→wpListIn F nF P ops Q rest (a.put o.dst undef) w') :
  wpListIn F nF P ops Q (o::rest) a w:=by
 refine wpListIn_plain hg fun K' AR=>?_
 obtain ⟨w',hrun,r1,r2⟩:=hown.update K ht hn hkey hval
 unfold Oper.wpIn
 refine ⟨by simp [Oper.about,hop],?_⟩
 rw [Oper.semAt_plain F _ _ (by rw [hop]; intro c zU; cases zU)]
 simp [execOp,hop,hm,hx,hv,hrun,Result.andThen]
 exact AR _ _ (hK w' r1 r2)
end Go
namespace Go.Proofs
open Go.RowKit Go.Shelf Go.Maps
attribute [local go_sem] Oper.semAt_some
theorem Tryz.Yx (m:Nat):AnyZI.SortsIn Tryz.prog Tryz.wC Fence.wide m:=
 ⟨fun blk off cap ss W hH hblk hsz=>callsIn_wide.2 (AnyM.slices_Sort_int Tryz.Vn blk off cap ss W hH hblk hsz),
  fun p cap W=>callsIn_wide.2 (AnyM.slices_Sort_int_none Tryz.Vn p cap W)⟩
theorem keys_perm {P:Program} {k:TypeId} {R:Value→Option (DataW Unit×List MemPlace)} {W:World} {b nn:Nat} {D:DataW Unit} (hown:W.ownsMap P k R b nn D) (K:Keyed P k) (hk:P.underlying k=some (.int .i64)) {l:List Int} (hn:l.Nodup) (hm:∀ x,Maps.has D (.int .i64 x)=true↔x∈l):l.Perm (intKeys D):=by
 obtain ⟨es,hD,hpw,_⟩:=hown.entries K
 obtain ⟨es',hD',hko⟩:=hown.keysOf
 obtain rfl:es=es':=by rw [hD] at hD'; simpa using hD'
 subst hD
 exact perm_intKeys hpw (fun p hp=>by obtain ⟨v,hv⟩:=hko p hp; obtain ⟨x,_,hx,_⟩:=Maps.keyOf_i64 hk hv; exact ⟨x,hx⟩) hn (fun x=>(hm x).symm)
theorem wU {D:DataW Unit} (hD:IsMap D) (e x:Int) (d:DataW Unit) (l:List Int) (hm:∀ x,Maps.has D (.int .i64 x)=true↔x∈l):Maps.has (D.put (.int .i64 e) d) (.int .i64 x)=true↔x∈Dv.DN l e:=by
 rw [Dv.Ox]
 by_cases h:x=e
 ·subst h
  rw [has_put_same hD (show WideAt.IsKeyLit (Lit.int .i64 x) from trivial)]
  simp
 ·rw [has_put_other (fun h'=>h (by cases h'; rfl)),hm]
  simp [h]
theorem KA {G:Nat→Option (List Dv.DV)} (s:Dv.aa) (h:Dv.tu s) (now:Int) (h0:Dv.u9 now):Dv.bh Tryz.prog G 338 [Dv.aY s,.int now] [] (.d (.dK 1 (Dv.B0 (Dv.sC s now)))) []:=by
 refine ⟨by decide,fun J ι w vs S hR=>?_⟩
 obtain ⟨vl⟩:=vs
 match vl,hR with
 | [va,vk],⟨ha,hk,_⟩=>
 have hk:vk=.int .i64 now:=hk
 subst hk
 obtain ⟨cs,rfl,hcs⟩:=ha
 obtain ⟨cl⟩:=cs
 match cl,hcs with
 | [x0,x1,x2,x3,x4,x5],hcs=>
 have hds:=Dv.kX (ds:=[.dK 5 (s.nodes.map Dv.bX),.dK 12 (s.jobs.map Dv.dF),Dv.i64 s.goal,Dv.i64 s.prior,Dv.i64 s.mode,Dv.i64 s.term]) rfl hcs.AP
 have hone:=hcs.one
 obtain ⟨ja,jn,jc,rfl,hjn,hjc,hjr⟩:=hds.2.1
 rw [List.length_map] at hjn
 subst hjn
 have acR:=h.jobs
 have ZA:=@run_makeMap Tryz.prog
 refine (callsIn_wide (n:=6)).1 ?_
 refine callsIn_of_wp Tryz.func338 rfl trivial ?_ rfl
 simp only [Tryz.ntmps338,List.size_toArray,List.length_cons,List.length_nil,Nat.reduceAdd,Nat.reduceSub,Array.replicate_succ,Array.replicate_zero,List.push_toArray,List.append_toArray,List.nil_append,List.cons_append]
 have wfI:∀ x:Int,-9223372036854775808≤x→x≤9223372036854775807→(Lit.int .i64 x).wf=true:=fun x h1 h2=>by
  have e1:IntKind.i64.min = -9223372036854775808:=by decide
  have e2:IntKind.i64.max=9223372036854775807:=by decide
  simp only [Lit.wf,e1,e2,h1,h2,decide_true,Bool.and_self]
 have h0':=h0
 obtain ⟨n1,n2⟩:=h0'
 have hwf:=wfI now (by omega) (by omega)
 have hm0:=World.ownsMap_made (w.alloc (.cells #[x0,.slice ja s.jobs.length jc,x2,x3,x4,x5] 30)) Tryz.prog 3 (plainElem (H:=Unit) Tryz.prog 4)
 have hBA:Below w.heap.size w ((w.alloc (.cells #[x0,.slice ja s.jobs.length jc,x2,x3,x4,x5] 30)).alloc (.map #[] 0)):=((Below.refl _ w).alloc (Nat.le_refl _) _).alloc (by simp) _
 have hst:∀ A,Below w.heap.size w A→Dv.aF G J A ι (Dv.au []):=fun A hb=>S.still (fun b h=>hb.block b (S.BY b h)) (fun b h=>hb.block b (S.mU h)) (fun b h=>Dv.bH (hb.block b (Dv.gA h)))
 have ZO:∀ A,Below w.heap.size w A→A.heap[w.heap.size]? = some (.cells #[x0,.slice ja s.jobs.length jc,x2,x3,x4,x5] 30 (0,0))→Dv.lY J s A w.heap.size x0 (.slice ja s.jobs.length jc) x2 x3 x4 x5:=fun A hb hh=>
  ⟨hh,Dv.bD.mono (fun _ h=>h) (fun b h=>hb.block b (S.BY b h)) _ _ hds,hone⟩
 have hh0:((w.alloc (.cells #[x0,.slice ja s.jobs.length jc,x2,x3,x4,x5] 30)).alloc (.map #[] 0)).heap[w.heap.size]? = some (.cells #[x0,.slice ja s.jobs.length jc,x2,x3,x4,x5] 30 (0,0)):=
  (Below.block (Below.alloc (Below.refl _ _) (Nat.le_refl _) _) _ (by simp)).trans (World.alloc_heap_new _ _)
 have hsA:(w.alloc (.cells #[x0,.slice ja s.jobs.length jc,x2,x3,x4,x5] 30)).heap.size=w.heap.size+1:=by simp
 rw [hsA] at hm0
 gi_wp2_with (refine rF _ rfl _ _ _ 362 rfl 3 4 (Maps.int_keyed Tryz.underlying3) Tryz.underlying362 _ _ 0 _ rfl hm0 (by decide) _ _ _ rfl rfl (Maps.keyOf_int_mk Tryz.underlying3 hwf) _ [] (plainElem_bool Tryz.underlying4 true) ?_; intro w1 rX Pv; have hb1:Below w.heap.size w w1:=hBA.grown Pv hBA.size (fun r e=>by cases e; simp); have abO:=ZO w1 hb1 ((Pv.block _ (by simp; omega) (by simp)).trans hh0); obtain ⟨a0,a1,a2,a3,a4,a5⟩:=abO.cells)
 gi_loopw [14] (fun q wr=>∃ (k nn:Nat) (D:DataW Unit),q=.int .i64 k∧k≤s.jobs.length∧nn≤k+1∧wr.ownsMap Tryz.prog 3 (plainElem Tryz.prog 4) (w.heap.size+1) nn D∧(∀ x,Maps.has D (.int .i64 x)=true↔x∈Dv.sB s now k)∧Below w.heap.size w wr∧Dv.lY J s wr w.heap.size x0 (.slice ja s.jobs.length jc) x2 x3 x4 x5)
  (fun q _=>s.jobs.length-(intOf q).toNat)
 case atStart=>
  refine ⟨0,1,_,rfl,Nat.zero_le _,Nat.le_refl _,rX,fun x=>?_,hb1,abO⟩
  rw [wU ⟨_,rfl⟩ now x _ [] (fun x=>by simp [Maps.has])]
  simp [Dv.DN,Dv.sB]
 case round=>
  obtain ⟨k,nn,D,rfl,hk,hnn,hown,hD,UC,hbx⟩:=hrel
  obtain ⟨b0,b1,b2,b3,b4,b5⟩:=hbx.cells
  rcases Nat.lt_or_ge k s.jobs.length with hlt | hge
  ·have hE:=(Dv.J7 (G:=G) s h ((k+1:Nat):Int) now h0).num (hst wr UC) (vs:=#[.agg #[x0,.slice ja s.jobs.length jc,x2,x3,x4,x5],.int .i64 ((k+1:Nat):Int),.int .i64 now]) ⟨hbx.arg,rfl,rfl,trivial⟩
   have hts:Dv.sB s now (k+1)=if 0≤Dv.uP (Dv.dI s k) now then Dv.DN (Dv.sB s now k) (Dv.uP (Dv.dI s k) now) else Dv.sB s now k:=rfl
   have her:=Dv.P0 (h.ends k hlt) ⟨n1,n2⟩
   rw [Dv.J8 hlt,show ((k+1:Nat):Int)=(k:Int)+1 by omega] at hE
   generalize Dv.uP (Dv.dI s k) now=e at hE hts her
   have hwe:=wfI e (by omega) (by omega)
   gi_wp2_with (first
    | (refine ⟨trivial,?_⟩; gi_at_call 351; refine (callsIn_wide.2 hE).mono ?_; rintro e3 w3 ⟨rfl,hb3⟩
       have Pe:=hown.kept (w':=w3) (row:=none) ⟨hb3.os,hb3.tape,hb3.output,hb3.size,fun k hk _=>hb3.block k hk⟩ (by simp))
    | (gi_at_mapUpdate; refine wpListIn_mapUpdate_own _ rfl _ _ _ 362 rfl 3 4 (Maps.int_keyed Tryz.underlying3) Tryz.underlying362 _ _ nn _ rfl Pe (by simp only [Go.maxLen]; omega) _ _ _ rfl rfl (Maps.keyOf_int_mk Tryz.underlying3 hwe) _ [] (plainElem_bool Tryz.underlying4 true) ?_; intro w4 abr Pu))
   ·have hge:0≤e:=‹0≤e›
    rw [if_pos hge] at hts
    have hsz3:=UC.size
    have adq:=hb3.size
    have hml:=hown.lt
    have hb4:Below w.heap.size w w4:=(UC.trans (hb3.mono UC.size)).grown Pu (Nat.le_trans UC.size hb3.size) (fun r e=>by cases e; omega)
    have hbk:=hbx.heap
    have ZB:=(Array.getElem?_eq_some_iff.1 hbk).1
    refine ⟨⟨k+1,nn+1,_,rfl,by omega,by omega,abr,fun x=>?_,hb4,ZO w4 hb4 ?_⟩,by simp [intOf]; omega⟩
    ·rw [hts]
     exact wU Pe.isMap e x _ _ hD
    ·exact ((Pu.block _ (by omega) (by simp)).trans (hb3.block _ ZB)).trans hbk
   ·have hge:e<0:=‹e<0›
    rw [if_neg (by omega)] at hts
    have hb4:Below w.heap.size w w3:=UC.trans (hb3.mono UC.size)
    have hbk:=hbx.heap
    have ZB:=(Array.getElem?_eq_some_iff.1 hbk).1
    exact ⟨⟨k+1,nn,D,rfl,by omega,by omega,Pe,fun x=>by rw [hts]; exact hD x,hb4,ZO w3 hb4 ((hb3.block _ ZB).trans hbk)⟩,by simp [intOf]; omega⟩
  ·obtain rfl:k=s.jobs.length:=by omega
   have hsz:=hown.size_le
   have hml:=hown.lt
   have hseq:SeqGives Fence.wide 2 Tryz.prog 361 #[.pointer (some ⟨wr.heap.size,0,none⟩)] encZ (fun ss=>ss.Perm (intKeys D)) (Maps.size D) (wr.alloc (.cells #[.map (some (w.heap.size+1))] 362)):=
    AnyZI.keys_gives (ρ:=Tryz.BW) { Tryz.Vx with } Fence.wide _ trivial rfl (by omega) wr.heap.size (w.heap.size+1) nn D _ (by simp) (by simp) (hown.alloc _)
   have cK:∀ mb W,CallsIn Fence.wide 5 Tryz.prog 353 #[.map mb] W fun e w'=>e=.returned (.func (.func 361) #[] #[.pointer (some ⟨W.heap.size,0,none⟩)])∧w'=W.alloc (.cells #[.map mb] 362):=fun mb W=>AnyZI.keys_in Tryz.Vx Fence.wide 5 trivial rfl mb W
   have cS:=AnyZI.sorted_in Tryz.Rc Fence.wide 5 trivial trivial trivial trivial rfl (by omega) (Tryz.Yx _) (enters_of Tryz.func360 (by kernel_rfl) rfl) 361 #[.pointer (some ⟨wr.heap.size,0,none⟩)] trivial (enters_of Tryz.func361 (by kernel_rfl) rfl) _ _ (by simp only [Go.maxLen]; omega) (by omega) _ hseq
   change CallsIn _ _ Tryz.prog 352 _ _ _ at cS
   have hpm:(Dv.sB s now s.jobs.length).Perm (intKeys D):=keys_perm hown (Maps.int_keyed Tryz.underlying3) Tryz.underlying3 (Dv.sA s now _) hD
   have hsb:=UC.size
   gi_wp2_with (first
    | (refine ⟨trivial,?_⟩; gi_at_call 353; refine (cK _ _).mono ?_; rintro e w' ⟨rfl,rfl⟩)
    | (refine ⟨trivial,?_⟩; gi_at_call 352; refine cS.mono ?_; rintro e w5 ⟨v,ss,rfl,hS,hrow,lH,hb5⟩))
   have hee:ss.mergeSort (fun x y=>decide (x≤y))=Dv.sC s now:=mergeSort_of_perm_i (hS.trans hpm.symm)
   have sV:ss.length=(Dv.sC s now).length:=by rw [← hee,List.length_mergeSort]
   rw [hee,sV] at hrow
   go_ret
   have hbw:Below w.heap.size w w5:=(UC.alloc hsb _).trans (hb5.mono (by simp; omega))
   exact ⟨v,rfl,Dv.MM S hbw (by simp; omega) hrow⟩
end Go.Proofs
namespace Dv
open Go Go.Proofs
variable {G:Nat→Option (List DV)}
def VD:=qx Tryz.f329
theorem R7:aj Tryz.prog Tryz.f329=some VD:=by kernel_rfl
def VI:=qx Tryz.f314
theorem Sb:aj Tryz.prog Tryz.f314=some VI:=by kernel_rfl
def VT:=qx Tryz.f289
theorem Sm:aj Tryz.prog Tryz.f289=some VT:=by kernel_rfl
theorem O4 (l:List Int) (i:Nat) (h:i<l.length):(B0 l)[i]? = some [i64 (l.getD i 0)]:=by
 unfold B0
 rw [List.getElem?_map,List.getElem?_eq_getElem h]
 simp [List.getD,h]
theorem Fg (l:List Int):(B0 l).length=l.length:=by unfold B0; rw [List.length_map]
theorem FK (s:aa) (j:bP) (now:Int) (L:List Int) (i:Nat) (hi:i<L.length):oC s j now (L.drop i) =
  if (jk s j (Gl s now (L.getD i 0) s.jobs.length)).2=true then (L.getD i 0,(jk s j (Gl s now (L.getD i 0) s.jobs.length)).1,true) else oC s j now (L.drop (i+1)):=by
 rw [List.drop_eq_getElem_cons hi,show L.getD i 0=L[i] by simp [List.getD,hi]]
 rfl
def rsS (s:aa) (aM now:Int) (L:List Int) (k:Nat):St:=⟨[(1,.int aM),(2,.int now),(3,.ptr 0 0),(19,.d (.dK 1 (B0 L))),(20,.int L.length),(21,.int k)],[some (fk s)]⟩
theorem Rn (s:aa) (h:tu s) (aM now:Int) (h0:u9 now):bh Tryz.prog G 329 [aY s,.int aM,.int now] [] (.dH [.int (xB s aM now).1,.int (xB s aM now).2.1,.bool (xB s aM now).2.2]) []:=by
 refine bn Tryz.func329 (by decide) R7 rfl rfl ?_
 simp only [VD,go_sem]
 have hj:=h.jobs
 unfold xB
 refine ax (y2 s hj aM) rfl rfl rfl rfl ?_; simp only [go_sem]
 rcases tX s aM with ⟨h1,hq⟩ | ⟨h1,h2,hq⟩ | ⟨i,rfl,hi,h1,h2,hq⟩
 ·simp only [hq,if_neg (show ¬ false=true by decide),go_sem]
 ·simp only [hq,if_neg (show ¬ false=true by decide),go_sem]
 have e1:=succ_pred i (by omega)
 have e2:=yb s i
 have hgi:=aK (f:=dF) aD hi
 have hm:=h.most i hi
 have hjo:dI s i=s.jobs.getD i aD:=rfl
 generalize s.jobs.getD i aD=x at hgi hjo hq
 rw [hjo] at e2 hm
 simp only [dF] at hgi
 by_cases h3:x.phase=0
 case neg=>simp only [hq,decide_eq_false h3,if_neg (show ¬ false=true by decide),go_sem]
 simp only [hq,decide_eq_true h3,go_sem]
 refine ax (KA s h now h0) rfl rfl rfl rfl ?_; simp only [go_sem]
 have hL:=Gw s now
 simp only [e2,Fg,go_sem]
 generalize sC s now=L at hL ⊢
 refine aR [1,2,3,19,20,21] [] (fun k:Nat=>k≤L.length∧oC s x now L=oC s x now (L.drop k)) (fun k=>L.length-k) (rsS s ((i+1:Nat):Int) now L) 0 ?_ ⟨Nat.zero_le _,rfl⟩ (fun k hk=>?_)
 ·simp only [rsS,fk,Int.natCast_zero,go_sem]
 obtain ⟨hk,hN⟩:=hk
 simp only [rsS,fk,Fg,go_sem]
 by_cases hlt:k<L.length
 case neg=>
  obtain rfl:k=L.length:=by omega
  rw [List.drop_length] at hN
  simp only [decide_eq_false (show ¬ ((L.length:Nat):Int)<((L.length:Nat):Int) by omega),hN,oC,go_sem]
 have hgk:=O4 L k hlt
 have hs:=FK s x now L k hlt
 generalize L.getD k 0=t at hgk hs
 rw [← hN] at hs
 simp only [decide_eq_true (show ((k:Nat):Int)<((L.length:Nat):Int) by omega),hgk,e1,hgi,go_sem]
 refine aU (Z2 s h now t h0) rfl rfl rfl rfl ?_; simp only [go_sem]
 refine aU (y7 s x (Gl s now t s.jobs.length) h.nodes (Yi h now t _ (Nat.le_refl _)) hm) rfl rfl rfl rfl ?_; simp only [go_sem]
 generalize jk s x (Gl s now t s.jobs.length)=r at hs ⊢
 obtain ⟨n,ok⟩:=r
 cases ok with
 | true=>
   rw [if_pos rfl] at hs
   simp only [hs,go_sem]
 | false=>
   rw [if_neg Bool.false_ne_true] at hs
   simp only [go_sem]
   refine bg (k+1) ?_ ?_ ⟨by omega,hs⟩ (by omega)
   ·simp only [go_sem]
   simp only [rsS,fk,aG (show k<9223372036854775807 by omega),go_sem]
theorem Lt {s:aa} {aM:Int} (hq:gH s aM=true):0<(mA s).length:=by
 obtain ⟨i,_,hi⟩:=p8.1 hq
 exact List.length_pos_of_mem (Ow.2 (iF.1 hi))
theorem PW (s:aa) (h:tu s) (aM now:Int) (h0:u9 now):bh Tryz.prog G 314 [aY s,.int aM,.int now] [] (.dH [.int (wX s aM now).1,.bool (wX s aM now).2]) []:=by
 refine bn Tryz.func314 (by decide) Sb rfl rfl ?_
 simp only [VI,go_sem]
 have hj:=h.jobs
 have hn:=h.nodes
 unfold wX
 refine ax (E7 s hj h.prio) rfl rfl rfl rfl ?_; simp only [go_sem]
 refine ax (y2 s hj aM) rfl rfl rfl rfl ?_; simp only [go_sem]
 cases hq:gH s aM with
 | false=>simp only [Bool.false_eq_true,go_sem]
 | true=>
 have hl:=Lt hq
 have hg0:=EU (mA s) 0 hl
 have hh:((((mA s).getD 0 0+1:Nat):Int))=o8 s:=rfl
 rw [hh] at hg0
 simp only [hg0,go_sem]
 by_cases hhj:o8 s=aM
 ·simp only [show (o8 s==aM)=true from beq_iff_eq.2 hhj,hhj,go_sem]
 simp only [show (o8 s==aM)=false from beq_eq_false_iff_ne.2 hhj,Bool.true_eq_false,hhj,or_self,go_sem]
 obtain ⟨i,rfl,hi⟩:=p8.1 hq
 have hil:=(iF.1 hi).1
 have e1:=succ_pred i (by omega)
 have e2:=yb s i
 have hgi:=aK (f:=dF) aD hil
 have hm:=h.most i hil
 have hE:=h.ends i hil
 have hjo:dI s i=s.jobs.getD i aD:=rfl
 generalize s.jobs.getD i aD=x at hgi hjo
 rw [hjo] at e2 hm hE
 obtain ⟨w1,w2,w3⟩:=hE
 have hwr:IntKind.i64.wrap (now+x.work)=now+x.work:=aL (by have:=h0.1; omega) (by have:=h0.2; omega)
 simp only [dF] at hgi
 simp only [e1,e2,hgi,hg0,go_sem]
 refine aU (Rn s h (o8 s) now h0) rfl rfl rfl rfl ?_; simp only [go_sem]
 have h6:=h.ND (o8 s) now
 generalize xB s (o8 s) now=r at h6 ⊢
 obtain ⟨t,kept,ok⟩:=r
 simp only [go_sem]
 refine aU (vX s h.nodes) rfl rfl rfl rfl ?_; simp only [go_sem]
 have hset:=(MJ (H7 h.nodes) h6).1
 refine aU (y7 s x (gr .i64 (rY s) kept) h.nodes hset hm) rfl rfl rfl rfl ?_; simp only [go_sem]
 generalize jk s x (gr .i64 (rY s) kept)=pk
 obtain ⟨p1,p2⟩:=pk
 cases p2 with
 | true=>simp only [go_sem]
 | false=>
   simp only [if_neg Bool.false_ne_true,go_sem]
   refine ax (Jl s h ((i+1:Nat):Int)) rfl rfl rfl rfl ?_; simp only [go_sem]
   generalize zl s ((i+1:Nat):Int)=nw
   obtain ⟨n1,n2⟩:=nw
   cases ok with
   | false=>simp only [go_sem]
   | true=>
     cases n2 with
     | false=>simp only [go_sem]
     | true=>
       simp only [e1,hgi,hwr,go_sem]
       by_cases h5:t<now+x.work
       ·simp only [decide_eq_true (show now+x.work>t from h5),h5,go_sem]
       ·simp only [decide_eq_false (show ¬ now+x.work>t from h5),h5,Bool.true_eq_false,or_self,go_sem]
def nxS (s:aa) (now:Int) (L:List Nat) (k:Nat):St:=⟨[(1,.int now),(2,.ptr 0 0),(7,.int 0),(8,.int 0),(14,.d (.dK 1 (kH L))),(15,.int L.length),(16,.int k)],[some (fk s)]⟩
theorem MI (s:aa) (h:tu s) (now:Int) (h0:u9 now):bh Tryz.prog G 289 [aY s,.int now] [] (.dH [.int (qK s now).1,.int (qK s now).2.1,.bool (qK s now).2.2]) []:=by
 refine bn Tryz.func289 (by decide) Sm rfl rfl ?_
 simp only [VT,go_sem]
 have hj:=h.jobs
 have hL:(mA s).length≤1000:=by
  have:=(sS s).length_eq
  have:=od s s.jobs.length
  have e:e_ s s.jobs.length=oe s:=rfl
  rw [e] at this
  omega
 unfold qK
 refine ax (E7 s hj h.prio) rfl rfl rfl rfl ?_; simp only [go_sem]
 simp only [ET,go_sem]
 generalize mA s=L at hL ⊢
 refine aR [1,2,7,8,14,15,16] [] (fun k:Nat=>k≤L.length∧mV (zl s) (fun k=>wX s k now) L 0=mV (zl s) (fun k=>wX s k now) (L.drop k) k) (fun k=>L.length-k) (nxS s now L) 0 ?_ ⟨Nat.zero_le _,rfl⟩ (fun k hk=>?_)
 ·simp only [nxS,fk,Int.natCast_zero,go_sem]
 obtain ⟨hk,hN⟩:=hk
 simp only [nxS,fk,ET,go_sem]
 by_cases hlt:k<L.length
 case neg=>
  obtain rfl:k=L.length:=by omega
  rw [List.drop_length] at hN
  simp only [decide_eq_false (show ¬ ((L.length:Nat):Int)<((L.length:Nat):Int) by omega),hN,mV,go_sem] <;> rfl
 have hgk:=EU L k hlt
 have hs:=EP (zl s) (fun k=>wX s k now) L k hlt
 have hpos:0<((L.getD k 0+1:Nat):Int):=by omega
 generalize ((L.getD k 0+1:Nat):Int)=aM at hgk hs hpos
 rw [← hN] at hs
 simp only [decide_eq_true (show ((k:Nat):Int)<((L.length:Nat):Int) by omega),hgk,go_sem]
 by_cases hk0:k=0
 case pos=>
  simp only [if_pos hk0] at hs
  simp only [show (((k:Nat):Int)==0)=true from beq_iff_eq.2 (by omega),go_sem]
  refine ax (Jl s h aM) rfl rfl rfl rfl ?_; simp only [go_sem]
  generalize zl s aM=r at hs ⊢
  obtain ⟨n,ok⟩:=r
  cases ok with
  | true=>
    rw [if_pos rfl] at hs
    simp only [hs,decide_eq_true (show aM>0 from hpos),go_sem]
  | false=>
    rw [if_neg Bool.false_ne_true] at hs
    simp only [go_sem]
    refine bg (k+1) ?_ ?_ ⟨by omega,hs⟩ (by omega)
    ·simp only [go_sem]
    simp only [nxS,fk,aG (show k<9223372036854775807 by omega),go_sem]
 case neg=>
  simp only [if_neg hk0] at hs
  simp only [show (((k:Nat):Int)==0)=false from beq_eq_false_iff_ne.2 (by omega),go_sem]
  refine ax (PW s h aM now h0) rfl rfl rfl rfl ?_; simp only [go_sem]
  generalize wX s aM now=r at hs ⊢
  obtain ⟨n,ok⟩:=r
  cases ok with
  | true=>
    rw [if_pos rfl] at hs
    simp only [hs,decide_eq_true (show aM>0 from hpos),go_sem]
  | false=>
    rw [if_neg Bool.false_ne_true] at hs
    simp only [go_sem]
    refine bg (k+1) ?_ ?_ ⟨by omega,hs⟩ (by omega)
    ·simp only [go_sem]
    simp only [nxS,fk,aG (show k<9223372036854775807 by omega),go_sem]
end Dv
