/- part -/
import Derived.Test.YtkalnfkokkjliaaGreatDoorTA
import Derived.Test.YtkalnfkokkjliaaGreatDoorTS
import Derived.Test.YtkalnfkokkjliaaGreatDoorT9
import Derived.Test.YtkalnfkokkjliaaGreatDoorQA
import Derived.Test.YtkalnfkokkjliaaGreatDoorSR
import Derived.Maps.OwnIn
import Derived.Maps.Views
set_option linter.all false
set_option maxHeartbeats 8000000
set_option maxRecDepth 100000
namespace Dv
open Go Go.Proofs
variable {G:Nat→Option (List DV)}
def WL:=qx Tryz.f351
theorem SV:aj Tryz.prog Tryz.f351=some WL:=by kernel_rfl
def WN:=qx Tryz.f339
theorem SY:aj Tryz.prog Tryz.f339=some WN:=by kernel_rfl
def WR:=qx Tryz.f328
theorem S7:aj Tryz.prog Tryz.f328=some WR:=by kernel_rfl
def vL (now:Int):Prop:=0≤now∧now≤1000000
theorem KV (s:aa) (h:uc s) (aQ now:Int) (h0:vL now):bu Tryz.prog G 351 [aX s,.int aQ,.int now] [] (.int (VS s aQ now)) []:=by
 refine bz Tryz.func351 (by decide) SV rfl rfl ?_
 simp only [WL,go_sem]
 have hj:=h.jobs
 obtain ⟨h01,h02⟩:=h0
 unfold VS
 by_cases h1:aQ<1
 ·simp only [decide_eq_true h1,h1,go_sem]
 simp only [decide_eq_false h1,h1,false_or,go_sem]
 by_cases h2:(s.jobs.length:Int)<aQ
 ·simp only [decide_eq_true (show aQ>(s.jobs.length:Int) from h2),h2,go_sem]
 simp only [decide_eq_false (show ¬ aQ>(s.jobs.length:Int) from h2),h2,false_or,go_sem]
 obtain ⟨i,rfl⟩:∃ i:Nat,aQ=((i+1:Nat):Int):=⟨(aQ-1).toNat,by omega⟩
 have hi:i<s.jobs.length:=by omega
 have e1:=succ_pred i (by omega)
 have e0:(((i+1:Nat):Int)-1).toNat=i:=by omega
 have hgi:=aM (f:=dJ) az hi
 have hE:Wo (s.jobs.getD i az):=h.ends i hi
 generalize hx:s.jobs.getD i az=x at hgi hE
 obtain ⟨w1,w2,w3⟩:=hE
 simp only [dJ] at hgi
 simp only [e0,e1,hx,hgi,go_sem]
 unfold vu
 by_cases h3:x.phase=1
 ·simp only [show (x.phase==1)=true from beq_iff_eq.2 h3,if_pos h3,aO (show -9223372036854775808≤now+x.work by omega) (show now+x.work≤9223372036854775807 by omega),go_sem]
 simp only [show (x.phase==1)=false from beq_eq_false_iff_ne.2 h3,if_neg h3,go_sem]
 by_cases h4:x.phase=2
 ·simp only [show (x.phase==2)=true from beq_iff_eq.2 h4,if_pos h4,aO (show -9223372036854775808≤x.since+x.work by omega) (show x.since+x.work≤9223372036854775807 by omega),Pr,go_sem]
 simp only [show (x.phase==2)=false from beq_eq_false_iff_ne.2 h4,if_neg h4,go_sem]
 by_cases h5:x.phase=3
 ·simp only [show (x.phase==3)=true from beq_iff_eq.2 h5,if_pos h5,Pr,go_sem]
 simp only [show (x.phase==3)=false from beq_eq_false_iff_ne.2 h5,if_neg h5,go_sem]
theorem zP (s:aa) (hn:s.jobs.length≤1000) (aQ:Int):bu Tryz.prog G 328 [aX s,.int aQ] [] (.bool (gZ s aQ)) []:=by
 refine bz Tryz.func328 (by decide) S7 rfl rfl ?_
 simp only [WR,go_sem]
 unfold gZ
 by_cases h1:aQ<1
 ·simp only [decide_eq_false (show ¬ aQ≥1 by omega),show ¬ (1≤aQ) by omega,false_and,go_sem]
 simp only [decide_eq_true (show aQ≥1 by omega),show 1≤aQ by omega,go_sem]
 by_cases h2:(s.jobs.length:Int)<aQ
 ·simp only [decide_eq_false (show ¬ aQ≤(s.jobs.length:Int) by omega),show ¬ (aQ≤(s.jobs.length:Int)) by omega,false_and,go_sem]
 simp only [decide_eq_true (show aQ≤(s.jobs.length:Int) by omega),show aQ≤(s.jobs.length:Int) by omega,go_sem]
 obtain ⟨i,rfl⟩:∃ i:Nat,aQ=((i+1:Nat):Int):=⟨(aQ-1).toNat,by omega⟩
 have hi:i<s.jobs.length:=by omega
 have e1:=succ_pred i (by omega)
 have e0:(((i+1:Nat):Int)-1).toNat=i:=by omega
 have hgi:=aM (f:=dJ) az hi
 generalize hx:s.jobs.getD i az=x at hgi
 simp only [dJ] at hgi
 simp only [e0,e1,hx,hgi,go_sem]
 by_cases h3:x.phase=0
 ·simp only [h3,go_sem]
 ·simp only [show (x.phase==0)=false from beq_eq_false_iff_ne.2 h3,h3,go_sem]
theorem O4 (e t:Int):okE e t=if 0≤e then decide (e≤t) else false:=by
 unfold okE
 split
 ·rw [decide_eq_true (by assumption),Bool.true_and]
 ·rw [decide_eq_false (by assumption),Bool.false_and]
def Nv (s:aa) (now t:Int) (k:Nat):St:=⟨[(1,.int now),(2,.int t),(3,.ptr 0 0),(7,.int (Hq s now t k)),(14,cZ s.jobs),(15,.int s.jobs.length),(16,.int k)],[some (fG s)]⟩
theorem aaM (s:aa) (h:uc s) (now t:Int) (h0:vL now):bu Tryz.prog G 339 [aX s,.int now,.int t] [] (.int (Hq s now t s.jobs.length)) []:=by
 refine bz Tryz.func339 (by decide) SY rfl rfl ?_
 simp only [WN,go_sem]
 have hn:=h.jobs
 refine av (wT s h.nodes) rfl rfl rfl rfl ?_; simp only [go_sem]
 refine aW [1,2,3,7,14,15,16] [] (fun k:Nat=>k≤s.jobs.length) (fun k=>s.jobs.length-k) (Nv s now t) 0 ?_ (Nat.zero_le _) (fun k hk=>?_)
 ·simp only [Nv,fG,Hq,Int.natCast_zero,go_sem]
 simp only [Nv,fG,go_sem]
 by_cases hlt:k<s.jobs.length
 ·have hg:=aM (f:=dJ) az hlt
  have he:=KW (s:=s) hlt now
  have hst:Hq s now t (k+1)=if okE (vu (dR s k) now) t=true then Cs .i64 (Hq s now t k) (dR s k).nodes else Hq s now t k:=rfl
  have hjo:dR s k=s.jobs.getD k az:=rfl
  generalize s.jobs.getD k az=x at hg hjo
  rw [hjo] at he hst
  simp only [dJ] at hg
  simp only [decide_eq_true (show ((k:Nat):Int)<((s.jobs.length:Nat):Int) by omega),hg,aH (show k<9223372036854775807 by omega),go_sem]
  refine av (KV s h ((k+1:Nat):Int) now h0) rfl rfl rfl rfl ?_; simp only [go_sem]
  simp only [he,go_sem]
  rw [O4] at hst
  generalize vu x now=e at hst ⊢
  by_cases h1:0≤e
  ·simp only [if_pos h1] at hst
   simp only [decide_eq_true (show e≥0 from h1),go_sem]
   by_cases h2:e≤t
   ·rw [decide_eq_true h2,if_pos rfl] at hst
    simp only [decide_eq_true h2,go_sem]
    refine bh (k+1) ?_ ?_ (by omega) (by omega)
    ·simp only [go_sem]
    ·simp only [Nv,fG,hst,aH (show k<9223372036854775807 by omega),go_sem]
   ·rw [decide_eq_false h2,if_neg (by decide)] at hst
    simp only [decide_eq_false h2,go_sem]
    refine bh (k+1) ?_ ?_ (by omega) (by omega)
    ·simp only [go_sem]
    ·simp only [Nv,fG,hst,aH (show k<9223372036854775807 by omega),go_sem]
  ·simp only [if_neg h1,if_neg (show ¬ false=true by decide)] at hst
   simp only [decide_eq_false (show ¬ e≥0 from h1),go_sem]
   refine bh (k+1) ?_ ?_ (by omega) (by omega)
   ·simp only [go_sem]
   ·simp only [Nv,fG,hst,aH (show k<9223372036854775807 by omega),go_sem]
 ·obtain rfl:k=s.jobs.length:=by omega
  simp only [decide_eq_false (show ¬ ((s.jobs.length:Nat):Int)<((s.jobs.length:Nat):Int) by omega),go_sem]
end Dv
namespace Dv
open Go Go.Proofs
variable {G:Nat→Option (List DV)}
def WW:=qx Tryz.f313
theorem Tb:aj Tryz.prog Tryz.f313=some WW:=by kernel_rfl
theorem uE (s:aa) (aQ:Int):(aQ<1∧gZ s aQ=false)∨(¬ aQ<1∧(s.jobs.length:Int)<aQ∧gZ s aQ=false)∨
  ∃ i:Nat,aQ=((i+1:Nat):Int)∧i<s.jobs.length∧¬ aQ<1∧¬ (s.jobs.length:Int)<aQ∧gZ s aQ=decide ((s.jobs.getD i az).phase=0):=by
 unfold gZ
 by_cases h1:aQ<1
 ·exact .inl ⟨h1,decide_eq_false (fun h=>by omega)⟩
 by_cases h2:(s.jobs.length:Int)<aQ
 ·exact .inr (.inl ⟨h1,h2,decide_eq_false (fun h=>by omega)⟩)
 refine .inr (.inr ⟨(aQ-1).toNat,by omega,by omega,h1,h2,?_⟩)
 simp only [show 1≤aQ by omega,show aQ≤(s.jobs.length:Int) by omega,true_and]
theorem Ki (s:aa) (h:uc s) (aQ:Int):bu Tryz.prog G 313 [aX s,.int aQ] [] (.dM [.int (Af s aQ).1,.bool (Af s aQ).2]) []:=by
 refine bz Tryz.func313 (by decide) Tb rfl rfl ?_
 simp only [WW,go_sem]
 have hj:=h.jobs
 unfold Af
 rcases uE s aQ with ⟨h1,hq⟩ | ⟨h1,h2,hq⟩ | ⟨i,rfl,hi,h1,h2,hq⟩
 ·simp only [decide_eq_true h1,hq,if_neg (show ¬ false=true by decide),go_sem]
 ·simp only [decide_eq_false h1,decide_eq_true (show aQ>(s.jobs.length:Int) from h2),hq,if_neg (show ¬ false=true by decide),go_sem]
 have e1:=succ_pred i (by omega)
 have e2:=yV s i
 have hgi:=aM (f:=dJ) az hi
 have hm:=h.most i hi
 have hjo:dR s i=s.jobs.getD i az:=rfl
 generalize s.jobs.getD i az=x at hgi hjo hq
 rw [hjo] at e2 hm
 simp only [dJ] at hgi
 simp only [decide_eq_false h1,decide_eq_false (show ¬ ((i+1:Nat):Int)>(s.jobs.length:Int) from h2),e1,e2,hgi,go_sem]
 by_cases h3:x.phase=0
 ·simp only [show (x.phase !=0)=false from (bne_eq_false_iff_eq.2 h3),hq,decide_eq_true h3,e1,e2,hgi,go_sem]
  refine bf (wT s h.nodes) rfl rfl rfl rfl ?_; simp only [go_sem]
  refine bf (zS s x (sS s) h.nodes (Jf h.nodes) hm) rfl rfl rfl rfl ?_; simp only [go_sem]
 ·simp only [show (x.phase !=0)=true from bne_iff_ne.2 h3,hq,decide_eq_false h3,if_neg (show ¬ false=true by decide),go_sem]
theorem FR (l:List Nat) (i:Nat) (h:i<l.length):(kY l)[i]? = some [i64 ((l.getD i 0+1:Nat):Int)]:=by
 unfold kY
 rw [List.getElem?_map,List.getElem?_eq_getElem h]
 simp [List.getD,h]
theorem FQ (l:List Nat):(kY l).length=l.length:=by unfold kY; rw [List.length_map]
theorem FN (f g:Int→Int×Bool) (L:List Nat) (i:Nat) (hi:i<L.length):nJ f g (L.drop i) i =
  if (if i=0 then f ((L.getD i 0+1:Nat):Int) else g ((L.getD i 0+1:Nat):Int)).2=true then (((L.getD i 0+1:Nat):Int),(if i=0 then f ((L.getD i 0+1:Nat):Int) else g ((L.getD i 0+1:Nat):Int)).1,true) else nJ f g (L.drop (i+1)) (i+1):=by
 rw [List.drop_eq_getElem_cons hi,show L.getD i 0=L[i] by simp [List.getD,hi]]
 cases i with
 | zero=>simp only [nJ,if_true]
 | succ i=>simp only [nJ,if_neg (Nat.succ_ne_zero i)]
end Dv
namespace Dv
open Go Go.Proofs
theorem Ci {J:Nat→Prop} {w:World} {g:Nat} : ∀ (l:List Int) (off:Nat),(∀ (j:Nat) x,l[j]? = some x→w.cell? ⟨g,off+j,none⟩=some (.int .i64 x))→bJ J w 1 (l.map fun i=>[i64 i]) g off
 | [],_,_=>trivial
 | x::l,off,h=>⟨rfl,⟨⟨.int .i64 x,h 0 x rfl,rfl,rfl⟩,trivial⟩,Ci l (off+1) (fun j y hy=>by
    have:=h (j+1) y (by simpa using hy)
    rw [show off+1+j=off+(j+1) by omega]; exact this)⟩
theorem Va {J:Nat→Prop} {w:World} {n0:Nat} {e:TypeId} {v:Value} {l:List Int} (h:w.ownsRow n0 e 1 v l.length (l.map (Value.int .i64))) (hj:∀ b,v.ownBlock=some b→J b):iO J w (.dO 1 (l.map fun i=>[i64 i])) v:=by
 rcases h.2 with ⟨rfl,h0⟩ | ⟨g,cap,cur,rfl,_,hg,hc,_,_,hx⟩
 ·exact ⟨none,0,0,rfl,by simp [h0],Nat.le_refl _,.inl (by rw [List.eq_nil_of_length_eq_zero h0]; rfl)⟩
 ·refine ⟨_,_,_,rfl,by simp,hc,.inr ⟨g,0,rfl,hj g rfl,Ci l 0 (fun j x hjx=>?_)⟩⟩
  have h1:(cur.toList.take (l.length*1))[j]? = some (.int .i64 x):=by rw [hx,List.getElem?_map,hjx]; rfl
  have hlt:=(List.getElem?_eq_some_iff.1 h1).1
  rw [List.length_take] at hlt
  rw [List.getElem?_take,if_pos (by omega)] at h1
  rw [Nat.zero_add]
  simp only [World.cell?,hg]
  simpa using h1
theorem OA {w:World} {n0:Nat} {e:TypeId} {aS k:Nat} {v:Value} {xs:List Value} (h:w.ownsRow n0 e aS v k xs) (b:Nat) (hb:v.ownBlock=some b):n0≤b∧∃ C t f,w.heap[b]? = some (.cells C t f):=by
 rcases h.2 with ⟨rfl,h0⟩ | ⟨g,cap,cur,rfl,hge,hg,_⟩
 ·simp [Value.ownBlock] at hb
 ·simp only [Value.ownBlock,Option.some.injEq] at hb
  subst hb
  exact ⟨hge,_,_,_,hg⟩
theorem NB {G:Nat→Option (List DV)} {J:Nat→Prop} {ι:Nat→Nat→Option Nat} {w W:World} (S:aJ G J w ι (aC [])) (hB:RowKit.Below w.heap.size w W) {n0:Nat} (hn:w.heap.size≤n0) {e:TypeId} {v:Value} {l:List Int}
  (h:W.ownsRow n0 e 1 v l.length (l.map (Value.int .i64))):bn G (aC []) (aC []) J ι w (.d (.dO 1 (l.map fun i=>[i64 i]))) v W:=by
 have S1:aJ G J W ι (aC []):=S.still (fun b h=>hB.block b (S.ER b h)) (fun b h=>hB.block b (S.nI h)) (fun b h=>bM (hB.block b (gM h)))
 have nil:∀ o b,¬ (aC [] o).own ι o b:=fun o b=>by rw [cW (by simp)]; exact fun h=>h.elim
 refine ⟨fun b=>J b∨v.ownBlock=some b,ι,⟨fun o=>?_,fun o o' b h=>absurd h (nil o b),fun o b h=>absurd h (nil o b),fun b hb=>?_,fun q row hq=>?_⟩,Va h (fun b hb=>.inr hb),
  ⟨⟨hB.os,hB.tape,hB.output,hB.size,fun b hb _=>hB.block b hb,fun b hb=>bM (hB.block b hb),fun b hb=>.inl hb,fun b hb=>?_,fun _ _ _ h=>h⟩,fun b hb=>?_⟩⟩
 ·have:=S1.rep o
  rw [cW (by simp)] at this ⊢
  exact this
 ·rcases hb with hb | hb
  ·exact S1.jcell b hb
  ·exact (OA h b hb).2
 ·obtain ⟨q1,q2,q3⟩:=S1.yx q row hq
  exact ⟨.inl q1,dP.mono (fun k h=>.inl h) (fun _ _=>rfl) _ _ _ rfl q2,q3⟩
 ·rcases hb with hb | hb
  ·exact .inl hb
  ·exact .inr (.inl (Nat.le_trans hn (OA h b hb).1))
 ·obtain ⟨o,h⟩:=hb
  exact absurd h (nil o b)
def CK (l:List Int):List (List DV):=l.map fun i=>[i64 i]
end Dv
namespace Go
open Go.Maps (Keyed)
theorem sw {H:Type} {P:Program} (w:World) {F:Fence} {nF:Nat} {ops:Array Oper} {rest:List Oper} {o:Oper} {a:Act} {Q:Exit→Act→World→Prop}
  (hg:o.guard=none) (m x v:Operand) (t:TypeId) (hop:o.op=Op.insert t m x v)
  (k e:TypeId) (K:Keyed P k) (ht:P.underlying t=some (.map k e)) (R:Value→Option (DataW H×List MemPlace)) (b n:Nat) (D:DataW H)
  (hm:a.eval m=.map (some b)) (hown:w.ownsMap P k R b n D) (hn:n<maxLen) (key val:Value) (kl:Lit) (hx:a.eval x=key) (hv:a.eval v=val) (hkey:keyOf P k key=some kl)
  (d:DataW H) (ps:List MemPlace) (hval:R val=some (d,ps))
  (hK:∀ w',w'.ownsMap P k R b (n+1) (D.put kl d)→w.grownBy w' (some b)→wpListIn F nF P ops Q rest (a.put o.dst undef) w') :
  wpListIn F nF P ops Q (o::rest) a w:=by
 refine wpListIn_plain hg fun K' Bz=>?_
 obtain ⟨w',hrun,r1,r2⟩:=hown.update K ht hn hkey hval
 unfold Oper.wpIn
 refine ⟨by simp [Oper.about,hop],?_⟩
 rw [Oper.semAt_plain F _ _ (by rw [hop]; intro c wM; cases wM)]
 simp [execOp,hop,hm,hx,hv,hrun,Result.andThen]
 exact Bz _ _ (hK w' r1 r2)
end Go
namespace Go.Proofs
open Go.RowKit Go.Shelf Go.Maps
attribute [local go_sem] Oper.semAt_some
theorem Tryz.Zv (m:Nat):AnyZI.SortsIn Tryz.prog Tryz.xA Fence.wide m:=
 ⟨fun blk off cap ss W hH hblk hsz=>callsIn_wide.2 (AnyM.slices_Sort_int Tryz.Wt blk off cap ss W hH hblk hsz),
  fun p cap W=>callsIn_wide.2 (AnyM.slices_Sort_int_none Tryz.Wt p cap W)⟩
theorem keys_perm {P:Program} {k:TypeId} {R:Value→Option (DataW Unit×List MemPlace)} {W:World} {b nn:Nat} {D:DataW Unit} (hown:W.ownsMap P k R b nn D) (K:Keyed P k) (hk:P.underlying k=some (.int .i64)) {l:List Int} (hn:l.Nodup) (hm:∀ x,Maps.has D (.int .i64 x)=true↔x∈l):l.Perm (intKeys D):=by
 obtain ⟨es,hD,hpw,_⟩:=hown.entries K
 obtain ⟨es',hD',hko⟩:=hown.keysOf
 obtain rfl:es=es':=by rw [hD] at hD'; simpa using hD'
 subst hD
 exact perm_intKeys hpw (fun p hp=>by obtain ⟨v,hv⟩:=hko p hp; obtain ⟨x,_,hx,_⟩:=Maps.keyOf_i64 hk hv; exact ⟨x,hx⟩) hn (fun x=>(hm x).symm)
theorem xT {D:DataW Unit} (hD:IsMap D) (e x:Int) (d:DataW Unit) (l:List Int) (hm:∀ x,Maps.has D (.int .i64 x)=true↔x∈l):Maps.has (D.put (.int .i64 e) d) (.int .i64 x)=true↔x∈Dv.EM l e:=by
 rw [Dv.Po]
 by_cases h:x=e
 ·subst h
  rw [has_put_same hD (show WideAt.IsKeyLit (Lit.int .i64 x) from trivial)]
  simp
 ·rw [has_put_other (fun h'=>h (by cases h'; rfl)),hm]
  simp [h]
theorem Ls {G:Nat→Option (List Dv.DV)} (s:Dv.aa) (h:Dv.uc s) (now:Int) (h0:Dv.vL now):Dv.bu Tryz.prog G 338 [Dv.aX s,.int now] [] (.d (.dO 1 (Dv.CK (Dv.tc s now)))) []:=by
 refine ⟨by decide,fun J ι w vs S hR=>?_⟩
 obtain ⟨vl⟩:=vs
 match vl,hR with
 | [va,vk],⟨ha,hk,_⟩=>
 have hk:vk=.int .i64 now:=hk
 subst hk
 obtain ⟨cs,rfl,hcs⟩:=ha
 obtain ⟨cl⟩:=cs
 match cl,hcs with
 | [x0,x1,x2,x3,x4,x5],hcs=>
 have hds:=Dv.nV (ds:=[.dO 5 (s.nodes.map Dv.bZ),.dO 12 (s.jobs.map Dv.dJ),Dv.i64 s.goal,Dv.i64 s.prior,Dv.i64 s.mode,Dv.i64 s.term]) rfl hcs.BA
 have hone:=hcs.one
 obtain ⟨ja,jn,jc,rfl,hjn,hjc,hjr⟩:=hds.2.1
 rw [List.length_map] at hjn
 subst hjn
 have adw:=h.jobs
 have Vi:=@run_makeMap Tryz.prog
 refine (callsIn_wide (n:=6)).1 ?_
 refine callsIn_of_wp Tryz.func338 rfl trivial ?_ rfl
 simp only [Tryz.ntmps338,List.size_toArray,List.length_cons,List.length_nil,Nat.reduceAdd,Nat.reduceSub,Array.replicate_succ,Array.replicate_zero,List.push_toArray,List.append_toArray,List.nil_append,List.cons_append]
 have wfI:∀ x:Int,-9223372036854775808≤x→x≤9223372036854775807→(Lit.int .i64 x).wf=true:=fun x h1 h2=>by
  have e1:IntKind.i64.min = -9223372036854775808:=by decide
  have e2:IntKind.i64.max=9223372036854775807:=by decide
  simp only [Lit.wf,e1,e2,h1,h2,decide_true,Bool.and_self]
 have h0':=h0
 obtain ⟨n1,n2⟩:=h0'
 have hwf:=wfI now (by omega) (by omega)
 have hm0:=World.ownsMap_made (w.alloc (.cells #[x0,.slice ja s.jobs.length jc,x2,x3,x4,x5] 30)) Tryz.prog 3 (plainElem (H:=Unit) Tryz.prog 4)
 have hBA:Below w.heap.size w ((w.alloc (.cells #[x0,.slice ja s.jobs.length jc,x2,x3,x4,x5] 30)).alloc (.map #[] 0)):=((Below.refl _ w).alloc (Nat.le_refl _) _).alloc (by simp) _
 have hst:∀ A,Below w.heap.size w A→Dv.aJ G J A ι (Dv.aC []):=fun A hb=>S.still (fun b h=>hb.block b (S.ER b h)) (fun b h=>hb.block b (S.nI h)) (fun b h=>Dv.bM (hb.block b (Dv.gM h)))
 have aaC:∀ A,Below w.heap.size w A→A.heap[w.heap.size]? = some (.cells #[x0,.slice ja s.jobs.length jc,x2,x3,x4,x5] 30 (0,0))→Dv.mK J s A w.heap.size x0 (.slice ja s.jobs.length jc) x2 x3 x4 x5:=fun A hb hh=>
  ⟨hh,Dv.bD.mono (fun _ h=>h) (fun b h=>hb.block b (S.ER b h)) _ _ hds,hone⟩
 have hh0:((w.alloc (.cells #[x0,.slice ja s.jobs.length jc,x2,x3,x4,x5] 30)).alloc (.map #[] 0)).heap[w.heap.size]? = some (.cells #[x0,.slice ja s.jobs.length jc,x2,x3,x4,x5] 30 (0,0)):=
  (Below.block (Below.alloc (Below.refl _ _) (Nat.le_refl _) _) _ (by simp)).trans (World.alloc_heap_new _ _)
 have hsA:(w.alloc (.cells #[x0,.slice ja s.jobs.length jc,x2,x3,x4,x5] 30)).heap.size=w.heap.size+1:=by simp
 rw [hsA] at hm0
 gi_wp2_with (refine sw _ rfl _ _ _ 362 rfl 3 4 (Maps.int_keyed Tryz.underlying3) Tryz.underlying362 _ _ 0 _ rfl hm0 (by decide) _ _ _ rfl rfl (Maps.keyOf_int_mk Tryz.underlying3 hwf) _ [] (plainElem_bool Tryz.underlying4 true) ?_; intro w1 AE QB; have hb1:Below w.heap.size w w1:=hBA.grown QB hBA.size (fun r e=>by cases e; simp); have acr:=aaC w1 hb1 ((QB.block _ (by simp; omega) (by simp)).trans hh0); obtain ⟨a0,a1,a2,a3,a4,a5⟩:=acr.cells)
 gi_loopw [14] (fun q wr=>∃ (k nn:Nat) (D:DataW Unit),q=.int .i64 k∧k≤s.jobs.length∧nn≤k+1∧wr.ownsMap Tryz.prog 3 (plainElem Tryz.prog 4) (w.heap.size+1) nn D∧(∀ x,Maps.has D (.int .i64 x)=true↔x∈Dv.s_ s now k)∧Below w.heap.size w wr∧Dv.mK J s wr w.heap.size x0 (.slice ja s.jobs.length jc) x2 x3 x4 x5)
  (fun q _=>s.jobs.length-(intOf q).toNat)
 case atStart=>
  refine ⟨0,1,_,rfl,Nat.zero_le _,Nat.le_refl _,AE,fun x=>?_,hb1,acr⟩
  rw [xT ⟨_,rfl⟩ now x _ [] (fun x=>by simp [Maps.has])]
  simp [Dv.EM,Dv.s_]
 case round=>
  obtain ⟨k,nn,D,rfl,hk,hnn,hown,hD,Vs,hbx⟩:=hrel
  obtain ⟨b0,b1,b2,b3,b4,b5⟩:=hbx.cells
  rcases Nat.lt_or_ge k s.jobs.length with hlt | hge
  ·have hE:=(Dv.KV (G:=G) s h ((k+1:Nat):Int) now h0).num (hst wr Vs) (vs:=#[.agg #[x0,.slice ja s.jobs.length jc,x2,x3,x4,x5],.int .i64 ((k+1:Nat):Int),.int .i64 now]) ⟨hbx.arg,rfl,rfl,trivial⟩
   have hts:Dv.s_ s now (k+1)=if 0≤Dv.vu (Dv.dR s k) now then Dv.EM (Dv.s_ s now k) (Dv.vu (Dv.dR s k) now) else Dv.s_ s now k:=rfl
   have her:=Dv.Re (h.ends k hlt) ⟨n1,n2⟩
   rw [Dv.KW hlt,show ((k+1:Nat):Int)=(k:Int)+1 by omega] at hE
   generalize Dv.vu (Dv.dR s k) now=e at hE hts her
   have hwe:=wfI e (by omega) (by omega)
   gi_wp2_with (first
    | (refine ⟨trivial,?_⟩; gi_at_call 351; refine (callsIn_wide.2 hE).mono ?_; rintro e3 w3 ⟨rfl,hb3⟩
       have Qn:=hown.kept (w':=w3) (row:=none) ⟨hb3.os,hb3.tape,hb3.output,hb3.size,fun k hk _=>hb3.block k hk⟩ (by simp))
    | (gi_at_mapUpdate; refine wpListIn_mapUpdate_own _ rfl _ _ _ 362 rfl 3 4 (Maps.int_keyed Tryz.underlying3) Tryz.underlying362 _ _ nn _ rfl Qn (by simp only [Go.maxLen]; omega) _ _ _ rfl rfl (Maps.keyOf_int_mk Tryz.underlying3 hwe) _ [] (plainElem_bool Tryz.underlying4 true) ?_; intro w4 ab1 QA))
   ·have hge:0≤e:=‹0≤e›
    rw [if_pos hge] at hts
    have hsz3:=Vs.size
    have ad2:=hb3.size
    have hml:=hown.lt
    have hb4:Below w.heap.size w w4:=(Vs.trans (hb3.mono Vs.size)).grown QA (Nat.le_trans Vs.size hb3.size) (fun r e=>by cases e; omega)
    have hbk:=hbx.heap
    have aaq:=(Array.getElem?_eq_some_iff.1 hbk).1
    refine ⟨⟨k+1,nn+1,_,rfl,by omega,by omega,ab1,fun x=>?_,hb4,aaC w4 hb4 ?_⟩,by simp [intOf]; omega⟩
    ·rw [hts]
     exact xT Qn.isMap e x _ _ hD
    ·exact ((QA.block _ (by omega) (by simp)).trans (hb3.block _ aaq)).trans hbk
   ·have hge:e<0:=‹e<0›
    rw [if_neg (by omega)] at hts
    have hb4:Below w.heap.size w w3:=Vs.trans (hb3.mono Vs.size)
    have hbk:=hbx.heap
    have aaq:=(Array.getElem?_eq_some_iff.1 hbk).1
    exact ⟨⟨k+1,nn,D,rfl,by omega,by omega,Qn,fun x=>by rw [hts]; exact hD x,hb4,aaC w3 hb4 ((hb3.block _ aaq).trans hbk)⟩,by simp [intOf]; omega⟩
  ·obtain rfl:k=s.jobs.length:=by omega
   have hsz:=hown.size_le
   have hml:=hown.lt
   have hseq:SeqGives Fence.wide 2 Tryz.prog 361 #[.pointer (some ⟨wr.heap.size,0,none⟩)] encZ (fun ss=>ss.Perm (intKeys D)) (Maps.size D) (wr.alloc (.cells #[.map (some (w.heap.size+1))] 362)):=
    AnyZI.keys_gives (ρ:=Tryz.CE) { Tryz.WJ with } Fence.wide _ trivial rfl (by omega) wr.heap.size (w.heap.size+1) nn D _ (by simp) (by simp) (hown.alloc _)
   have cK:∀ mb W,CallsIn Fence.wide 5 Tryz.prog 353 #[.map mb] W fun e w'=>e=.returned (.func (.func 361) #[] #[.pointer (some ⟨W.heap.size,0,none⟩)])∧w'=W.alloc (.cells #[.map mb] 362):=fun mb W=>AnyZI.keys_in Tryz.WJ Fence.wide 5 trivial rfl mb W
   have cS:=AnyZI.sorted_in Tryz.R3 Fence.wide 5 trivial trivial trivial trivial rfl (by omega) (Tryz.Zv _) (enters_of Tryz.func360 (by kernel_rfl) rfl) 361 #[.pointer (some ⟨wr.heap.size,0,none⟩)] trivial (enters_of Tryz.func361 (by kernel_rfl) rfl) _ _ (by simp only [Go.maxLen]; omega) (by omega) _ hseq
   change CallsIn _ _ Tryz.prog 352 _ _ _ at cS
   have hpm:(Dv.s_ s now s.jobs.length).Perm (intKeys D):=keys_perm hown (Maps.int_keyed Tryz.underlying3) Tryz.underlying3 (Dv.s9 s now _) hD
   have hsb:=Vs.size
   gi_wp2_with (first
    | (refine ⟨trivial,?_⟩; gi_at_call 353; refine (cK _ _).mono ?_; rintro e w' ⟨rfl,rfl⟩)
    | (refine ⟨trivial,?_⟩; gi_at_call 352; refine cS.mono ?_; rintro e w5 ⟨v,ss,rfl,hS,hrow,nN,hb5⟩))
   have hee:ss.mergeSort (fun x y=>decide (x≤y))=Dv.tc s now:=mergeSort_of_perm_i (hS.trans hpm.symm)
   have wI:ss.length=(Dv.tc s now).length:=by rw [← hee,List.length_mergeSort]
   rw [hee,wI] at hrow
   go_ret
   have hbw:Below w.heap.size w w5:=(Vs.alloc hsb _).trans (hb5.mono (by simp; omega))
   exact ⟨v,rfl,Dv.NB S hbw (by simp; omega) hrow⟩
end Go.Proofs
namespace Dv
open Go Go.Proofs
variable {G:Nat→Option (List DV)}
def WQ:=qx Tryz.f329
theorem S6:aj Tryz.prog Tryz.f329=some WQ:=by kernel_rfl
def WV:=qx Tryz.f314
theorem Ta:aj Tryz.prog Tryz.f314=some WV:=by kernel_rfl
def W_:=qx Tryz.f289
theorem Tl:aj Tryz.prog Tryz.f289=some W_:=by kernel_rfl
theorem Qb (l:List Int) (i:Nat) (h:i<l.length):(CK l)[i]? = some [i64 (l.getD i 0)]:=by
 unfold CK
 rw [List.getElem?_map,List.getElem?_eq_getElem h]
 simp [List.getD,h]
theorem F9 (l:List Int):(CK l).length=l.length:=by unfold CK; rw [List.length_map]
theorem Gz (s:aa) (j:bQ) (now:Int) (L:List Int) (i:Nat) (hi:i<L.length):pE s j now (L.drop i) =
  if (jG s j (Hq s now (L.getD i 0) s.jobs.length)).2=true then (L.getD i 0,(jG s j (Hq s now (L.getD i 0) s.jobs.length)).1,true) else pE s j now (L.drop (i+1)):=by
 rw [List.drop_eq_getElem_cons hi,show L.getD i 0=L[i] by simp [List.getD,hi]]
 rfl
def rsS (s:aa) (aQ now:Int) (L:List Int) (k:Nat):St:=⟨[(1,.int aQ),(2,.int now),(3,.ptr 0 0),(19,.d (.dO 1 (CK L))),(20,.int L.length),(21,.int k)],[some (fG s)]⟩
theorem Sf (s:aa) (h:uc s) (aQ now:Int) (h0:vL now):bu Tryz.prog G 329 [aX s,.int aQ,.int now] [] (.dM [.int (ym s aQ now).1,.int (ym s aQ now).2.1,.bool (ym s aQ now).2.2]) []:=by
 refine bz Tryz.func329 (by decide) S6 rfl rfl ?_
 simp only [WQ,go_sem]
 have hj:=h.jobs
 unfold ym
 refine av (zP s hj aQ) rfl rfl rfl rfl ?_; simp only [go_sem]
 rcases uE s aQ with ⟨h1,hq⟩ | ⟨h1,h2,hq⟩ | ⟨i,rfl,hi,h1,h2,hq⟩
 ·simp only [hq,if_neg (show ¬ false=true by decide),go_sem]
 ·simp only [hq,if_neg (show ¬ false=true by decide),go_sem]
 have e1:=succ_pred i (by omega)
 have e2:=yV s i
 have hgi:=aM (f:=dJ) az hi
 have hm:=h.most i hi
 have hjo:dR s i=s.jobs.getD i az:=rfl
 generalize s.jobs.getD i az=x at hgi hjo hq
 rw [hjo] at e2 hm
 simp only [dJ] at hgi
 by_cases h3:x.phase=0
 case neg=>simp only [hq,decide_eq_false h3,if_neg (show ¬ false=true by decide),go_sem]
 simp only [hq,decide_eq_true h3,go_sem]
 refine av (Ls s h now h0) rfl rfl rfl rfl ?_; simp only [go_sem]
 have hL:=Hz s now
 simp only [e2,F9,go_sem]
 generalize tc s now=L at hL ⊢
 refine aW [1,2,3,19,20,21] [] (fun k:Nat=>k≤L.length∧pE s x now L=pE s x now (L.drop k)) (fun k=>L.length-k) (rsS s ((i+1:Nat):Int) now L) 0 ?_ ⟨Nat.zero_le _,rfl⟩ (fun k hk=>?_)
 ·simp only [rsS,fG,Int.natCast_zero,go_sem]
 obtain ⟨hk,hN⟩:=hk
 simp only [rsS,fG,F9,go_sem]
 by_cases hlt:k<L.length
 case neg=>
  obtain rfl:k=L.length:=by omega
  rw [List.drop_length] at hN
  simp only [decide_eq_false (show ¬ ((L.length:Nat):Int)<((L.length:Nat):Int) by omega),hN,pE,go_sem]
 have hgk:=Qb L k hlt
 have hs:=Gz s x now L k hlt
 generalize L.getD k 0=t at hgk hs
 rw [← hN] at hs
 simp only [decide_eq_true (show ((k:Nat):Int)<((L.length:Nat):Int) by omega),hgk,e1,hgi,go_sem]
 refine bf (aaM s h now t h0) rfl rfl rfl rfl ?_; simp only [go_sem]
 refine bf (zS s x (Hq s now t s.jobs.length) h.nodes (Zd h now t _ (Nat.le_refl _)) hm) rfl rfl rfl rfl ?_; simp only [go_sem]
 generalize jG s x (Hq s now t s.jobs.length)=r at hs ⊢
 obtain ⟨n,ok⟩:=r
 cases ok with
 | true=>
   rw [if_pos rfl] at hs
   simp only [hs,go_sem]
 | false=>
   rw [if_neg Bool.false_ne_true] at hs
   simp only [go_sem]
   refine bh (k+1) ?_ ?_ ⟨by omega,hs⟩ (by omega)
   ·simp only [go_sem]
   simp only [rsS,fG,aH (show k<9223372036854775807 by omega),go_sem]
theorem Mj {s:aa} {aQ:Int} (hq:gZ s aQ=true):0<(mV s).length:=by
 obtain ⟨i,_,hi⟩:=qM.1 hq
 exact List.length_pos_of_mem (Pn.2 (iT.1 hi))
theorem Q9 (s:aa) (h:uc s) (aQ now:Int) (h0:vL now):bu Tryz.prog G 314 [aX s,.int aQ,.int now] [] (.dM [.int (xV s aQ now).1,.bool (xV s aQ now).2]) []:=by
 refine bz Tryz.func314 (by decide) Ta rfl rfl ?_
 simp only [WV,go_sem]
 have hj:=h.jobs
 have hn:=h.nodes
 unfold xV
 refine av (FY s hj h.prio) rfl rfl rfl rfl ?_; simp only [go_sem]
 refine av (zP s hj aQ) rfl rfl rfl rfl ?_; simp only [go_sem]
 cases hq:gZ s aQ with
 | false=>simp only [Bool.false_eq_true,go_sem]
 | true=>
 have hl:=Mj hq
 have hg0:=FR (mV s) 0 hl
 have hh:((((mV s).getD 0 0+1:Nat):Int))=pV s:=rfl
 rw [hh] at hg0
 simp only [hg0,go_sem]
 by_cases hhj:pV s=aQ
 ·simp only [show (pV s==aQ)=true from beq_iff_eq.2 hhj,hhj,go_sem]
 simp only [show (pV s==aQ)=false from beq_eq_false_iff_ne.2 hhj,Bool.true_eq_false,hhj,or_self,go_sem]
 obtain ⟨i,rfl,hi⟩:=qM.1 hq
 have hil:=(iT.1 hi).1
 have e1:=succ_pred i (by omega)
 have e2:=yV s i
 have hgi:=aM (f:=dJ) az hil
 have hm:=h.most i hil
 have hE:=h.ends i hil
 have hjo:dR s i=s.jobs.getD i az:=rfl
 generalize s.jobs.getD i az=x at hgi hjo
 rw [hjo] at e2 hm hE
 obtain ⟨w1,w2,w3⟩:=hE
 have hwr:IntKind.i64.wrap (now+x.work)=now+x.work:=aO (by have:=h0.1; omega) (by have:=h0.2; omega)
 simp only [dJ] at hgi
 simp only [e1,e2,hgi,hg0,go_sem]
 refine bf (Sf s h (pV s) now h0) rfl rfl rfl rfl ?_; simp only [go_sem]
 have h6:=h.OF (pV s) now
 generalize ym s (pV s) now=r at h6 ⊢
 obtain ⟨t,kept,ok⟩:=r
 simp only [go_sem]
 refine bf (wT s h.nodes) rfl rfl rfl rfl ?_; simp only [go_sem]
 have hset:=(Ny (Jf h.nodes) h6).1
 refine bf (zS s x (gF .i64 (sS s) kept) h.nodes hset hm) rfl rfl rfl rfl ?_; simp only [go_sem]
 generalize jG s x (gF .i64 (sS s) kept)=pk
 obtain ⟨p1,p2⟩:=pk
 cases p2 with
 | true=>simp only [go_sem]
 | false=>
   simp only [if_neg Bool.false_ne_true,go_sem]
   refine av (Ki s h ((i+1:Nat):Int)) rfl rfl rfl rfl ?_; simp only [go_sem]
   generalize Af s ((i+1:Nat):Int)=nw
   obtain ⟨n1,n2⟩:=nw
   cases ok with
   | false=>simp only [go_sem]
   | true=>
     cases n2 with
     | false=>simp only [go_sem]
     | true=>
       simp only [e1,hgi,hwr,go_sem]
       by_cases h5:t<now+x.work
       ·simp only [decide_eq_true (show now+x.work>t from h5),h5,go_sem]
       ·simp only [decide_eq_false (show ¬ now+x.work>t from h5),h5,Bool.true_eq_false,or_self,go_sem]
def nxS (s:aa) (now:Int) (L:List Nat) (k:Nat):St:=⟨[(1,.int now),(2,.ptr 0 0),(7,.int 0),(8,.int 0),(14,.d (.dO 1 (kY L))),(15,.int L.length),(16,.int k)],[some (fG s)]⟩
theorem Nx (s:aa) (h:uc s) (now:Int) (h0:vL now):bu Tryz.prog G 289 [aX s,.int now] [] (.dM [.int (rG s now).1,.int (rG s now).2.1,.bool (rG s now).2.2]) []:=by
 refine bz Tryz.func289 (by decide) Tl rfl rfl ?_
 simp only [W_,go_sem]
 have hj:=h.jobs
 have hL:(mV s).length≤1000:=by
  have:=(tH s).length_eq
  have:=oN s s.jobs.length
  have e:fu s s.jobs.length=oO s:=rfl
  rw [e] at this
  omega
 unfold rG
 refine av (FY s hj h.prio) rfl rfl rfl rfl ?_; simp only [go_sem]
 simp only [FQ,go_sem]
 generalize mV s=L at hL ⊢
 refine aW [1,2,7,8,14,15,16] [] (fun k:Nat=>k≤L.length∧nJ (Af s) (fun k=>xV s k now) L 0=nJ (Af s) (fun k=>xV s k now) (L.drop k) k) (fun k=>L.length-k) (nxS s now L) 0 ?_ ⟨Nat.zero_le _,rfl⟩ (fun k hk=>?_)
 ·simp only [nxS,fG,Int.natCast_zero,go_sem]
 obtain ⟨hk,hN⟩:=hk
 simp only [nxS,fG,FQ,go_sem]
 by_cases hlt:k<L.length
 case neg=>
  obtain rfl:k=L.length:=by omega
  rw [List.drop_length] at hN
  simp only [decide_eq_false (show ¬ ((L.length:Nat):Int)<((L.length:Nat):Int) by omega),hN,nJ,go_sem] <;> rfl
 have hgk:=FR L k hlt
 have hs:=FN (Af s) (fun k=>xV s k now) L k hlt
 have hpos:0<((L.getD k 0+1:Nat):Int):=by omega
 generalize ((L.getD k 0+1:Nat):Int)=aQ at hgk hs hpos
 rw [← hN] at hs
 simp only [decide_eq_true (show ((k:Nat):Int)<((L.length:Nat):Int) by omega),hgk,go_sem]
 by_cases hk0:k=0
 case pos=>
  simp only [if_pos hk0] at hs
  simp only [show (((k:Nat):Int)==0)=true from beq_iff_eq.2 (by omega),go_sem]
  refine av (Ki s h aQ) rfl rfl rfl rfl ?_; simp only [go_sem]
  generalize Af s aQ=r at hs ⊢
  obtain ⟨n,ok⟩:=r
  cases ok with
  | true=>
    rw [if_pos rfl] at hs
    simp only [hs,decide_eq_true (show aQ>0 from hpos),go_sem]
  | false=>
    rw [if_neg Bool.false_ne_true] at hs
    simp only [go_sem]
    refine bh (k+1) ?_ ?_ ⟨by omega,hs⟩ (by omega)
    ·simp only [go_sem]
    simp only [nxS,fG,aH (show k<9223372036854775807 by omega),go_sem]
 case neg=>
  simp only [if_neg hk0] at hs
  simp only [show (((k:Nat):Int)==0)=false from beq_eq_false_iff_ne.2 (by omega),go_sem]
  refine av (Q9 s h aQ now h0) rfl rfl rfl rfl ?_; simp only [go_sem]
  generalize xV s aQ now=r at hs ⊢
  obtain ⟨n,ok⟩:=r
  cases ok with
  | true=>
    rw [if_pos rfl] at hs
    simp only [hs,decide_eq_true (show aQ>0 from hpos),go_sem]
  | false=>
    rw [if_neg Bool.false_ne_true] at hs
    simp only [go_sem]
    refine bh (k+1) ?_ ?_ ⟨by omega,hs⟩ (by omega)
    ·simp only [go_sem]
    simp only [nxS,fG,aH (show k<9223372036854775807 by omega),go_sem]
end Dv
