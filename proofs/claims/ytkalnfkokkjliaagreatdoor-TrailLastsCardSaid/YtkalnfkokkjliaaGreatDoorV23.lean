/- part -/
import Derived.Test.YtkalnfkokkjliaaGreatDoorVD
set_option linter.all false
namespace Dv
open Go
theorem we {α:Type} : ∀ (k:Ask α) (w:World),w.drawn≤(w.ask k).2.drawn
 | .done a,w=>Nat.le_refl _
 | .ask what range k,w=>by
   unfold World.ask
   dsimp only
   split
   ·exact we _ w
   ·exact Nat.le_trans (Nat.le_succ _) (we (k _) { w with drawn:=w.drawn+1 })
theorem KF (w:World) (c:Sys):w.drawn≤(w.sys c).2.drawn:=by
 unfold World.sys
 have h:=we (Kernel.perform c w.os) w
 split
 ·exact Nat.le_refl _
 ·rename_i e; rw [e] at h; exact h
theorem L_ {P:Program} {w w':World} {a:Addr} {v:Value} {at_:Bool} {l:List Addr} (h:w.farStore P a v at_=.ok (w',l)):w'.drawn=w.drawn:=by
 unfold World.farStore at h
 split at h
 ·split at h
  ·rename_i r hr
   cases h
   unfold World.viewStore at hr
   simp only [bind,Except.bind,pure,Except.pure] at hr
   repeat' split at hr
   all_goals (try (cases hr; done))
   all_goals (cases hr; rfl)
  ·cases h
 ·cases h
theorem dQ (P:Program) {α:Type} : ∀ (s:Sem α) (w:World) (v:α) (w':World),s.run P w=.ok v w'→w.drawn≤w'.drawn
 | .pure a,w,v,w',h=>by cases h; exact Nat.le_refl _
 | .load m a k,w,v,w',h=>by
   unfold Sem.run at h
   split at h
   ·exact dQ P _ _ _ _ h
   ·split at h
    ·exact dQ P _ _ _ _ h
    ·cases h
 | .store m a u k,w,v,w',h=>by
   have key:(match w.cell? a with
    | some _=>if w.frozen? a then Result.halt (.unsupported (.unsafePointer "a write to bytes that a string shares")) w else k.run P (w.setCell a u)
    | none=>match w.farStore P a u (m==Mode.atomic) with
      | .ok (w,_)=>k.run P w
      | .error h=>.halt h w)=.ok v w'→w.drawn≤w'.drawn:=by
    intro hh
    split at hh
    ·split at hh
     ·cases hh
     ·exact dQ P k (w.setCell a u) _ _ hh
    ·split at hh
     ·rename_i w1 l hf
      have:=dQ P k w1 _ _ hh
      rw [L_ hf] at this
      exact this
     ·cases hh
   cases u <;> first | exact key h | (cases h; done)
 | .new o k,w,v,w',h=>dQ P (k w.heap.size) { w with heap:=w.heap.push o } v w' h
 | .shape r k,w,v,w',h=>dQ P (k (w.shape? r)) w v w' h
 | .freeze a n k,w,v,w',h=>by
   have:=dQ P k (w.freeze a n) v w' h
   have e:(w.freeze a n).drawn=w.drawn:=by unfold World.freeze; split <;> rfl
   rw [e] at this
   exact this
 | .frozen a k,w,v,w',h=>dQ P (k (w.frozen? a)) w v w' h
 | .getObj r k,w,v,w',h=>by
   unfold Sem.run at h
   split at h
   ·cases h
   ·exact dQ P _ _ _ _ h
   ·cases h
 | .setObj r o k,w,v,w',h=>by
   unfold Sem.run at h
   split at h
   ·cases h
   ·exact dQ P k { w with heap:=w.heap.setIfInBounds r o } v w' h
   ·cases h
 | .choose q k,w,v,w',h=>by
   unfold Sem.run at h
   split at h
   ·exact dQ P (k 0) w v w' h
   ·exact Nat.le_trans (Nat.le_succ _) (dQ P (k _) { w with drawn:=w.drawn+1 } v w' h)
 | .sys c k,w,v,w',h=>Nat.le_trans (KF w c) (dQ P (k (w.sys c).1) (w.sys c).2 v w' h)
 | .program k,w,v,w',h=>dQ P (k P) w v w' h
 | .mark _ k,w,v,w',h=>dQ P k w v w' h
 | .halt x,w,v,w',h=>by cases h
def p7 (o:Oper):Bool:=match o.op with
 | .move _ | .assign _ | .pick .. | .alloc _ | .box .. | .load .. | .store .. | .binOp .. | .fieldAddr .. | .indexAddr ..=>true
 | _=>false
theorem K8 {P:Program} {ρ:Operand→Value} {o:Oper} (h:p7 o=true) {w w':World} {n:Next} (hr:(execOp ρ o).run P w=.ok n w'):w.drawn≤w'.drawn∧((∃ v,n=.value v)∨n=.skip):=by
 refine ⟨dQ P _ _ _ _ hr,?_⟩
 obtain ⟨dst,op,type,pos,after,guard⟩:=o
 cases op <;> simp only [p7,Bool.false_eq_true] at h <;> simp only [execOp,Sem.run_bind,Sem.run_pure] at hr <;> (try (cases hr; exact .inl ⟨_,rfl⟩)) <;>
  (first
   | (cases hs:Sem.run P _ w with
      | ok v w1=>rw [hs] at hr; simp only [Result.andThen_ok] at hr; cases hr; first | exact .inl ⟨_,rfl⟩ | exact .inr rfl
      | halt x w1=>rw [hs] at hr; cases hr)
   | (cases hs:Sem.run P (eqGuard _ _ _ _ _ _) w with
      | ok v w1=>
        rw [hs] at hr; simp only [Result.andThen_ok] at hr
        cases hs2:Sem.run P (Go.binOp _ _ _ _) w1 with
        | ok v2 w2=>rw [hs2] at hr; simp only [Result.andThen_ok] at hr; cases hr; exact .inl ⟨_,rfl⟩
        | halt x w2=>rw [hs2] at hr; cases hr
      | halt x w1=>rw [hs] at hr; cases hr))
section
variable {P:Program} {ops:Array Oper} {Q:Exit→Act→World→Prop} {nn:Nat}
def QD (n0:Nat) (Q:Exit→Act→World→Prop):Exit→Act→World→Prop:=fun e a w=>Q e a w∧((e=.normal∨e=.ret)→n0≤w.drawn)
theorem Vs {o:Oper} (ho:p7 o=true) {n0:Nat} {a:Act} {w:World} {K K':Act→World→Prop} (hn:n0≤w.drawn) (hK:∀ a' w',n0≤w'.drawn→K a' w'→K' a' w') (h:o.wpIn (fz none) nn P a w K Q):o.wpIn (fz none) nn P a w K' (QD n0 Q):=by
 unfold Oper.wpIn at *
 refine ⟨h.1,?_⟩
 have h:=h.2
 have hs:(o.semAt (fz none).round a.eval)=execOp a.eval o:=rfl
 rw [hs] at h ⊢
 cases hr:(execOp a.eval o).run P w with
 | ok n w'=>
   obtain ⟨h1,h2⟩:=K8 ho hr
   rw [hr] at h
   rcases h2 with ⟨v,rfl⟩ | rfl
   ·exact hK _ _ (Nat.le_trans hn h1) h
   ·exact hK _ _ (Nat.le_trans hn h1) h
 | halt x w'=>
   rw [hr] at h
   cases x <;> first | exact h.elim | exact ⟨h,by rintro (h | h) <;> cases h⟩
theorem vq {n0:Nat} : ∀ (os:List Oper) (a:Act) (w:World),os.all p7=true→n0≤w.drawn→wpListIn (fz none) nn P ops Q os a w→wpListIn (fz none) nn P ops (QD n0 Q) os a w
 | [],a,w,_,hn,h=>⟨h,fun _=>hn⟩
 | o::os,a,w,hq,hn,h=>by
   simp only [List.all_cons,Bool.and_eq_true] at hq
   unfold wpListIn at *
   split
   ·rename_i hw
    rw [if_pos hw] at h
    exact Vs hq.1 hn (fun a' w' hn' h'=>vq os a' w' hq.2 hn' h') h
   ·rename_i hw
    rw [if_neg hw] at h
    exact ⟨h.1,vq os _ w hq.2 hn h.2⟩
theorem pG {n0:Nat} (hq:ops.all p7=true):∀ (fuel:Nat) (listed:Array Bool) (a:Act) (w:World),n0≤w.drawn→wpAnyIn (fz none) nn P .any ops Q fuel listed a w→wpAnyIn (fz none) nn P .any ops (QD n0 Q) fuel listed a w
 | 0,listed,a,w,hn,h=>⟨h.1,h.2,fun _=>hn⟩
 | fuel+1,listed,a,w,hn,h=>by
   refine ⟨fun e=>⟨h.1 e,fun _=>hn⟩,fun i hi=>?_⟩
   have h2:=h.2 i hi
   unfold wpOpIn at *
   cases ho:ops[i]? with
   | none=>rw [ho] at h2; exact pG hq fuel _ a w hn h2
   | some o=>
     rw [ho] at h2
     have hqo:p7 o=true:=by
      obtain ⟨hlt,rfl⟩:=Array.getElem?_eq_some_iff.1 ho
      exact (Array.all_eq_true.1 hq) i hlt
     dsimp only at h2 ⊢
     split
     ·rename_i hw
      rw [if_pos hw] at h2
      exact Vs hqo hn (fun a' w' hn' h'=>pG hq fuel _ a' w' hn' h') h2
     ·rename_i hw
      rw [if_neg hw] at h2
      exact ⟨h2.1,pG hq fuel _ _ w hn h2.2⟩
end
def ko:Code→C→Bool
 | .skip,_=>true
 | .region _ ops false,_=>ops.all p7
 | .region _ ops true,.nq _=>ops.all p7
 | .seq a b,.seq c d=>ko a c&&ko b d
 | .cond _ a b,.cond _ c d=>ko a c&&ko b d
 | .ret,_=>true
 | _,_=>false
section
variable {P:Program} {G:Nat→Option (List DV)} {D:Dk} {N:Nat} {bf:Nat→b_} {J0:Nat→Prop} {bV:Nat→Nat→Option Nat} {w0:World} {nn:Nat}
theorem jA (n0:Nat):∀ (code:Code) (c:C),ko code c=true→eD P N code=some c→∀ (s:St) (K:wo),vc P G c s K→oO P G none K.y D N bf J0 bV w0→∀ a w,n0≤w.drawn→nR G D N bf J0 bV w0 s a w→code.wpIn (fz none) nn P (QD n0 (KQ G D N bf J0 bV w0 K)) a w
 | .skip,c,hq,hc,s,K,h,hY,a,w,hn,hA=>by
   simp only [eD] at hc; cases hc
   exact wpIn_skip ⟨⟨s,hA,h⟩,fun _=>hn⟩
 | .region rid ops draw,c,hq,hc,s,K,h,hY,a,w,hn,hA=>by
   simp only [eD] at hc
   split at hc
   ·rename_i fF A3
    cases hc
    cases draw with
    | false=>
      simp only [ko] at hq
      simp only [Bool.false_eq_true,if_false,vc] at h
      simp only [mI,Bool.false_eq_true,if_false] at A3
      obtain ⟨h1,h2⟩:=mJ A3
      refine wpIn_region_list (vq _ _ _ ?_ hn (vD (Q:=KQ G D N bf J0 bV w0 K) hY (K:=K.n) (fun s a w hA hK=>⟨s,hA,hK⟩) (fun v s a w hd hO hX=>⟨v,s,rfl,hd,hO,hX⟩) _ _ _ _ _ h1 h2 h hA))
      rw [List.all_eq_true]
      intro o ho
      obtain ⟨i,hi,rfl⟩:=Array.getElem_of_mem (Array.mem_toList_iff.1 ho)
      exact (Array.all_eq_true.1 hq) i hi
    | true=>
      simp only [if_true] at h hq
      unfold GG at h hq
      split at h
      ·rename_i p hp
       rw [hp] at hq
       dsimp only at hq
       split at hq
       ·simp only [ko,Bool.false_eq_true] at hq
       ·rename_i oW
        rw [oW] at h
        simp only [ko] at hq
        simp only [vc] at h
        have hd:=Ao (Q:=KQ G D N bf J0 bV w0 K) (nn:=nn) (ro:=none) (K:=K.n) (fun s a w hA hK=>⟨s,hA,hK⟩) (fun v s a w hd hO hX=>⟨v,s,rfl,hd,hO,hX⟩) A3 h hA
        exact wpIn_region_any hd.1 (pG hq _ _ _ _ (Nat.le_succ_of_le hn) hd.2)
      ·rename_i hp
       rw [hp] at hq
       simp only [ko] at hq
       simp only [vc] at h
       have hd:=Ao (Q:=KQ G D N bf J0 bV w0 K) (nn:=nn) (ro:=none) (K:=K.n) (fun s a w hA hK=>⟨s,hA,hK⟩) (fun v s a w hd hO hX=>⟨v,s,rfl,hd,hO,hX⟩) A3 h hA
       exact wpIn_region_any hd.1 (pG hq _ _ _ _ (Nat.le_succ_of_le hn) hd.2)
   ·cases hc
 | .seq x y,c,hq,hc,s,K,h,hY,a,w,hn,hA=>by
   simp only [eD] at hc
   split at hc
   ·rename_i cx cy h1 h2
    cases hc
    simp only [ko,Bool.and_eq_true] at hq
    refine wpIn_seq (wpIn_mono (jA n0 x cx hq.1 h1 s _ h hY a w hn hA) (fun e a' w' hQ=>?_))
    obtain ⟨hQ,hd⟩:=hQ
    cases e with
    | normal=>obtain ⟨s',uH,h'⟩:=hQ; exact jA n0 y cy hq.2 h2 s' K h' hY a' w' (hd (.inl rfl)) uH
    | ret=>exact ⟨hQ,hd⟩
    | exit i=>exact ⟨hQ,hd⟩
    | goto l=>exact ⟨hQ,hd⟩
    | panic ch=>exact ⟨hQ,hd⟩
    | outgrown=>exact ⟨hQ,hd⟩
   ·cases hc
 | .cond x p q,c,hq,hc,s,K,h,hY,a,w,hn,hA=>by
   simp only [eD] at hc
   split at hc
   ·rename_i cx cp cq h1 h2 h3
    cases hc
    simp only [ko,Bool.and_eq_true] at hq
    simp only [vc] at h
    split at h
    ·rename_i t ht
     have hv:a.eval x=.bool t:=by
      obtain ⟨J,ι,S,E⟩:=hA.ex
      have hr:=aT S.store S.env h1
      rw [ht] at hr
      exact hr
     exact wpIn_cond_split hv (fun hh=>jA n0 p cp hq.1 h2 s K (by rw [if_pos hh] at h; exact h) hY a w hn hA) (fun hh=>jA n0 q cq hq.2 h3 s K (by rw [if_neg (by simp [hh])] at h; exact h) hY a w hn hA)
    ·rename_i ht
     obtain ⟨t,hv⟩:∃ t,a.eval x=.bool t:=by
      obtain ⟨J,ι,S,E⟩:=hA.ex
      have hr:=aT S.store S.env h1
      rw [ht] at hr
      exact hr
     exact wpIn_cond_split hv (fun hh=>jA n0 p cp hq.1 h2 s K h.1 hY a w hn hA) (fun hh=>jA n0 q cq hq.2 h3 s K h.2 hY a w hn hA)
    ·exact h.elim
   ·cases hc
 | .ret,c,hq,hc,s,K,h,hY,a,w,hn,hA=>by
   simp only [eD] at hc; cases hc
   exact wpIn_ret ⟨⟨s,hA,h⟩,fun _=>hn⟩
theorem aar {f:Nat} {fn:Func} {ir:Nat×C×List RV} {args:List LV} {r:LV} (hf:P.funcs[f]? = some fn) (hn:(fn.name != "runtime.NumGoroutine")=true) (gR:aj P fn=some ir) (hl:Nat.ble args.length ir.1=true) (hid:eB 0 r=true)
  (hq:(match fn.body with | some c=>ko c ir.2.1 | none=>false)=true) (h:W P G (Ends ir.2.2 r) [.c ir.2.1] ⟨fm 0 args,[]⟩) (J0:Nat→Prop) (bV:Nat→Nat→Option Nat) (w0:World) (vs:Array Value) (S0:aF G J0 w0 bV (au [])) (hargs:ck J0 w0 bV args vs.toList) :
  Calls P f vs w0 (fun e w'=>∃ v,e=.returned v∧aN G (au []) (au []) J0 bV w0 r v w'∧w0.drawn≤w'.drawn):=by
 unfold aj at gR
 split at gR
 ·rename_i code hbody
  split at gR
  ·rename_i c' rv' hc LM
   split at gR
   case isFalse=>cases gR
   rename_i hlim
   cases gR
   rw [hbody] at hq
   simp only [W,Wx] at h
   have hA:=Kh (n:=fn.ntmps) (aH:=[]) S0 hargs (Nat.le_of_ble_eq_true hl) hlim
   refine (nI (ro:=none) (n:=0)).1 (callsIn_of_wp hf hbody trivial (wpIn_mono (jA (D:=Dk.plain [] false) (N:=fn.ntmps) (bf:=au []) (J0:=J0) (bV:=bV) (w0:=w0) w0.drawn code c' hq hc _ _ h oO.no _ w0 (Nat.le_refl _) hA) (fun e a w hQ=>?_)))
   obtain ⟨hQ,hd⟩:=hQ
   have fin:∀ s,nR G (Dk.plain [] false) fn.ntmps (au []) J0 bV w0 s a w→Ends rv' r s→w0.drawn≤w.drawn→
     a.defers=[]∧∃ v,(results fn a.tmps).run P w=.ok v w∧∃ v',Ending.returned v=.returned v'∧aN G (au []) (au []) J0 bV w0 r v' w∧w0.drawn≤w.drawn:=by
    intro s hA hB hdr
    obtain ⟨J,ι,S,E⟩:=hA.ex
    unfold Ends at hB
    split at hB
    ·rename_i rs zP
     cases hB
     refine ⟨S.defers.none rfl,?_⟩
     obtain ⟨v,hv1,HF⟩:=DB (r:=aP rs) [] S.store S.env S0 E LM zP (fun _ h=>by cases h) (qJ _ _ _ _ hid)
     exact ⟨v,hv1,v,rfl,HF,hdr⟩
    ·cases hB
   cases e with
   | normal=>obtain ⟨s,hA,hB⟩:=hQ; exact fin s hA hB (hd (.inl rfl))
   | ret=>obtain ⟨s,hA,hB⟩:=hQ; exact fin s hA hB (hd (.inr rfl))
   | exit i=>obtain ⟨_,s,hA,hB⟩:=hQ; exact hB.elim
   | goto l=>exact hQ.elim
   | panic ch=>obtain ⟨v,s,h1,h2,h3,hk⟩:=hQ; exact hk.elim
   | outgrown=>exact hQ.elim
  ·cases gR
 ·cases gR
end
end Dv
