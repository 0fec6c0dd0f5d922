/- part -/
import Derived.Test.YtkalnfkokkjliaaGreatDoorVD
set_option linter.all false
namespace Dv
open Go
theorem wZ {α:Type} : ∀ (k:Ask α) (w:World),w.drawn≤(w.ask k).2.drawn
 | .done a,w=>Nat.le_refl _
 | .ask what range k,w=>by
   unfold World.ask
   dsimp only
   split
   ·exact wZ _ w
   ·exact Nat.le_trans (Nat.le_succ _) (wZ (k _) { w with drawn:=w.drawn+1 })
theorem Lx (w:World) (c:Sys):w.drawn≤(w.sys c).2.drawn:=by
 unfold World.sys
 have h:=wZ (Kernel.perform c w.os) w
 split
 ·exact Nat.le_refl _
 ·rename_i e; rw [e] at h; exact h
theorem MX {P:Program} {w w':World} {a:Addr} {v:Value} {at_:Bool} {l:List Addr} (h:w.farStore P a v at_=.ok (w',l)):w'.drawn=w.drawn:=by
 unfold World.farStore at h
 split at h
 ·split at h
  ·rename_i r hr
   cases h
   unfold World.viewStore at hr
   simp only [bind,Except.bind,pure,Except.pure] at hr
   repeat' split at hr
   all_goals (try (cases hr; done))
   all_goals (cases hr; rfl)
  ·cases h
 ·cases h
theorem dZ (P:Program) {α:Type} : ∀ (s:Sem α) (w:World) (v:α) (w':World),s.run P w=.ok v w'→w.drawn≤w'.drawn
 | .pure a,w,v,w',h=>by cases h; exact Nat.le_refl _
 | .load m a k,w,v,w',h=>by
   unfold Sem.run at h
   split at h
   ·exact dZ P _ _ _ _ h
   ·split at h
    ·exact dZ P _ _ _ _ h
    ·cases h
 | .store m a u k,w,v,w',h=>by
   have key:(match w.cell? a with
    | some _=>if w.frozen? a then Result.halt (.unsupported (.unsafePointer "a write to bytes that a string shares")) w else k.run P (w.setCell a u)
    | none=>match w.farStore P a u (m==Mode.atomic) with
      | .ok (w,_)=>k.run P w
      | .error h=>.halt h w)=.ok v w'→w.drawn≤w'.drawn:=by
    intro hh
    split at hh
    ·split at hh
     ·cases hh
     ·exact dZ P k (w.setCell a u) _ _ hh
    ·split at hh
     ·rename_i w1 l hf
      have:=dZ P k w1 _ _ hh
      rw [MX hf] at this
      exact this
     ·cases hh
   cases u <;> first | exact key h | (cases h; done)
 | .new o k,w,v,w',h=>dZ P (k w.heap.size) { w with heap:=w.heap.push o } v w' h
 | .shape r k,w,v,w',h=>dZ P (k (w.shape? r)) w v w' h
 | .freeze a n k,w,v,w',h=>by
   have:=dZ P k (w.freeze a n) v w' h
   have e:(w.freeze a n).drawn=w.drawn:=by unfold World.freeze; split <;> rfl
   rw [e] at this
   exact this
 | .frozen a k,w,v,w',h=>dZ P (k (w.frozen? a)) w v w' h
 | .getObj r k,w,v,w',h=>by
   unfold Sem.run at h
   split at h
   ·cases h
   ·exact dZ P _ _ _ _ h
   ·cases h
 | .setObj r o k,w,v,w',h=>by
   unfold Sem.run at h
   split at h
   ·cases h
   ·exact dZ P k { w with heap:=w.heap.setIfInBounds r o } v w' h
   ·cases h
 | .choose q k,w,v,w',h=>by
   unfold Sem.run at h
   split at h
   ·exact dZ P (k 0) w v w' h
   ·exact Nat.le_trans (Nat.le_succ _) (dZ P (k _) { w with drawn:=w.drawn+1 } v w' h)
 | .sys c k,w,v,w',h=>Nat.le_trans (Lx w c) (dZ P (k (w.sys c).1) (w.sys c).2 v w' h)
 | .program k,w,v,w',h=>dZ P (k P) w v w' h
 | .mark _ k,w,v,w',h=>dZ P k w v w' h
 | .halt x,w,v,w',h=>by cases h
def qL (o:Oper):Bool:=match o.op with
 | .move _ | .assign _ | .pick .. | .alloc _ | .box .. | .load .. | .store .. | .binOp .. | .fieldAddr .. | .indexAddr ..=>true
 | _=>false
theorem LU {P:Program} {ρ:Operand→Value} {o:Oper} (h:qL o=true) {w w':World} {n:Next} (hr:(execOp ρ o).run P w=.ok n w'):w.drawn≤w'.drawn∧((∃ v,n=.value v)∨n=.skip):=by
 refine ⟨dZ P _ _ _ _ hr,?_⟩
 obtain ⟨dst,op,type,pos,after,guard⟩:=o
 cases op <;> simp only [qL,Bool.false_eq_true] at h <;> simp only [execOp,Sem.run_bind,Sem.run_pure] at hr <;> (try (cases hr; exact .inl ⟨_,rfl⟩)) <;>
  (first
   | (cases hs:Sem.run P _ w with
      | ok v w1=>rw [hs] at hr; simp only [Result.andThen_ok] at hr; cases hr; first | exact .inl ⟨_,rfl⟩ | exact .inr rfl
      | halt x w1=>rw [hs] at hr; cases hr)
   | (cases hs:Sem.run P (eqGuard _ _ _ _ _ _) w with
      | ok v w1=>
        rw [hs] at hr; simp only [Result.andThen_ok] at hr
        cases hs2:Sem.run P (Go.binOp _ _ _ _) w1 with
        | ok v2 w2=>rw [hs2] at hr; simp only [Result.andThen_ok] at hr; cases hr; exact .inl ⟨_,rfl⟩
        | halt x w2=>rw [hs2] at hr; cases hr
      | halt x w1=>rw [hs] at hr; cases hr))
section
variable {P:Program} {ops:Array Oper} {Q:Exit→Act→World→Prop} {nn:Nat}
def QD (n0:Nat) (Q:Exit→Act→World→Prop):Exit→Act→World→Prop:=fun e a w=>Q e a w∧((e=.normal∨e=.ret)→n0≤w.drawn)
theorem WA {o:Oper} (ho:qL o=true) {n0:Nat} {a:Act} {w:World} {K K':Act→World→Prop} (hn:n0≤w.drawn) (hK:∀ a' w',n0≤w'.drawn→K a' w'→K' a' w') (h:o.wpIn (fz none) nn P a w K Q):o.wpIn (fz none) nn P a w K' (QD n0 Q):=by
 unfold Oper.wpIn at *
 refine ⟨h.1,?_⟩
 have h:=h.2
 have hs:(o.semAt (fz none).round a.eval)=execOp a.eval o:=rfl
 rw [hs] at h ⊢
 cases hr:(execOp a.eval o).run P w with
 | ok n w'=>
   obtain ⟨h1,h2⟩:=LU ho hr
   rw [hr] at h
   rcases h2 with ⟨v,rfl⟩ | rfl
   ·exact hK _ _ (Nat.le_trans hn h1) h
   ·exact hK _ _ (Nat.le_trans hn h1) h
 | halt x w'=>
   rw [hr] at h
   cases x <;> first | exact h.elim | exact ⟨h,by rintro (h | h) <;> cases h⟩
theorem vT {n0:Nat} : ∀ (os:List Oper) (a:Act) (w:World),os.all qL=true→n0≤w.drawn→wpListIn (fz none) nn P ops Q os a w→wpListIn (fz none) nn P ops (QD n0 Q) os a w
 | [],a,w,_,hn,h=>⟨h,fun _=>hn⟩
 | o::os,a,w,hq,hn,h=>by
   simp only [List.all_cons,Bool.and_eq_true] at hq
   unfold wpListIn at *
   split
   ·rename_i hw
    rw [if_pos hw] at h
    exact WA hq.1 hn (fun a' w' hn' h'=>vT os a' w' hq.2 hn' h') h
   ·rename_i hw
    rw [if_neg hw] at h
    exact ⟨h.1,vT os _ w hq.2 hn h.2⟩
theorem qa {n0:Nat} (hq:ops.all qL=true):∀ (fuel:Nat) (listed:Array Bool) (a:Act) (w:World),n0≤w.drawn→wpAnyIn (fz none) nn P .any ops Q fuel listed a w→wpAnyIn (fz none) nn P .any ops (QD n0 Q) fuel listed a w
 | 0,listed,a,w,hn,h=>⟨h.1,h.2,fun _=>hn⟩
 | fuel+1,listed,a,w,hn,h=>by
   refine ⟨fun e=>⟨h.1 e,fun _=>hn⟩,fun i hi=>?_⟩
   have h2:=h.2 i hi
   unfold wpOpIn at *
   cases ho:ops[i]? with
   | none=>rw [ho] at h2; exact qa hq fuel _ a w hn h2
   | some o=>
     rw [ho] at h2
     have hqo:qL o=true:=by
      obtain ⟨hlt,rfl⟩:=Array.getElem?_eq_some_iff.1 ho
      exact (Array.all_eq_true.1 hq) i hlt
     dsimp only at h2 ⊢
     split
     ·rename_i hw
      rw [if_pos hw] at h2
      exact WA hqo hn (fun a' w' hn' h'=>qa hq fuel _ a' w' hn' h') h2
     ·rename_i hw
      rw [if_neg hw] at h2
      exact ⟨h2.1,qa hq fuel _ _ w hn h2.2⟩
end
def kI:Code→C→Bool
 | .skip,_=>true
 | .region _ ops false,_=>ops.all qL
 | .region _ ops true,.lS _=>ops.all qL
 | .seq a b,.seq c d=>kI a c&&kI b d
 | .cond _ a b,.cond _ c d=>kI a c&&kI b d
 | .ret,_=>true
 | _,_=>false
section
variable {P:Program} {G:Nat→Option (List DV)} {D:Dk} {N:Nat} {bx:Nat→cG} {J0:Nat→Prop} {cu:Nat→Nat→Option Nat} {w0:World} {nn:Nat}
theorem jL (n0:Nat):∀ (code:Code) (c:C),kI code c=true→eT P N code=some c→∀ (s:St) (K:xm),vc P G c s K→pM P G none K.y D N bx J0 cu w0→∀ a w,n0≤w.drawn→oD G D N bx J0 cu w0 s a w→code.wpIn (fz none) nn P (QD n0 (KQ G D N bx J0 cu w0 K)) a w
 | .skip,c,hq,hc,s,K,h,hY,a,w,hn,hA=>by
   simp only [eT] at hc; cases hc
   exact wpIn_skip ⟨⟨s,hA,h⟩,fun _=>hn⟩
 | .region rid ops draw,c,hq,hc,s,K,h,hY,a,w,hn,hA=>by
   simp only [eT] at hc
   split at hc
   ·rename_i fP BK
    cases hc
    cases draw with
    | false=>
      simp only [kI] at hq
      simp only [Bool.false_eq_true,if_false,vc] at h
      simp only [ni,Bool.false_eq_true,if_false] at BK
      obtain ⟨h1,h2⟩:=nk BK
      refine wpIn_region_list (vT _ _ _ ?_ hn (v_ (Q:=KQ G D N bx J0 cu w0 K) hY (K:=K.n) (fun s a w hA hK=>⟨s,hA,hK⟩) (fun v s a w hd hO hX=>⟨v,s,rfl,hd,hO,hX⟩) _ _ _ _ _ h1 h2 h hA))
      rw [List.all_eq_true]
      intro o ho
      obtain ⟨i,hi,rfl⟩:=Array.getElem_of_mem (Array.mem_toList_iff.1 ho)
      exact (Array.all_eq_true.1 hq) i hi
    | true=>
      simp only [if_true] at h hq
      unfold HI at h hq
      split at h
      ·rename_i p hp
       rw [hp] at hq
       dsimp only at hq
       split at hq
       ·simp only [kI,Bool.false_eq_true] at hq
       ·rename_i oC
        rw [oC] at h
        simp only [kI] at hq
        simp only [vc] at h
        have hd:=AZ (Q:=KQ G D N bx J0 cu w0 K) (nn:=nn) (ro:=none) (K:=K.n) (fun s a w hA hK=>⟨s,hA,hK⟩) (fun v s a w hd hO hX=>⟨v,s,rfl,hd,hO,hX⟩) BK h hA
        exact wpIn_region_any hd.1 (qa hq _ _ _ _ (Nat.le_succ_of_le hn) hd.2)
      ·rename_i hp
       rw [hp] at hq
       simp only [kI] at hq
       simp only [vc] at h
       have hd:=AZ (Q:=KQ G D N bx J0 cu w0 K) (nn:=nn) (ro:=none) (K:=K.n) (fun s a w hA hK=>⟨s,hA,hK⟩) (fun v s a w hd hO hX=>⟨v,s,rfl,hd,hO,hX⟩) BK h hA
       exact wpIn_region_any hd.1 (qa hq _ _ _ _ (Nat.le_succ_of_le hn) hd.2)
   ·cases hc
 | .seq x y,c,hq,hc,s,K,h,hY,a,w,hn,hA=>by
   simp only [eT] at hc
   split at hc
   ·rename_i cx cy h1 h2
    cases hc
    simp only [kI,Bool.and_eq_true] at hq
    refine wpIn_seq (wpIn_mono (jL n0 x cx hq.1 h1 s _ h hY a w hn hA) (fun e a' w' hQ=>?_))
    obtain ⟨hQ,hd⟩:=hQ
    cases e with
    | normal=>obtain ⟨s',vh,h'⟩:=hQ; exact jL n0 y cy hq.2 h2 s' K h' hY a' w' (hd (.inl rfl)) vh
    | ret=>exact ⟨hQ,hd⟩
    | exit i=>exact ⟨hQ,hd⟩
    | goto l=>exact ⟨hQ,hd⟩
    | panic ch=>exact ⟨hQ,hd⟩
    | outgrown=>exact ⟨hQ,hd⟩
   ·cases hc
 | .cond x p q,c,hq,hc,s,K,h,hY,a,w,hn,hA=>by
   simp only [eT] at hc
   split at hc
   ·rename_i cx cp cq h1 h2 h3
    cases hc
    simp only [kI,Bool.and_eq_true] at hq
    simp only [vc] at h
    split at h
    ·rename_i t ht
     have hv:a.eval x=.bool t:=by
      obtain ⟨J,ι,S,E⟩:=hA.ex
      have hr:=bg S.store S.env h1
      rw [ht] at hr
      exact hr
     exact wpIn_cond_split hv (fun hh=>jL n0 p cp hq.1 h2 s K (by rw [if_pos hh] at h; exact h) hY a w hn hA) (fun hh=>jL n0 q cq hq.2 h3 s K (by rw [if_neg (by simp [hh])] at h; exact h) hY a w hn hA)
    ·rename_i ht
     obtain ⟨t,hv⟩:∃ t,a.eval x=.bool t:=by
      obtain ⟨J,ι,S,E⟩:=hA.ex
      have hr:=bg S.store S.env h1
      rw [ht] at hr
      exact hr
     exact wpIn_cond_split hv (fun hh=>jL n0 p cp hq.1 h2 s K h.1 hY a w hn hA) (fun hh=>jL n0 q cq hq.2 h3 s K h.2 hY a w hn hA)
    ·exact h.elim
   ·cases hc
 | .ret,c,hq,hc,s,K,h,hY,a,w,hn,hA=>by
   simp only [eT] at hc; cases hc
   exact wpIn_ret ⟨⟨s,hA,h⟩,fun _=>hn⟩
theorem aa7 {f:Nat} {fn:Func} {ir:Nat×C×List RV} {args:List LV} {r:LV} (hf:P.funcs[f]? = some fn) (hn:(fn.name != "runtime.NumGoroutine")=true) (gR:aj P fn=some ir) (hl:Nat.ble args.length ir.1=true) (hid:eN 0 r=true)
  (hq:(match fn.body with | some c=>kI c ir.2.1 | none=>false)=true) (h:W P G (Ends ir.2.2 r) [.c ir.2.1] ⟨fB 0 args,[]⟩) (J0:Nat→Prop) (cu:Nat→Nat→Option Nat) (w0:World) (vs:Array Value) (S0:aJ G J0 w0 cu (aC [])) (hargs:cA J0 w0 cu args vs.toList) :
  Calls P f vs w0 (fun e w'=>∃ v,e=.returned v∧bn G (aC []) (aC []) J0 cu w0 r v w'∧w0.drawn≤w'.drawn):=by
 unfold aj at gR
 split at gR
 ·rename_i code hbody
  split at gR
  ·rename_i c' rv' hc MF
   split at gR
   case isFalse=>cases gR
   rename_i hlim
   cases gR
   rw [hbody] at hq
   simp only [W,Wx] at h
   have hA:=La (n:=fn.ntmps) (aI:=[]) S0 hargs (Nat.le_of_ble_eq_true hl) hlim
   refine (om (ro:=none) (n:=0)).1 (callsIn_of_wp hf hbody trivial (wpIn_mono (jL (D:=Dk.plain [] false) (N:=fn.ntmps) (bx:=aC []) (J0:=J0) (cu:=cu) (w0:=w0) w0.drawn code c' hq hc _ _ h pM.no _ w0 (Nat.le_refl _) hA) (fun e a w hQ=>?_)))
   obtain ⟨hQ,hd⟩:=hQ
   have fin:∀ s,oD G (Dk.plain [] false) fn.ntmps (aC []) J0 cu w0 s a w→Ends rv' r s→w0.drawn≤w.drawn→
     a.defers=[]∧∃ v,(results fn a.tmps).run P w=.ok v w∧∃ v',Ending.returned v=.returned v'∧bn G (aC []) (aC []) J0 cu w0 r v' w∧w0.drawn≤w.drawn:=by
    intro s hA hB hdr
    obtain ⟨J,ι,S,E⟩:=hA.ex
    unfold Ends at hB
    split at hB
    ·rename_i rs CP
     cases hB
     refine ⟨S.defers.none rfl,?_⟩
     obtain ⟨v,hv1,IG⟩:=EA (r:=aV rs) [] S.store S.env S0 E MF CP (fun _ h=>by cases h) (rE _ _ _ _ hid)
     exact ⟨v,hv1,v,rfl,IG,hdr⟩
    ·cases hB
   cases e with
   | normal=>obtain ⟨s,hA,hB⟩:=hQ; exact fin s hA hB (hd (.inl rfl))
   | ret=>obtain ⟨s,hA,hB⟩:=hQ; exact fin s hA hB (hd (.inr rfl))
   | exit i=>obtain ⟨_,s,hA,hB⟩:=hQ; exact hB.elim
   | goto l=>exact hQ.elim
   | panic ch=>obtain ⟨v,s,h1,h2,h3,hk⟩:=hQ; exact hk.elim
   | outgrown=>exact hQ.elim
  ·cases gR
 ·cases gR
end
end Dv
