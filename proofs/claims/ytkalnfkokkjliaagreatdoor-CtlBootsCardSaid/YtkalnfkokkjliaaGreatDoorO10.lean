/- Plain: ops as bytes. -/
import Derived.Test.YtkalnfkokkjliaaGreatDoorO3
import Derived.Test.YtkalnfkokkjliaaGreatDoorOA
import Derived.Test.YtkalnfkokkjliaaGreatDoorPB
set_option linter.unusedVariables false
set_option linter.unusedSimpArgs false
namespace Dv
open Go Go.Proofs
theorem AQ:∀ (m:Nat) (l:List Int) (i:Nat),lP m l i=true→∀ n∈l,0≤n∧n≤1000000
 | m,[],i,_,n,h=>by cases h
 | m,x::l,i,h,n,hn=>by
   simp only [lP,Bool.and_eq_true] at h
   rcases List.mem_cons.1 hn with rfl | hn
   ·have:=h.1
    unfold oJ at this
    rw [Bool.and_eq_true] at this
    exact of_decide_eq_true this.1
   ·exact AQ m l (i+1) h.2 n hn
theorem MB {o:dH} (h:dX o=true):∀ n∈bL o,0≤n∧n≤1000000:=by
 rw [pT,Bool.and_eq_true] at h
 exact AQ _ _ _ h.2
theorem PM (k:Int) (l:List Int) (h:l.length≤6):(bL (o5 k l)).take l.length=l:=by
 match l,h with
 | [],_=>rfl
 | [_],_=>rfl
 | [_,_],_=>rfl
 | [_,_,_],_=>rfl
 | [_,_,_,_],_=>rfl
 | [_,_,_,_,_],_=>rfl
 | [_,_,_,_,_,_],_=>rfl
theorem yu:∀ (m:Nat) (l:List Int) (i:Nat),lP m l i=true→∀ j,m≤i+j→l.getD j 0=0
 | m,[],i,_,j,_=>rfl
 | m,x::l,i,h,j,hj=>by
   simp only [lP,Bool.and_eq_true] at h
   cases j with
   | zero=>
     have:=h.1
     rw [decide_eq_false (by omega)] at this
     unfold oJ at this
     simp at this
     show x=0
     exact this.2
   | succ j=>exact yu m l (i+1) h.2 j (by omega)
theorem PG {o:dH} (h:dX o=true):o5 o.kind ((bL o).take (cq o.kind))=o:=by
 have h2:=h
 rw [pT,Bool.and_eq_true] at h2
 have hz:∀ j,((bL o).take (cq o.kind)).getD j 0=(bL o).getD j 0:=fun j=>by
  by_cases hj:j<cq o.kind
  ·simp only [List.getD]; rw [List.getElem?_take_of_lt hj]
  ·rw [yu _ _ 0 h2.2 j (by omega)]
   simp only [List.getD]
   rw [List.getElem?_eq_none (by rw [List.length_take]; omega)]; rfl
 unfold o5
 simp only [hz]
 rfl
theorem MA (k:Int) (l:List Int):(o5 k l).kind=k:=rfl
theorem HJ {o:dH} (h:dX o=true):dm o=fG (o.kind::(bL o).take (cq o.kind)):=by unfold dm; rw [if_pos h]
theorem Mu {o:dH} (h:dX o=true):(o.kind::(bL o).take (cq o.kind)).all isNum=true:=by
 have hk:=qQ h
 rw [List.all_eq_true]
 intro x hx
 rcases List.mem_cons.1 hx with rfl | hx
 ·exact decide_eq_true ⟨by omega,by unfold dK; omega⟩
 ·have:=MB h x (List.mem_of_mem_take hx)
  exact decide_eq_true ⟨by omega,by unfold dK; omega⟩
theorem zP (o:dH):((bL o).take (cq o.kind)).length=cq o.kind:=by
 have:=ny o.kind
 rw [List.length_take]; simp [bL]; omega
theorem ED {o:dH} (h:dX o=true):oZ (dm o)=some o:=by
 have hk:=qQ h
 have hm:=ny o.kind
 have hl:=zP o
 have hL:=EG (o.kind::(bL o).take (cq o.kind)) [] 7 (Mu h) (by rw [List.length_cons]; omega) (by rw [List.length_cons]; omega)
 rw [List.append_nil,← HJ h] at hL
 unfold oZ
 rw [hL]
 have hof:o5 o.kind ((bL o).take (cq o.kind))=o:=PG h
 have e1:(o.kind::(bL o).take (cq o.kind)).getD 0 0=o.kind:=rfl
 have e2:(o.kind::(bL o).take (cq o.kind)).drop 1=(bL o).take (cq o.kind):=rfl
 dsimp only
 rw [e1,e2,hof,if_pos]
 exact ⟨rfl,by simp,decide_eq_true hk,by rw [List.length_cons]; omega,h⟩
theorem Kz {b:List Int} (hb:∀ c∈b,0≤c∧c≤255) {o:dH} (h:oZ b=some o):dX o=true∧dm o=b:=by
 unfold oZ at h
 cases hL:kn b 0 7 with
 | none=>rw [hL] at h; cases h
 | some xe=>
 obtain ⟨xs,e⟩:=xe
 rw [hL] at h
 dsimp only at h
 obtain ⟨h1,h2,h3,h4⟩:=Bl hb hL
 split at h
 ·rename_i hc
  obtain ⟨c1,c2,c3,c4,c5⟩:=hc
  have h:=Option.some.inj h
  subst h
  refine ⟨c5,?_⟩
  rw [HJ c5]
  match xs,c2 with
  | x::l,_=>
  have e1:(x::l).getD 0 0=x:=rfl
  have e2:(x::l).drop 1=l:=rfl
  rw [e1] at c4 ⊢
  rw [e2,MA]
  have hl:l.length=cq x:=by rw [List.length_cons] at c4; omega
  have hm:=ny x
  rw [← hl,PM x l (by omega),h2,c1,List.take_length]
 ·cases h
theorem PB {o:dH} (h:dX o=true):dm o≠[]:=by
 intro he
 have:=ED h
 rw [he] at this
 cases this
theorem PA {o:dH} (h:dm o≠[]):dX o=true:=by
 unfold dm at h
 split at h
 ·assumption
 ·exact absurd rfl h
theorem NZ {b:List Int} (hb:∀ c∈b,0≤c∧c≤255):uf b=oZ b:=by
 have h1:∀ o,uf b=some o→oZ b=some o:=fun o h=>by
  unfold uf at h
  cases hL:kn b 0 7 with
  | none=>rw [hL] at h; cases h
  | some xe=>
  obtain ⟨xs,e⟩:=xe
  rw [hL] at h
  dsimp only at h
  split at h
  ·rename_i hc
   have h:=Option.some.inj h
   rw [h] at hc
   have:=ED (PA hc.2.1)
   rw [hc.2.2] at this
   exact this
  ·cases h
 have h2:∀ o,oZ b=some o→uf b=some o:=fun o h=>by
  obtain ⟨g1,g2⟩:=Kz hb h
  have g3:=PB g1
  unfold oZ at h
  unfold uf
  cases hL:kn b 0 7 with
  | none=>rw [hL] at h; cases h
  | some xe=>
  obtain ⟨xs,e⟩:=xe
  rw [hL] at h
  dsimp only at h ⊢
  split at h
  ·rename_i hc
   have h:=Option.some.inj h
   rw [h,if_pos ⟨hc.2.1,g3,g2⟩]
  ·cases h
 cases hq:uf b with
 | some o=>exact (h1 o hq).symm
 | none=>
   cases Cz:oZ b with
   | none=>rfl
   | some o=>rw [h2 o Cz] at hq; cases hq
end Dv
