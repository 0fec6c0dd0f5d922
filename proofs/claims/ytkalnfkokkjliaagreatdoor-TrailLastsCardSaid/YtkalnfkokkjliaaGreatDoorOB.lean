/- part -/
import Derived.Test.YtkalnfkokkjliaaGreatDoorOA
import Derived.Test.YtkalnfkokkjliaaGreatDoorIB
import Derived.Test.YtkalnfkokkjliaaGreatDoorPB
set_option linter.all false
set_option maxRecDepth 100000
namespace Dv
open Go Go.Proofs
variable {G:Nat→Option (List DV)}
attribute [local go_sem] ak
end Dv
namespace Dv
open Go Go.Proofs
theorem BL:∀ (m:Nat) (l:List Int) (i:Nat),qh m l i=true→∀ n∈l,0≤n∧n≤1000000
 | m,[],i,_,n,h=>by cases h
 | m,x::l,i,h,n,hn=>by
   simp only [qh,Bool.and_eq_true] at h
   rcases List.mem_cons.1 hn with rfl | hn
   ·have:=h.1
    unfold oS at this
    rw [Bool.and_eq_true] at this
    exact of_decide_eq_true this.1
   ·exact BL m l (i+1) h.2 n hn
theorem Oe {o:bT} (h:eP o=true):∀ n∈cB o,0≤n∧n≤1000000:=by
 rw [uf,Bool.and_eq_true] at h
 exact BL _ _ _ h.2
theorem zg:∀ (m:Nat) (l:List Int) (i:Nat),qh m l i=true→∀ j,m≤i+j→l.getD j 0=0
 | m,[],i,_,j,_=>rfl
 | m,x::l,i,h,j,hj=>by
   simp only [qh,Bool.and_eq_true] at h
   cases j with
   | zero=>
     have:=h.1
     rw [decide_eq_false (by omega)] at this
     unfold oS at this
     simp at this
     show x=0
     exact this.2
   | succ j=>exact zg m l (i+1) h.2 j (by omega)
theorem RH {o:bT} (h:eP o=true):C8 o.kind ((cB o).take (dX o.kind))=o:=by
 have h2:=h
 rw [uf,Bool.and_eq_true] at h2
 have hz:∀ j,((cB o).take (dX o.kind)).getD j 0=(cB o).getD j 0:=fun j=>by
  by_cases hj:j<dX o.kind
  ·simp only [List.getD]; rw [List.getElem?_take_of_lt hj]
  ·rw [zg _ _ 0 h2.2 j (by omega)]
   simp only [List.getD]
   rw [List.getElem?_eq_none (by rw [List.length_take]; omega)]; rfl
 unfold C8
 simp only [hz]
 rfl
theorem Ru {o:bT} (h:eP o=true):gw o=jt (o.kind::(cB o).take (dX o.kind)):=by unfold gw; rw [if_pos h]
theorem NZ {o:bT} (h:eP o=true):(o.kind::(cB o).take (dX o.kind)).all isNum=true:=by
 have hk:=qY h
 rw [List.all_eq_true]
 intro x hx
 rcases List.mem_cons.1 hx with rfl | hx
 ·exact decide_eq_true ⟨by omega,by unfold eF; omega⟩
 ·have:=Oe h x (List.mem_of_mem_take hx)
  exact decide_eq_true ⟨by omega,by unfold eF; omega⟩
theorem AS (o:bT):((cB o).take (dX o.kind)).length=dX o.kind:=by
 have:=ur o.kind
 rw [List.length_take]; simp [cB]; omega
theorem PM {o:bT} (h:eP o=true):A7 (gw o)=some o:=by
 have hk:=qY h
 have hm:=ur o.kind
 have hl:=AS o
 have hL:=FA (o.kind::(cB o).take (dX o.kind)) [] 7 (NZ h) (by rw [List.length_cons]; omega) (by rw [List.length_cons]; omega)
 rw [List.append_nil,← Ru h] at hL
 unfold A7
 rw [hL]
 have hof:C8 o.kind ((cB o).take (dX o.kind))=o:=RH h
 have e1:(o.kind::(cB o).take (dX o.kind)).getD 0 0=o.kind:=rfl
 have e2:(o.kind::(cB o).take (dX o.kind)).drop 1=(cB o).take (dX o.kind):=rfl
 dsimp only
 rw [e1,e2,hof,if_pos]
 exact ⟨rfl,by simp,decide_eq_true hk,by rw [List.length_cons]; omega,h⟩
end Dv
