/- part -/
import Derived.Test.YtkalnfkokkjliaaGreatDoorOA
import Derived.Test.YtkalnfkokkjliaaGreatDoorIB
import Derived.Test.YtkalnfkokkjliaaGreatDoorPB
set_option linter.all false
set_option maxRecDepth 100000
namespace Dv
open Go Go.Proofs
variable {G:Nat→Option (List DV)}
attribute [local go_sem] aq
end Dv
namespace Dv
open Go Go.Proofs
theorem Ct:∀ (m:Nat) (l:List Int) (i:Nat),qQ m l i=true→∀ n∈l,0≤n∧n≤1000000
 | m,[],i,_,n,h=>by cases h
 | m,x::l,i,h,n,hn=>by
   simp only [qQ,Bool.and_eq_true] at h
   rcases List.mem_cons.1 hn with rfl | hn
   ·have:=h.1
    unfold pR at this
    rw [Bool.and_eq_true] at this
    exact of_decide_eq_true this.1
   ·exact Ct m l (i+1) h.2 n hn
theorem O9 {o:cB} (h:fc o=true):∀ n∈cL o,0≤n∧n≤1000000:=by
 rw [uK,Bool.and_eq_true] at h
 exact Ct _ _ _ h.2
theorem z_:∀ (m:Nat) (l:List Int) (i:Nat),qQ m l i=true→∀ j,m≤i+j→l.getD j 0=0
 | m,[],i,_,j,_=>rfl
 | m,x::l,i,h,j,hj=>by
   simp only [qQ,Bool.and_eq_true] at h
   cases j with
   | zero=>
     have:=h.1
     rw [decide_eq_false (by omega)] at this
     unfold pR at this
     simp at this
     show x=0
     exact this.2
   | succ j=>exact z_ m l (i+1) h.2 j (by omega)
theorem SA {o:cB} (h:fc o=true):DU o.kind ((cL o).take (ej o.kind))=o:=by
 have h2:=h
 rw [uK,Bool.and_eq_true] at h2
 have hz:∀ j,((cL o).take (ej o.kind)).getD j 0=(cL o).getD j 0:=fun j=>by
  by_cases hj:j<ej o.kind
  ·simp only [List.getD]; rw [List.getElem?_take_of_lt hj]
  ·rw [z_ _ _ 0 h2.2 j (by omega)]
   simp only [List.getD]
   rw [List.getElem?_eq_none (by rw [List.length_take]; omega)]; rfl
 unfold DU
 simp only [hz]
 rfl
theorem Sm {o:cB} (h:fc o=true):fh o=jJ (o.kind::(cL o).take (ej o.kind)):=by unfold fh; rw [if_pos h]
theorem OZ {o:cB} (h:fc o=true):(o.kind::(cL o).take (ej o.kind)).all isNum=true:=by
 have hk:=rU h
 rw [List.all_eq_true]
 intro x hx
 rcases List.mem_cons.1 hx with rfl | hx
 ·exact decide_eq_true ⟨by omega,by unfold eV; omega⟩
 ·have:=O9 h x (List.mem_of_mem_take hx)
  exact decide_eq_true ⟨by omega,by unfold eV; omega⟩
theorem BB (o:cB):((cL o).take (ej o.kind)).length=ej o.kind:=by
 have:=uT o.kind
 rw [List.length_take]; simp [cL]; omega
theorem QV {o:cB} (h:fc o=true):Et (fh o)=some o:=by
 have hk:=rU h
 have hm:=uT o.kind
 have hl:=BB o
 have hL:=Gq (o.kind::(cL o).take (ej o.kind)) [] 7 (OZ h) (by rw [List.length_cons]; omega) (by rw [List.length_cons]; omega)
 rw [List.append_nil,← Sm h] at hL
 unfold Et
 rw [hL]
 have hof:DU o.kind ((cL o).take (ej o.kind))=o:=SA h
 have e1:(o.kind::(cL o).take (ej o.kind)).getD 0 0=o.kind:=rfl
 have e2:(o.kind::(cL o).take (ej o.kind)).drop 1=(cL o).take (ej o.kind):=rfl
 dsimp only
 rw [e1,e2,hof,if_pos]
 exact ⟨rfl,by simp,decide_eq_true hk,by rw [List.length_cons]; omega,h⟩
end Dv
