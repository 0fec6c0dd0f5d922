/- part -/
import Derived.Test.YtkalnfkokkjliaaGreatDoorOA
import Derived.Test.YtkalnfkokkjliaaGreatDoorIB
import Derived.Test.YtkalnfkokkjliaaGreatDoorPB
set_option linter.all false
set_option maxRecDepth 100000
namespace Dv
open Go Go.Proofs
variable {G:Nat→Option (List DV)}
attribute [local go_sem] aq
end Dv
namespace Dv
open Go Go.Proofs
theorem B_:∀ (m:Nat) (l:List Int) (i:Nat),qI m l i=true→∀ n∈l,0≤n∧n≤1000000
 | m,[],i,_,n,h=>by cases h
 | m,x::l,i,h,n,hn=>by
   simp only [qI,Bool.and_eq_true] at h
   rcases List.mem_cons.1 hn with rfl | hn
   ·have:=h.1
    unfold pK at this
    rw [Bool.and_eq_true] at this
    exact of_decide_eq_true this.1
   ·exact B_ m l (i+1) h.2 n hn
theorem OP {o:cA} (h:eY o=true):∀ n∈cE o,0≤n∧n≤1000000:=by
 rw [uw,Bool.and_eq_true] at h
 exact B_ _ _ _ h.2
theorem zC:∀ (m:Nat) (l:List Int) (i:Nat),qI m l i=true→∀ j,m≤i+j→l.getD j 0=0
 | m,[],i,_,j,_=>rfl
 | m,x::l,i,h,j,hj=>by
   simp only [qI,Bool.and_eq_true] at h
   cases j with
   | zero=>
     have:=h.1
     rw [decide_eq_false (by omega)] at this
     unfold pK at this
     simp at this
     show x=0
     exact this.2
   | succ j=>exact zC m l (i+1) h.2 j (by omega)
theorem Sj {o:cA} (h:eY o=true):DF o.kind ((cE o).take (ec o.kind))=o:=by
 have h2:=h
 rw [uw,Bool.and_eq_true] at h2
 have hz:∀ j,((cE o).take (ec o.kind)).getD j 0=(cE o).getD j 0:=fun j=>by
  by_cases hj:j<ec o.kind
  ·simp only [List.getD]; rw [List.getElem?_take_of_lt hj]
  ·rw [zC _ _ 0 h2.2 j (by omega)]
   simp only [List.getD]
   rw [List.getElem?_eq_none (by rw [List.length_take]; omega)]; rfl
 unfold DF
 simp only [hz]
 rfl
theorem R8 {o:cA} (h:eY o=true):gC o=jF (o.kind::(cE o).take (ec o.kind)):=by unfold gC; rw [if_pos h]
theorem OI {o:cA} (h:eY o=true):(o.kind::(cE o).take (ec o.kind)).all isNum=true:=by
 have hk:=rM h
 rw [List.all_eq_true]
 intro x hx
 rcases List.mem_cons.1 hx with rfl | hx
 ·exact decide_eq_true ⟨by omega,by unfold eT; omega⟩
 ·have:=OP h x (List.mem_of_mem_take hx)
  exact decide_eq_true ⟨by omega,by unfold eT; omega⟩
theorem Ba (o:cA):((cE o).take (ec o.kind)).length=ec o.kind:=by
 have:=uF o.kind
 rw [List.length_take]; simp [cE]; omega
theorem Qx {o:cA} (h:eY o=true):Ed (gC o)=some o:=by
 have hk:=rM h
 have hm:=uF o.kind
 have hl:=Ba o
 have hL:=Ga (o.kind::(cE o).take (ec o.kind)) [] 7 (OI h) (by rw [List.length_cons]; omega) (by rw [List.length_cons]; omega)
 rw [List.append_nil,← R8 h] at hL
 unfold Ed
 rw [hL]
 have hof:DF o.kind ((cE o).take (ec o.kind))=o:=Sj h
 have e1:(o.kind::(cE o).take (ec o.kind)).getD 0 0=o.kind:=rfl
 have e2:(o.kind::(cE o).take (ec o.kind)).drop 1=(cE o).take (ec o.kind):=rfl
 dsimp only
 rw [e1,e2,hof,if_pos]
 exact ⟨rfl,by simp,decide_eq_true hk,by rw [List.length_cons]; omega,h⟩
end Dv
