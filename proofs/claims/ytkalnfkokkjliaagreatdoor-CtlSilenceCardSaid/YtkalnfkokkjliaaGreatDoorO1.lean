/- ops: an op out of a kind and numbers; its bytes. -/
import Derived.Test.YtkalnfkokkjliaaGreatDoorDA
import Derived.Test.YtkalnfkokkjliaaGreatDoorI8
import Derived.Test.YtkalnfkokkjliaaGreatDoorVD
set_option linter.unusedVariables false
set_option linter.unusedSimpArgs false
namespace Dv
open Go Go.Proofs
variable {G : Nat → Option (List DV)}

def ir203 : Nat × C × List RV := (19,
(.seq (.reg [qo 1 (.box 37 (.t 0)),
 qo 2 (.mv (.c (.val (.slice none 0 0))))])
 (.seq (.seq (.reg [qo 4 (.ldn 7 (.t 1)),
 qo 5 (.call (.f 72) [(.t 4)]),
 qo 6 (.not (.t 5))])
 (.cond (.t 6) (.seq (.reg [qo 2 (.mv (.c (.val (.slice none 0 0))))])
 .ret)
 .skip))
 (.seq (.reg [qo 7 (.ldn 7 (.t 1)),
 qo 8 (.call (.f 142) [(.t 7)]),
 qo 3 (.new 236 [q0,q0,q0,q0,q0,q0]),
 qn (.st 6 (.t 3) (.t 8))])
 (.seq (.regD [qo 9 (.fad 0 (.t 1)),
 qd 10 (.ld1 (.t 9)) [0],
 qd 11 (.bsl 3 1 [(.t 10)]) [1,0],
 qo 12 (.fad 0 (.t 1)),
 qd 13 (.ld1 (.t 12)) [3],
 qd 14 (.ixr 22 1 (.g 0) (.t 13)) [4,3],
 qd 15 (.ld1 (.t 14)) [5,4,3],
 qd 16 (.more (.sla 6 (.t 3) none (some (.t 15)))) [6,5,4,3],
 qd 17 (.app 3 1 8 (.t 11) (.t 16)) [2,1,0,7,6,5,4,3],
 qd 18 (.call (.f 251) [(.t 17)]) [8,2,1,0,7,6,5,4,3],
 qd 2 (.mv (.t 18)) [9,8,2,1,0,7,6,5,4,3]])
 .ret)))),
[(.t 2)])
theorem irOk203 : convFn Tryz.prog Tryz.f203 = some ir203 := by kernel_rfl

attribute [local go_sem] numR bytesV

def putO (o : OpD) : List Int := if opOkB o = true then listB (o.kind :: (numsL o).take (manyK o.kind)) else []
theorem manyK_le (k : Int) : manyK k ≤ 6 := by unfold manyK; split <;> (try split) <;> (try split) <;> omega
theorem opOk_kind {o : OpD} (h : opOkB o = true) : 1 ≤ o.kind ∧ o.kind ≤ 21 := by
  rw [opOkB_eq, Bool.and_eq_true] at h
  exact of_decide_eq_true h.1
set_option maxHeartbeats 1000000 in
theorem oput_tri (o : OpD) : Tri Tryz.prog bookG 203 [opV o] [] (bytesV (putO o)) [] := by
  refine tri_W Tryz.func203 (by decide) irOk203 (Nat.le_of_ble_eq_true rfl) ?_
  simp only [ir203,go_sem,simprocAttr]
  refine W_calld (opsRight_tri o) rfl rfl rfl rfl ?_; simp only [go_sem,simprocAttr]
  cases hr : opOkB o with
  | false =>
    have hp : putO o = [] := by unfold putO; rw [if_neg (by rw [hr]; decide)]
    simp only [hp,go_sem,simprocAttr]
    exact Back0 rfl (by simp [oneOr,argR,bytesV,byteR,St.get,getE])
  | true =>
  have hk := opOk_kind hr
  have hp : putO o = listB (o.kind :: (numsL o).take (manyK o.kind)) := by unfold putO; rw [if_pos hr]
  simp only [go_sem,simprocAttr]
  refine W_calld (row_tri o) rfl rfl rfl rfl ?_
  have hk0 : 0 ≤ o.kind := by omega
  have hk1 : o.kind.toNat < 22 := by omega
  have hm := manyK_le o.kind
  simp only [numsL,bookG_many,hk0,hk1,Nat.mul_one,many_at o.kind hk,go_sem,simprocAttr]
  have hml : (numsL o).length = 6 := rfl
  generalize manyK o.kind = m at *
  have h7 : m = 0 ∨ m = 1 ∨ m = 2 ∨ m = 3 ∨ m = 4 ∨ m = 5 ∨ m = 6 := by omega
  rcases h7 with rfl | rfl | rfl | rfl | rfl | rfl | rfl
  · simp only [Nat.le_refl,Nat.zero_le,Nat.sub_zero,Nat.reduceLeDiff,List.length_append,and_self,go_sem,simprocAttr]
    rw [hp]
    refine WD_callf [2] (list_tri (o.kind :: (numsL o).take 0) (by simp [numsL])) rfl (by simp [argRs,argR,rowsAt,objL,numsL,go_sem,simprocAttr]) (by simp [objL]) rfl ?_; simp only [go_sem,simprocAttr]
    refine W_opsD_end (by decide) ?_
    simp only [go_sem,simprocAttr]
    exact BackS (objs' := []) ⟨rfl, rfl⟩ rfl rfl rfl
  · simp only [Nat.le_refl,Nat.zero_le,Nat.sub_zero,Nat.reduceLeDiff,List.length_append,and_self,go_sem,simprocAttr]
    rw [hp]
    refine WD_callf [2] (list_tri (o.kind :: (numsL o).take 1) (by simp [numsL])) rfl (by simp [argRs,argR,rowsAt,objL,numsL,go_sem,simprocAttr]) (by simp [objL]) rfl ?_; simp only [go_sem,simprocAttr]
    refine W_opsD_end (by decide) ?_
    simp only [go_sem,simprocAttr]
    exact BackS (objs' := []) ⟨rfl, rfl⟩ rfl rfl rfl
  · simp only [Nat.le_refl,Nat.zero_le,Nat.sub_zero,Nat.reduceLeDiff,List.length_append,and_self,go_sem,simprocAttr]
    rw [hp]
    refine WD_callf [2] (list_tri (o.kind :: (numsL o).take 2) (by simp [numsL])) rfl (by simp [argRs,argR,rowsAt,objL,numsL,go_sem,simprocAttr]) (by simp [objL]) rfl ?_; simp only [go_sem,simprocAttr]
    refine W_opsD_end (by decide) ?_
    simp only [go_sem,simprocAttr]
    exact BackS (objs' := []) ⟨rfl, rfl⟩ rfl rfl rfl
  · simp only [Nat.le_refl,Nat.zero_le,Nat.sub_zero,Nat.reduceLeDiff,List.length_append,and_self,go_sem,simprocAttr]
    rw [hp]
    refine WD_callf [2] (list_tri (o.kind :: (numsL o).take 3) (by simp [numsL])) rfl (by simp [argRs,argR,rowsAt,objL,numsL,go_sem,simprocAttr]) (by simp [objL]) rfl ?_; simp only [go_sem,simprocAttr]
    refine W_opsD_end (by decide) ?_
    simp only [go_sem,simprocAttr]
    exact BackS (objs' := []) ⟨rfl, rfl⟩ rfl rfl rfl
  · simp only [Nat.le_refl,Nat.zero_le,Nat.sub_zero,Nat.reduceLeDiff,List.length_append,and_self,go_sem,simprocAttr]
    rw [hp]
    refine WD_callf [2] (list_tri (o.kind :: (numsL o).take 4) (by simp [numsL])) rfl (by simp [argRs,argR,rowsAt,objL,numsL,go_sem,simprocAttr]) (by simp [objL]) rfl ?_; simp only [go_sem,simprocAttr]
    refine W_opsD_end (by decide) ?_
    simp only [go_sem,simprocAttr]
    exact BackS (objs' := []) ⟨rfl, rfl⟩ rfl rfl rfl
  · simp only [Nat.le_refl,Nat.zero_le,Nat.sub_zero,Nat.reduceLeDiff,List.length_append,and_self,go_sem,simprocAttr]
    rw [hp]
    refine WD_callf [2] (list_tri (o.kind :: (numsL o).take 5) (by simp [numsL])) rfl (by simp [argRs,argR,rowsAt,objL,numsL,go_sem,simprocAttr]) (by simp [objL]) rfl ?_; simp only [go_sem,simprocAttr]
    refine W_opsD_end (by decide) ?_
    simp only [go_sem,simprocAttr]
    exact BackS (objs' := []) ⟨rfl, rfl⟩ rfl rfl rfl
  · simp only [Nat.le_refl,Nat.zero_le,Nat.sub_zero,Nat.reduceLeDiff,List.length_append,and_self,go_sem,simprocAttr]
    rw [hp]
    refine WD_callf [2] (list_tri (o.kind :: (numsL o).take 6) (by simp [numsL])) rfl (by simp [argRs,argR,rowsAt,objL,numsL,go_sem,simprocAttr]) (by simp [objL]) rfl ?_; simp only [go_sem,simprocAttr]
    refine W_opsD_end (by decide) ?_
    simp only [go_sem,simprocAttr]
    exact BackS (objs' := []) ⟨rfl, rfl⟩ rfl rfl rfl
end Dv
