/- A silent fleet: nothing is planned, and nothing told, reckoned by the kernel. -/
import Derived.Test.YtkalnfkokkjliaaGreatDoorCC
set_option linter.unusedVariables false
set_option linter.unusedSimpArgs false
namespace Dv
open Go Go.Proofs

set_option maxRecDepth 100000 in
theorem sil_1 (c : ConfD) (now : Int) : (List.range 2).all (silIs c now 1) = true := by kernel_rfl
set_option maxRecDepth 100000 in
theorem sil_2 (c : ConfD) (now : Int) : (List.range 3).all (silIs c now 2) = true := by kernel_rfl
set_option maxRecDepth 100000 in
theorem sil_3 (c : ConfD) (now : Int) : (List.range 4).all (silIs c now 3) = true := by kernel_rfl
set_option maxRecDepth 100000 in
theorem sil_4 (c : ConfD) (now : Int) : (List.range 5).all (silIs c now 4) = true := by kernel_rfl
set_option maxRecDepth 100000 in
theorem sil_5 (c : ConfD) (now : Int) : (List.range 6).all (silIs c now 5) = true := by kernel_rfl
set_option maxRecDepth 100000 in
theorem sil_6 (c : ConfD) (now : Int) : (List.range 7).all (silIs c now 6) = true := by kernel_rfl
theorem sil_all (c : ConfD) (now : Int) {n d : Nat} (hn : 1 ≤ n ∧ n ≤ 6) (hd : d ≤ n) : silIs c now n d = true := by
  have hm : d ∈ List.range (n + 1) := List.mem_range.2 (by omega)
  rcases (show n = 1 ∨ n = 2 ∨ n = 3 ∨ n = 4 ∨ n = 5 ∨ n = 6 by omega) with rfl | rfl | rfl | rfl | rfl | rfl
  · exact List.all_eq_true.1 (sil_1 c now) d hm
  · exact List.all_eq_true.1 (sil_2 c now) d hm
  · exact List.all_eq_true.1 (sil_3 c now) d hm
  · exact List.all_eq_true.1 (sil_4 c now) d hm
  · exact List.all_eq_true.1 (sil_5 c now) d hm
  · exact List.all_eq_true.1 (sil_6 c now) d hm
theorem silPlan_tri (c : ConfD) (now : Int) {n d : Nat} (hn : 1 ≤ n ∧ n ≤ 6) (hd : d ≤ n) : Tri Tryz.prog tabF 200 [confV c, stateV (quietS n d), .int now] [] noneV [] := by
  have h := sil_all c now hn hd
  unfold silIs at h
  rw [Bool.and_eq_true] at h
  exact runIs_tri h.1
theorem silFacts_tri (now : Int) {n d : Nat} (hn : 1 ≤ n ∧ n ≤ 6) (hd : d ≤ n) : Tri Tryz.prog tabF 199 [stateV (quietS n d), msgsV (reps0 n), .int now] [] noneV [] := by
  have h := sil_all ⟨0, 0, 0, 0, 0, 0, 0, 0, 0⟩ now hn hd
  unfold silIs at h
  rw [Bool.and_eq_true] at h
  exact runIs_tri h.2
end Dv
