/- The book's Apply is the document's, of every state that may be. -/
import Derived.Test.YtkalnfkokkjliaaGreatDoorD19
set_option linter.unusedVariables false
set_option linter.unusedSimpArgs false
namespace Dv

theorem job_of {c : ConfD} {s : StateD} (h : RightP c s) {a : Int} (ha : 1 ≤ a ∧ a ≤ s.jobs.length) : ∃ k : Nat, a = k + 1 ∧ (a - 1).toNat = k ∧ k < s.jobs.length ∧ jobA s a = joA s k :=
  ⟨(a - 1).toNat, by omega, rfl, by omega, rfl⟩
theorem node_of {s : StateD} {a : Int} (ha : 0 ≤ a ∧ a < s.nodes.length) : ∃ i : Nat, a = i ∧ a.toNat = i ∧ i < s.nodes.length ∧ nodeA s a = noA s i :=
  ⟨a.toNat, by omega, rfl, by omega, rfl⟩
theorem bits_of {c : ConfD} {s : StateD} (h : RightP c s) {k : Nat} (hk : k < s.jobs.length) : 0 ≤ (joA s k).nodes ∧ (joA s k).nodes < 64 := (right_ok ((right_iff c s).2 h)).bits hk

end Dv
