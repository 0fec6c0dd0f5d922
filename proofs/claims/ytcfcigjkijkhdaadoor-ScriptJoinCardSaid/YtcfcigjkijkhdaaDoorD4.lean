/- The book: stands, sound, Right. -/
import Derived.Test.YtcfcigjkijkhdaaDoorD3
set_option linter.unusedVariables false
set_option linter.unusedSimpArgs false
namespace Dv
open Go Go.Proofs
variable {G : Nat → Option (List DV)}

theorem mayB_spec {c : ConfD} (h : mayB c = true) : 1 ≤ c.nodes ∧ c.nodes ≤ 6 ∧ 1 ≤ c.queues ∧ c.queues ≤ 3 := by
  unfold mayB at h
  simp only [Bool.and_eq_true] at h
  have h1 := within_t h.1.1.1.1.1.1.1.1
  have h2 := within_t h.1.1.1.1.1.1.1.2
  omega
end Dv
