/- ops: the op of bytes. -/
import Derived.Test.YtcfcigjkijkhdaaDoorO1
import Derived.Test.YtcfcigjkijkhdaaDoorI5
set_option linter.unusedVariables false
set_option linter.unusedSimpArgs false
namespace Dv
open Go Go.Proofs
variable {G : Nat → Option (List DV)}


attribute [local go_sem] bytesV

def optOp (q : Option OpD) : LV := .tup [opV (q.getD zeroOp), .bool q.isSome]
def kindOk (k : Int) : Bool := decide (1 ≤ k ∧ k ≤ 21)
def getO (b : List Int) : Option OpD := match getL b 0 7 with
  | none => none
  | some (xs, e) => if e = b.length ∧ 0 < xs.length ∧ kindOk (xs.getD 0 0) = true ∧ xs.length = manyK (xs.getD 0 0) + 1 ∧ opOkB (ofI (xs.getD 0 0) (xs.drop 1)) = true then some (ofI (xs.getD 0 0) (xs.drop 1)) else none
theorem name_eq (k : Int) : ((nameOf k).toList == (⟨#[]⟩ : ByteArray).toList) = !kindOk k := by
  by_cases h : 1 ≤ k ∧ k ≤ 21
  · rw [name_some k h]; unfold kindOk; rw [decide_eq_true h]; rfl
  · rw [name_none k h]; unfold kindOk; rw [decide_eq_false h]; decide +kernel
end Dv
