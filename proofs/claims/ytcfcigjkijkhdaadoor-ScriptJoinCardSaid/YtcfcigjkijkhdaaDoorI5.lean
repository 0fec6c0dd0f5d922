/- code: a list out of bytes. -/
import Derived.Test.YtcfcigjkijkhdaaDoorI0
set_option linter.unusedVariables false
set_option linter.unusedSimpArgs false
namespace Dv
open Go Go.Proofs
variable {G : Nat → Option (List DV)}
attribute [local go_sem] numRes



def rdBox (b : List Int) (p : Nat) (k : Bool) : List LObj := [.box 62 [bytesV b], .box 3 [.int p], .box 4 [.bool k]]
attribute [local go_sem] rdBox bytesV
attribute [local simp] rdBox
def glRes : Option (List Int × Nat) → LV
  | none => .tup [.d (.val (.slice none 0 0)), .int 0, .bool false]
  | some (xs, e) => .tup [.sl 0 xs.length 1 0 xs.length, .int e, .bool true]
def glObj : Option (List Int × Nat) → List LObj
  | none => []
  | some (xs, e) => [.dat 3 1 (numR xs)]

end Dv
