/- The document's numbers as bytes. -/
import Derived.Test.YtcfcigjkijkhdaaDoorI8
set_option linter.unusedVariables false
set_option linter.unusedSimpArgs false
namespace Dv
open Go Go.Proofs
variable {G : Nat → Option (List DV)}


attribute [local go_sem] u8

/-- the rounds so far: how many, what is left, the bytes. -/
structure NumP where
  i : Nat
  m : Int
  out : List Int
def num1S (p : NumP) : St := ⟨[(0, .int p.m), (3, .sl 0 p.out.length 1 0 p.out.length), (4, .int p.i)], [some (.dat 5 1 (byteR p.out))]⟩
def num1I (n : Int) (p : NumP) : Prop := p.out.length = p.i ∧ 0 ≤ p.m ∧ p.m * 128 ^ p.i ≤ most53 ∧ p.i ≤ 8 ∧
  ((p.i = 0 ∧ p.m = n) ∨ (∃ pre d, p.out = pre ++ [d] ∧ 0 ≤ d ∧ d < 128 ∧ ((p.m = 0 ∧ pre ++ [d] = digs 8 n) ∨ (0 < p.m ∧ pre ++ [d + 128] ++ digs (8 - p.i) p.m = digs 8 n))))

attribute [local go_sem] bytesV
end Dv
