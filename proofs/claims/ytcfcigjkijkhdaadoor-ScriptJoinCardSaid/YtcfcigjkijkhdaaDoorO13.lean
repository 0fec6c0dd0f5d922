/- The ops' statements: the document's example; bytes; words. -/
import Derived.Test.YtcfcigjkijkhdaaDoorO12
import Derived.Test.YtcfcigjkijkhdaaDoorI11
set_option linter.unusedVariables false
set_option linter.unusedSimpArgs false
namespace Dv
open Go Go.Proofs
variable {G : Nat → Option (List DV)}


attribute [local go_sem] u8 bytesV optOp

/-- what the tables are. -/
structure OG (G : Nat → Option (List DV)) : Prop where
  b : ∀ g row, bookG g = some row → G g = some row
  p : G 3 = some powR
  m : ∃ m : Int, G 2 = some [.val (.int .i64 m)]
theorem OG.name (h : OG G) (k : Int) : Tri Tryd.prog G 43 [.int k] [] (.d (.val (.string (nameOf k)))) [] := (name_tri k).up h.b
theorem OG.right (h : OG G) (o : OpD) : Tri Tryd.prog G 28 [opV o] [] (.bool (opOkB o)) [] := (opsRight_tri o).up h.b
theorem OG.text (h : OG G) (o : OpD) : Tri Tryd.prog G 32 [opV o] [] (.d (.val (.string (textO o)))) [] := text_tri h.b h.p o
theorem OG.parse (h : OG G) (s : ByteArray) (hs : s.size ≤ 1000000) : Tri Tryd.prog G 40 [.d (.val (.string s))] [] (optOp (parseO s)) [] := by
  obtain ⟨m, hm⟩ := h.m
  exact parse_tri h.b m hm s hs

def aliveO : OpD := ⟨9, 1, 3, 0, 0, 0, 0⟩
def aliveOB : List Int := [3, 9, 1, 3]
def aliveOT : ByteArray := ⟨#[104, 111, 108, 100, 32, 49, 32, 51]⟩
theorem aliveO_ok : opOkB aliveO = true := by decide
theorem aliveO_put : putO aliveO = aliveOB := by decide
theorem aliveO_get : getO aliveOB = some aliveO := by rw [← aliveO_put]; exact getO_put aliveO_ok
theorem aliveO_text : textO aliveO = aliveOT := by
  unfold textO
  rw [if_pos aliveO_ok]
  have e : (numsL aliveO).take (manyK aliveO.kind) = [1, 3] := by decide
  rw [e]
  simp only [textL, itoaB_lt 1 (by decide) (by decide), itoaB_lt 3 (by decide) (by decide)]
  decide +kernel
theorem aliveO_parse : parseO aliveOT = some aliveO := by rw [← aliveO_text]; exact parseO_text aliveO_ok
theorem zeroO_bad : opOkB ⟨0, 0, 0, 0, 0, 0, 0⟩ = false := by decide
end Dv
