/-
  DERIVED. GIVEN WITH THE SEED: THE CARDS: each row of YtbhdfmgphcelhaaDoorRows.lean that lists a variable, with what it lists TIED to the program's text (the seventh form; the later family's looks); each row that meets fmt, with fmt's text TOLD by the authors' own Lean function (tested against real Go, not proved from fmt's source: count such statements apart). THE CARD IS WHAT COUNTS. Prove the row's statement (the work); the ties are given (YtbhdfmgphcelhaaDoorTie.lean); close each card by the builder's one call (the guide's Derived/Test/ToyasCard.lean, 'card_holds'). Laid BY PROGRAM, IN A SANDBOX (cutbox-door.mjs). By AI agents, Wed Nov 11 2026. No macro, syntax, notation, axiom, sorry.
-/
import Derived.Test.YtbhdfmgphcelhaaDoorRows
import GoSem.ClaimSeven
namespace Go.Proofs.YtbhdfmgphcelhaaDoor
namespace Rows

/-- THE TIED CARD OF 'dunnagelaw10.ImageTwo'. -/
def imageTwoCard : Claim7 := { stood := { row := imageTwoRow, standIns := [], harness := (true, "3e8ae9bdf11ac21f4fec550f37652ab86250eef153cedffce6dd5b20344b4bc4"), looks := true }, kinds := [], alts := [], laidByText := true, laidKinds := [.data, .data], laidTests := true, laidLooks := .later }
def ImageTwoCardSaid : Prop := Claim7.holds Tryd.pinned (.plain (OpenSpec.ofChange imageTwoSpec)) imageTwoCard

/-- THE SECOND FORM's CARD OF 'dunnagelaw10.ImageTwo'. -/
def imageTwoUptoCard : Claim7 := { stood := { row := imageTwoUptoRow, standIns := [], harness := (true, "3e8ae9bdf11ac21f4fec550f37652ab86250eef153cedffce6dd5b20344b4bc4"), looks := true }, kinds := [], alts := [], laidByText := true, laidKinds := [.data, .data], laidTests := true, laidLooks := .later }
def ImageTwoUptoCardSaid : Prop := Claim7.holds Tryd.pinned (.plain (OpenSpec.upto imageTwoSpec)) imageTwoUptoCard
end Rows
end Go.Proofs.YtbhdfmgphcelhaaDoor
