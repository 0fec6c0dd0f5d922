/-
  DERIVED. GIVEN WITH THE SEED: THE CARDS: each row of YtjabcoodhpefhaaGreatDoorRows.lean that lists a variable, with what it lists TIED to the program's text (the seventh form; the later family's looks); each row that meets fmt, with fmt's text TOLD by the authors' own Lean function (tested against real Go, not proved from fmt's source: count such statements apart). THE CARD IS WHAT COUNTS. Prove the row's statement (the work); the ties are given (YtjabcoodhpefhaaGreatDoorTie.lean); close each card by the builder's one call (the guide's Derived/Test/ToyasCard.lean, 'card_holds'). Laid BY PROGRAM, IN A SANDBOX (cutbox-door.mjs). By AI agents, Wed Nov 11 2026. No macro, syntax, notation, axiom, sorry.
-/
import Derived.Test.YtjabcoodhpefhaaGreatDoorRows
import GoSem.ClaimSeven
namespace Go.Proofs.YtjabcoodhpefhaaGreatDoor
namespace Rows

/-- THE TIED CARD OF 'dunnagelaw22.WorldAgain'. -/
def worldAgainCard : Claim7 := { stood := { row := worldAgainRow, standIns := [], harness := (true, "bf992f13e710efcbfec52b0d7ddcb9b2f87dce8b134f34754bcb09971804c8fa"), looks := true }, kinds := [], alts := [], laidByText := true, laidKinds := [.data, .data, .data, .data], laidTests := true, laidLooks := .later }
def WorldAgainCardSaid : Prop := Claim7.holds Tryz.pinned (.plain (OpenSpec.ofChange worldAgainSpec)) worldAgainCard

/-- THE TIED CARD OF 'dunnagelaw22.WorldDown'. -/
def worldDownCard : Claim7 := { stood := { row := worldDownRow, standIns := [], harness := (true, "bf992f13e710efcbfec52b0d7ddcb9b2f87dce8b134f34754bcb09971804c8fa"), looks := true }, kinds := [], alts := [], laidByText := true, laidKinds := [.data, .data, .data, .data], laidTests := true, laidLooks := .later }
def WorldDownCardSaid : Prop := Claim7.holds Tryz.pinned (.plain (OpenSpec.ofChange worldDownSpec)) worldDownCard

/-- THE TIED CARD OF 'dunnagelaw22.WorldTime'. -/
def worldTimeCard : Claim7 := { stood := { row := worldTimeRow, standIns := [], harness := (true, "bf992f13e710efcbfec52b0d7ddcb9b2f87dce8b134f34754bcb09971804c8fa"), looks := true }, kinds := [], alts := [], laidByText := true, laidKinds := [.data, .data, .data, .data], laidTests := true, laidLooks := .later }
def WorldTimeCardSaid : Prop := Claim7.holds Tryz.pinned (.plain (OpenSpec.ofChange worldTimeSpec)) worldTimeCard

/-- THE SECOND FORM's CARD OF 'dunnagelaw22.WorldAgain'. -/
def worldAgainUptoCard : Claim7 := { stood := { row := worldAgainUptoRow, standIns := [], harness := (true, "bf992f13e710efcbfec52b0d7ddcb9b2f87dce8b134f34754bcb09971804c8fa"), looks := true }, kinds := [], alts := [], laidByText := true, laidKinds := [.data, .data, .data, .data], laidTests := true, laidLooks := .later }
def WorldAgainUptoCardSaid : Prop := Claim7.holds Tryz.pinned (.plain (OpenSpec.upto worldAgainSpec)) worldAgainUptoCard

/-- THE SECOND FORM's CARD OF 'dunnagelaw22.WorldDown'. -/
def worldDownUptoCard : Claim7 := { stood := { row := worldDownUptoRow, standIns := [], harness := (true, "bf992f13e710efcbfec52b0d7ddcb9b2f87dce8b134f34754bcb09971804c8fa"), looks := true }, kinds := [], alts := [], laidByText := true, laidKinds := [.data, .data, .data, .data], laidTests := true, laidLooks := .later }
def WorldDownUptoCardSaid : Prop := Claim7.holds Tryz.pinned (.plain (OpenSpec.upto worldDownSpec)) worldDownUptoCard

/-- THE SECOND FORM's CARD OF 'dunnagelaw22.WorldTime'. -/
def worldTimeUptoCard : Claim7 := { stood := { row := worldTimeUptoRow, standIns := [], harness := (true, "bf992f13e710efcbfec52b0d7ddcb9b2f87dce8b134f34754bcb09971804c8fa"), looks := true }, kinds := [], alts := [], laidByText := true, laidKinds := [.data, .data, .data, .data], laidTests := true, laidLooks := .later }
def WorldTimeUptoCardSaid : Prop := Claim7.holds Tryz.pinned (.plain (OpenSpec.upto worldTimeSpec)) worldTimeUptoCard
end Rows
end Go.Proofs.YtjabcoodhpefhaaGreatDoor
