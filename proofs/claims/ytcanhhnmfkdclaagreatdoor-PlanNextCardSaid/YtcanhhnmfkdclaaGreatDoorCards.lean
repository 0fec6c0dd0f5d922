/-
  DERIVED. GIVEN WITH THE SEED: THE CARDS: each row of YtcanhhnmfkdclaaGreatDoorRows.lean that lists a variable, with what it lists TIED to the program's text (the seventh form; the later family's looks); each row that meets fmt, with fmt's text TOLD by the authors' own Lean function (tested against real Go, not proved from fmt's source: count such statements apart). THE CARD IS WHAT COUNTS. Prove the row's statement (the work); the ties are given (YtcanhhnmfkdclaaGreatDoorTie.lean); close each card by the builder's one call (the guide's Derived/Test/ToyasCard.lean, 'card_holds'). Laid BY PROGRAM, IN A SANDBOX (cutbox-door.mjs). By AI agents, Wed Nov 11 2026. No macro, syntax, notation, axiom, sorry.
-/
import Derived.Test.YtcanhhnmfkdclaaGreatDoorRows
import GoSem.ClaimSeven
namespace Go.Proofs.YtcanhhnmfkdclaaGreatDoor
namespace Rows

/-- THE TIED CARD OF 'dunnagelaw18.PlanNext'. -/
def planNextCard : Claim7 := { stood := { row := planNextRow, standIns := [], harness := (true, "f08d023409ad8c25e74f377cb8e26018ac72ab5b329754d6c26bcdc399003e0d"), looks := false }, kinds := [], alts := [], laidByText := true, laidKinds := [.data, .data], laidTests := true, laidLooks := .later }
def PlanNextCardSaid : Prop := Claim7.holds Tryz.pinned (.plain (OpenSpec.ofChange planNextSpec)) planNextCard

/-- THE TIED CARD OF 'dunnagelaw18.PlanRuns'. -/
def planRunsCard : Claim7 := { stood := { row := planRunsRow, standIns := [], harness := (true, "f08d023409ad8c25e74f377cb8e26018ac72ab5b329754d6c26bcdc399003e0d"), looks := false }, kinds := [], alts := [], laidByText := true, laidKinds := [.data, .data], laidTests := true, laidLooks := .later }
def PlanRunsCardSaid : Prop := Claim7.holds Tryz.pinned (.plain (OpenSpec.ofChange planRunsSpec)) planRunsCard

/-- THE TIED CARD OF 'dunnagelaw18.PlanParts'. -/
def planPartsCard : Claim7 := { stood := { row := planPartsRow, standIns := [], harness := (true, "f08d023409ad8c25e74f377cb8e26018ac72ab5b329754d6c26bcdc399003e0d"), looks := false }, kinds := [], alts := [], laidByText := true, laidKinds := [.data, .data], laidTests := true, laidLooks := .later }
def PlanPartsCardSaid : Prop := Claim7.holds Tryz.pinned (.plain (OpenSpec.ofChange planPartsSpec)) planPartsCard

/-- THE TIED CARD OF 'dunnagelaw18.PlanKeeps'. -/
def planKeepsCard : Claim7 := { stood := { row := planKeepsRow, standIns := [], harness := (true, "f08d023409ad8c25e74f377cb8e26018ac72ab5b329754d6c26bcdc399003e0d"), looks := false }, kinds := [], alts := [], laidByText := true, laidKinds := [.data, .data], laidTests := true, laidLooks := .later }
def PlanKeepsCardSaid : Prop := Claim7.holds Tryz.pinned (.plain (OpenSpec.ofChange planKeepsSpec)) planKeepsCard

/-- THE SECOND FORM's CARD OF 'dunnagelaw18.PlanNext'. -/
def planNextUptoCard : Claim7 := { stood := { row := planNextUptoRow, standIns := [], harness := (true, "f08d023409ad8c25e74f377cb8e26018ac72ab5b329754d6c26bcdc399003e0d"), looks := false }, kinds := [], alts := [], laidByText := true, laidKinds := [.data, .data], laidTests := true, laidLooks := .later }
def PlanNextUptoCardSaid : Prop := Claim7.holds Tryz.pinned (.plain (OpenSpec.upto planNextSpec)) planNextUptoCard

/-- THE SECOND FORM's CARD OF 'dunnagelaw18.PlanRuns'. -/
def planRunsUptoCard : Claim7 := { stood := { row := planRunsUptoRow, standIns := [], harness := (true, "f08d023409ad8c25e74f377cb8e26018ac72ab5b329754d6c26bcdc399003e0d"), looks := false }, kinds := [], alts := [], laidByText := true, laidKinds := [.data, .data], laidTests := true, laidLooks := .later }
def PlanRunsUptoCardSaid : Prop := Claim7.holds Tryz.pinned (.plain (OpenSpec.upto planRunsSpec)) planRunsUptoCard

/-- THE SECOND FORM's CARD OF 'dunnagelaw18.PlanParts'. -/
def planPartsUptoCard : Claim7 := { stood := { row := planPartsUptoRow, standIns := [], harness := (true, "f08d023409ad8c25e74f377cb8e26018ac72ab5b329754d6c26bcdc399003e0d"), looks := false }, kinds := [], alts := [], laidByText := true, laidKinds := [.data, .data], laidTests := true, laidLooks := .later }
def PlanPartsUptoCardSaid : Prop := Claim7.holds Tryz.pinned (.plain (OpenSpec.upto planPartsSpec)) planPartsUptoCard

/-- THE SECOND FORM's CARD OF 'dunnagelaw18.PlanKeeps'. -/
def planKeepsUptoCard : Claim7 := { stood := { row := planKeepsUptoRow, standIns := [], harness := (true, "f08d023409ad8c25e74f377cb8e26018ac72ab5b329754d6c26bcdc399003e0d"), looks := false }, kinds := [], alts := [], laidByText := true, laidKinds := [.data, .data], laidTests := true, laidLooks := .later }
def PlanKeepsUptoCardSaid : Prop := Claim7.holds Tryz.pinned (.plain (OpenSpec.upto planKeepsSpec)) planKeepsUptoCard
end Rows
end Go.Proofs.YtcanhhnmfkdclaaGreatDoor
