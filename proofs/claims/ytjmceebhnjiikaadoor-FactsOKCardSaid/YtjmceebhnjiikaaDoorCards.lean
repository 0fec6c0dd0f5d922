/-
  DERIVED. GIVEN WITH THE SEED: THE CARDS: each row of YtjmceebhnjiikaaDoorRows.lean that lists a variable, with what it lists TIED to the program's text (the seventh form; the later family's looks); each row that meets fmt, with fmt's text TOLD by the authors' own Lean function (tested against real Go, not proved from fmt's source: count such statements apart). THE CARD IS WHAT COUNTS. Prove the row's statement (the work); the ties are given (YtjmceebhnjiikaaDoorTie.lean); close each card by the builder's one call (the guide's Derived/Test/ToyasCard.lean, 'card_holds'). Laid BY PROGRAM, IN A SANDBOX (cutbox-door.mjs). By AI agents, Wed Nov 11 2026. No macro, syntax, notation, axiom, sorry.
-/
import Derived.Test.YtjmceebhnjiikaaDoorRows
import GoSem.ClaimSeven
namespace Go.Proofs.YtjmceebhnjiikaaDoor
namespace Rows

/-- THE TIED CARD OF 'dunnagelaw09.BookStates'. -/
def bookStatesCard : Claim7 := { stood := { row := bookStatesRow, standIns := [], harness := (true, "243320efc4806f5ff5db1ae608921e735ac7d1d135f323cec8650462d5839bf1"), looks := false }, kinds := [], alts := [], laidByText := true, laidKinds := [.data, .data], laidTests := true, laidLooks := .later }
def BookStatesCardSaid : Prop := Claim7.holds Tryd.pinned (.plain (OpenSpec.ofChange bookStatesSpec)) bookStatesCard

/-- THE TIED CARD OF 'dunnagelaw09.BookApplies'. -/
def bookAppliesCard : Claim7 := { stood := { row := bookAppliesRow, standIns := [], harness := (true, "243320efc4806f5ff5db1ae608921e735ac7d1d135f323cec8650462d5839bf1"), looks := false }, kinds := [], alts := [], laidByText := true, laidKinds := [.data, .data], laidTests := true, laidLooks := .later }
def BookAppliesCardSaid : Prop := Claim7.holds Tryd.pinned (.plain (OpenSpec.ofChange bookAppliesSpec)) bookAppliesCard

/-- THE TIED CARD OF 'dunnagelaw09.BookRuns'. -/
def bookRunsCard : Claim7 := { stood := { row := bookRunsRow, standIns := [], harness := (true, "243320efc4806f5ff5db1ae608921e735ac7d1d135f323cec8650462d5839bf1"), looks := false }, kinds := [], alts := [], laidByText := true, laidKinds := [.data, .data], laidTests := true, laidLooks := .later }
def BookRunsCardSaid : Prop := Claim7.holds Tryd.pinned (.plain (OpenSpec.ofChange bookRunsSpec)) bookRunsCard

/-- THE TIED CARD OF 'dunnagelaw09.BookStays'. -/
def bookStaysCard : Claim7 := { stood := { row := bookStaysRow, standIns := [], harness := (true, "243320efc4806f5ff5db1ae608921e735ac7d1d135f323cec8650462d5839bf1"), looks := false }, kinds := [], alts := [], laidByText := true, laidKinds := [.data, .data], laidTests := true, laidLooks := .later }
def BookStaysCardSaid : Prop := Claim7.holds Tryd.pinned (.plain (OpenSpec.ofChange bookStaysSpec)) bookStaysCard

/-- THE TIED CARD OF 'dunnagelaw09.BookKeeps'. -/
def bookKeepsCard : Claim7 := { stood := { row := bookKeepsRow, standIns := [], harness := (true, "243320efc4806f5ff5db1ae608921e735ac7d1d135f323cec8650462d5839bf1"), looks := false }, kinds := [], alts := [], laidByText := true, laidKinds := [.data, .data], laidTests := true, laidLooks := .later }
def BookKeepsCardSaid : Prop := Claim7.holds Tryd.pinned (.plain (OpenSpec.ofChange bookKeepsSpec)) bookKeepsCard

/-- THE TIED CARD OF 'dunnagelaw09.BookFrees'. -/
def bookFreesCard : Claim7 := { stood := { row := bookFreesRow, standIns := [], harness := (true, "243320efc4806f5ff5db1ae608921e735ac7d1d135f323cec8650462d5839bf1"), looks := false }, kinds := [], alts := [], laidByText := true, laidKinds := [.data, .data], laidTests := true, laidLooks := .later }
def BookFreesCardSaid : Prop := Claim7.holds Tryd.pinned (.plain (OpenSpec.ofChange bookFreesSpec)) bookFreesCard

/-- THE TIED CARD OF 'dunnagelaw09.BookBack'. -/
def bookBackCard : Claim7 := { stood := { row := bookBackRow, standIns := [], harness := (true, "243320efc4806f5ff5db1ae608921e735ac7d1d135f323cec8650462d5839bf1"), looks := false }, kinds := [], alts := [], laidByText := true, laidKinds := [.data, .data], laidTests := true, laidLooks := .later }
def BookBackCardSaid : Prop := Claim7.holds Tryd.pinned (.plain (OpenSpec.ofChange bookBackSpec)) bookBackCard

/-- THE TIED CARD OF 'dunnagelaw09.BookAlone'. -/
def bookAloneCard : Claim7 := { stood := { row := bookAloneRow, standIns := [], harness := (true, "243320efc4806f5ff5db1ae608921e735ac7d1d135f323cec8650462d5839bf1"), looks := false }, kinds := [], alts := [], laidByText := true, laidKinds := [.data, .data], laidTests := true, laidLooks := .later }
def BookAloneCardSaid : Prop := Claim7.holds Tryd.pinned (.plain (OpenSpec.ofChange bookAloneSpec)) bookAloneCard

/-- THE TIED CARD OF 'dunnagelaw17.WaveOK'. -/
def waveOKCard : Claim7 := { stood := { row := waveOKRow, standIns := [], harness := (true, "243320efc4806f5ff5db1ae608921e735ac7d1d135f323cec8650462d5839bf1"), looks := false }, kinds := [], alts := [], laidByText := true, laidKinds := [.data, .data], laidTests := true, laidLooks := .later }
def WaveOKCardSaid : Prop := Claim7.holds Tryd.pinned (.plain (OpenSpec.ofChange waveOKSpec)) waveOKCard

/-- THE TIED CARD OF 'dunnagelaw17.WaveWidth'. -/
def waveWidthCard : Claim7 := { stood := { row := waveWidthRow, standIns := [], harness := (true, "243320efc4806f5ff5db1ae608921e735ac7d1d135f323cec8650462d5839bf1"), looks := false }, kinds := [], alts := [], laidByText := true, laidKinds := [.data, .data], laidTests := true, laidLooks := .later }
def WaveWidthCardSaid : Prop := Claim7.holds Tryd.pinned (.plain (OpenSpec.ofChange waveWidthSpec)) waveWidthCard

/-- THE TIED CARD OF 'dunnagelaw20.FactsOK'. -/
def factsOKCard : Claim7 := { stood := { row := factsOKRow, standIns := [], harness := (true, "243320efc4806f5ff5db1ae608921e735ac7d1d135f323cec8650462d5839bf1"), looks := false }, kinds := [], alts := [], laidByText := true, laidKinds := [.data, .data], laidTests := true, laidLooks := .later }
def FactsOKCardSaid : Prop := Claim7.holds Tryd.pinned (.plain (OpenSpec.ofChange factsOKSpec)) factsOKCard

/-- THE SECOND FORM's CARD OF 'dunnagelaw09.BookStates'. -/
def bookStatesUptoCard : Claim7 := { stood := { row := bookStatesUptoRow, standIns := [], harness := (true, "243320efc4806f5ff5db1ae608921e735ac7d1d135f323cec8650462d5839bf1"), looks := false }, kinds := [], alts := [], laidByText := true, laidKinds := [.data, .data], laidTests := true, laidLooks := .later }
def BookStatesUptoCardSaid : Prop := Claim7.holds Tryd.pinned (.plain (OpenSpec.upto bookStatesSpec)) bookStatesUptoCard

/-- THE SECOND FORM's CARD OF 'dunnagelaw09.BookApplies'. -/
def bookAppliesUptoCard : Claim7 := { stood := { row := bookAppliesUptoRow, standIns := [], harness := (true, "243320efc4806f5ff5db1ae608921e735ac7d1d135f323cec8650462d5839bf1"), looks := false }, kinds := [], alts := [], laidByText := true, laidKinds := [.data, .data], laidTests := true, laidLooks := .later }
def BookAppliesUptoCardSaid : Prop := Claim7.holds Tryd.pinned (.plain (OpenSpec.upto bookAppliesSpec)) bookAppliesUptoCard

/-- THE SECOND FORM's CARD OF 'dunnagelaw09.BookRuns'. -/
def bookRunsUptoCard : Claim7 := { stood := { row := bookRunsUptoRow, standIns := [], harness := (true, "243320efc4806f5ff5db1ae608921e735ac7d1d135f323cec8650462d5839bf1"), looks := false }, kinds := [], alts := [], laidByText := true, laidKinds := [.data, .data], laidTests := true, laidLooks := .later }
def BookRunsUptoCardSaid : Prop := Claim7.holds Tryd.pinned (.plain (OpenSpec.upto bookRunsSpec)) bookRunsUptoCard

/-- THE SECOND FORM's CARD OF 'dunnagelaw09.BookStays'. -/
def bookStaysUptoCard : Claim7 := { stood := { row := bookStaysUptoRow, standIns := [], harness := (true, "243320efc4806f5ff5db1ae608921e735ac7d1d135f323cec8650462d5839bf1"), looks := false }, kinds := [], alts := [], laidByText := true, laidKinds := [.data, .data], laidTests := true, laidLooks := .later }
def BookStaysUptoCardSaid : Prop := Claim7.holds Tryd.pinned (.plain (OpenSpec.upto bookStaysSpec)) bookStaysUptoCard

/-- THE SECOND FORM's CARD OF 'dunnagelaw09.BookKeeps'. -/
def bookKeepsUptoCard : Claim7 := { stood := { row := bookKeepsUptoRow, standIns := [], harness := (true, "243320efc4806f5ff5db1ae608921e735ac7d1d135f323cec8650462d5839bf1"), looks := false }, kinds := [], alts := [], laidByText := true, laidKinds := [.data, .data], laidTests := true, laidLooks := .later }
def BookKeepsUptoCardSaid : Prop := Claim7.holds Tryd.pinned (.plain (OpenSpec.upto bookKeepsSpec)) bookKeepsUptoCard

/-- THE SECOND FORM's CARD OF 'dunnagelaw09.BookFrees'. -/
def bookFreesUptoCard : Claim7 := { stood := { row := bookFreesUptoRow, standIns := [], harness := (true, "243320efc4806f5ff5db1ae608921e735ac7d1d135f323cec8650462d5839bf1"), looks := false }, kinds := [], alts := [], laidByText := true, laidKinds := [.data, .data], laidTests := true, laidLooks := .later }
def BookFreesUptoCardSaid : Prop := Claim7.holds Tryd.pinned (.plain (OpenSpec.upto bookFreesSpec)) bookFreesUptoCard

/-- THE SECOND FORM's CARD OF 'dunnagelaw09.BookBack'. -/
def bookBackUptoCard : Claim7 := { stood := { row := bookBackUptoRow, standIns := [], harness := (true, "243320efc4806f5ff5db1ae608921e735ac7d1d135f323cec8650462d5839bf1"), looks := false }, kinds := [], alts := [], laidByText := true, laidKinds := [.data, .data], laidTests := true, laidLooks := .later }
def BookBackUptoCardSaid : Prop := Claim7.holds Tryd.pinned (.plain (OpenSpec.upto bookBackSpec)) bookBackUptoCard

/-- THE SECOND FORM's CARD OF 'dunnagelaw09.BookAlone'. -/
def bookAloneUptoCard : Claim7 := { stood := { row := bookAloneUptoRow, standIns := [], harness := (true, "243320efc4806f5ff5db1ae608921e735ac7d1d135f323cec8650462d5839bf1"), looks := false }, kinds := [], alts := [], laidByText := true, laidKinds := [.data, .data], laidTests := true, laidLooks := .later }
def BookAloneUptoCardSaid : Prop := Claim7.holds Tryd.pinned (.plain (OpenSpec.upto bookAloneSpec)) bookAloneUptoCard

/-- THE SECOND FORM's CARD OF 'dunnagelaw17.WaveOK'. -/
def waveOKUptoCard : Claim7 := { stood := { row := waveOKUptoRow, standIns := [], harness := (true, "243320efc4806f5ff5db1ae608921e735ac7d1d135f323cec8650462d5839bf1"), looks := false }, kinds := [], alts := [], laidByText := true, laidKinds := [.data, .data], laidTests := true, laidLooks := .later }
def WaveOKUptoCardSaid : Prop := Claim7.holds Tryd.pinned (.plain (OpenSpec.upto waveOKSpec)) waveOKUptoCard

/-- THE SECOND FORM's CARD OF 'dunnagelaw17.WaveWidth'. -/
def waveWidthUptoCard : Claim7 := { stood := { row := waveWidthUptoRow, standIns := [], harness := (true, "243320efc4806f5ff5db1ae608921e735ac7d1d135f323cec8650462d5839bf1"), looks := false }, kinds := [], alts := [], laidByText := true, laidKinds := [.data, .data], laidTests := true, laidLooks := .later }
def WaveWidthUptoCardSaid : Prop := Claim7.holds Tryd.pinned (.plain (OpenSpec.upto waveWidthSpec)) waveWidthUptoCard

/-- THE SECOND FORM's CARD OF 'dunnagelaw20.FactsOK'. -/
def factsOKUptoCard : Claim7 := { stood := { row := factsOKUptoRow, standIns := [], harness := (true, "243320efc4806f5ff5db1ae608921e735ac7d1d135f323cec8650462d5839bf1"), looks := false }, kinds := [], alts := [], laidByText := true, laidKinds := [.data, .data], laidTests := true, laidLooks := .later }
def FactsOKUptoCardSaid : Prop := Claim7.holds Tryd.pinned (.plain (OpenSpec.upto factsOKSpec)) factsOKUptoCard
end Rows
end Go.Proofs.YtjmceebhnjiikaaDoor
