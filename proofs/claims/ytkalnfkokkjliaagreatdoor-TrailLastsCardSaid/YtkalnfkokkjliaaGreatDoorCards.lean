/-
  DERIVED. GIVEN WITH THE SEED: THE CARDS: each row of YtkalnfkokkjliaaGreatDoorRows.lean that lists a variable, with what it lists TIED to the program's text (the seventh form; the later family's looks); each row that meets fmt, with fmt's text TOLD by the authors' own Lean function (tested against real Go, not proved from fmt's source: count such statements apart). THE CARD IS WHAT COUNTS. Prove the row's statement (the work); the ties are given (YtkalnfkokkjliaaGreatDoorTie.lean); close each card by the builder's one call (the guide's Derived/Test/ToyasCard.lean, 'card_holds'). Laid BY PROGRAM, IN A SANDBOX (cutbox-door.mjs). By AI agents, Wed Nov 11 2026. No macro, syntax, notation, axiom, sorry.
-/
import Derived.Test.YtkalnfkokkjliaaGreatDoorRows
import GoSem.ClaimSeven
namespace Go.Proofs.YtkalnfkokkjliaaGreatDoor
namespace Rows

/-- THE TIED CARD OF 'dunnagelaw26.TrailStates'. -/
def trailStatesCard : Claim7 := { stood := { row := trailStatesRow, standIns := [], harness := (true, "ce1d2523ace3f4c51daa69ae75c282c1e62252902f50ca45f49fbc3c43f0d46c"), looks := true }, kinds := [], alts := [], laidByText := true, laidKinds := [.data, .data, .data, .data, .data], laidTests := true, laidLooks := .later }
def TrailStatesCardSaid : Prop := Claim7.holds Tryz.pinned (.plain (OpenSpec.ofChange trailStatesSpec)) trailStatesCard

/-- THE TIED CARD OF 'dunnagelaw26.TrailSteps'. -/
def trailStepsCard : Claim7 := { stood := { row := trailStepsRow, standIns := [], harness := (true, "ce1d2523ace3f4c51daa69ae75c282c1e62252902f50ca45f49fbc3c43f0d46c"), looks := true }, kinds := [], alts := [], laidByText := true, laidKinds := [.data, .data, .data, .data, .data], laidTests := true, laidLooks := .later }
def TrailStepsCardSaid : Prop := Claim7.holds Tryz.pinned (.plain (OpenSpec.ofChange trailStepsSpec)) trailStepsCard

/-- THE TIED CARD OF 'dunnagelaw21.CtlBoots'. -/
def ctlBootsCard : Claim7 := { stood := { row := ctlBootsRow, standIns := [], harness := (true, "ce1d2523ace3f4c51daa69ae75c282c1e62252902f50ca45f49fbc3c43f0d46c"), looks := true }, kinds := [], alts := [], laidByText := true, laidKinds := [.data, .data, .data, .data], laidTests := true, laidLooks := .later }
def CtlBootsCardSaid : Prop := Claim7.holds Tryz.pinned (.plain (OpenSpec.ofChange ctlBootsSpec)) ctlBootsCard

/-- THE TIED CARD OF 'dunnagelaw21.CtlLasts'. -/
def ctlLastsCard : Claim7 := { stood := { row := ctlLastsRow, standIns := [], harness := (true, "ce1d2523ace3f4c51daa69ae75c282c1e62252902f50ca45f49fbc3c43f0d46c"), looks := true }, kinds := [], alts := [], laidByText := true, laidKinds := [.data, .data, .data, .data], laidTests := true, laidLooks := .later }
def CtlLastsCardSaid : Prop := Claim7.holds Tryz.pinned (.plain (OpenSpec.ofChange ctlLastsSpec)) ctlLastsCard

/-- THE TIED CARD OF 'dunnagelaw21.CtlFirst'. -/
def ctlFirstCard : Claim7 := { stood := { row := ctlFirstRow, standIns := [], harness := (true, "ce1d2523ace3f4c51daa69ae75c282c1e62252902f50ca45f49fbc3c43f0d46c"), looks := true }, kinds := [], alts := [], laidByText := true, laidKinds := [.data, .data, .data, .data], laidTests := true, laidLooks := .later }
def CtlFirstCardSaid : Prop := Claim7.holds Tryz.pinned (.plain (OpenSpec.ofChange ctlFirstSpec)) ctlFirstCard

/-- THE TIED CARD OF 'dunnagelaw21.CtlSilence'. -/
def ctlSilenceCard : Claim7 := { stood := { row := ctlSilenceRow, standIns := [], harness := (true, "ce1d2523ace3f4c51daa69ae75c282c1e62252902f50ca45f49fbc3c43f0d46c"), looks := true }, kinds := [], alts := [], laidByText := true, laidKinds := [.data, .data, .data, .data], laidTests := true, laidLooks := .later }
def CtlSilenceCardSaid : Prop := Claim7.holds Tryz.pinned (.plain (OpenSpec.ofChange ctlSilenceSpec)) ctlSilenceCard

/-- THE TIED CARD OF 'dunnagelaw21.CtlAsks'. -/
def ctlAsksCard : Claim7 := { stood := { row := ctlAsksRow, standIns := [], harness := (true, "ce1d2523ace3f4c51daa69ae75c282c1e62252902f50ca45f49fbc3c43f0d46c"), looks := true }, kinds := [], alts := [], laidByText := true, laidKinds := [.data, .data, .data, .data], laidTests := true, laidLooks := .later }
def CtlAsksCardSaid : Prop := Claim7.holds Tryz.pinned (.plain (OpenSpec.ofChange ctlAsksSpec)) ctlAsksCard

/-- THE TIED CARD OF 'dunnagelaw21.CtlTwice'. -/
def ctlTwiceCard : Claim7 := { stood := { row := ctlTwiceRow, standIns := [], harness := (true, "ce1d2523ace3f4c51daa69ae75c282c1e62252902f50ca45f49fbc3c43f0d46c"), looks := true }, kinds := [], alts := [], laidByText := true, laidKinds := [.data, .data, .data, .data], laidTests := true, laidLooks := .later }
def CtlTwiceCardSaid : Prop := Claim7.holds Tryz.pinned (.plain (OpenSpec.ofChange ctlTwiceSpec)) ctlTwiceCard

/-- THE TIED CARD OF 'dunnagelaw21.CtlRuns'. -/
def ctlRunsCard : Claim7 := { stood := { row := ctlRunsRow, standIns := [], harness := (true, "ce1d2523ace3f4c51daa69ae75c282c1e62252902f50ca45f49fbc3c43f0d46c"), looks := true }, kinds := [], alts := [], laidByText := true, laidKinds := [.data, .data, .data, .data], laidTests := true, laidLooks := .later }
def CtlRunsCardSaid : Prop := Claim7.holds Tryz.pinned (.plain (OpenSpec.ofChange ctlRunsSpec)) ctlRunsCard

/-- THE TIED CARD OF 'dunnagelaw26.TrailLasts'. -/
def trailLastsCard : Claim7 := { stood := { row := trailLastsRow, standIns := [], harness := (true, "ce1d2523ace3f4c51daa69ae75c282c1e62252902f50ca45f49fbc3c43f0d46c"), looks := true }, kinds := [], alts := [], laidByText := true, laidKinds := [.data, .data, .data, .data, .data], laidTests := true, laidLooks := .later }
def TrailLastsCardSaid : Prop := Claim7.holds Tryz.pinned (.plain (OpenSpec.ofChange trailLastsSpec)) trailLastsCard

/-- THE SECOND FORM's CARD OF 'dunnagelaw26.TrailStates'. -/
def trailStatesUptoCard : Claim7 := { stood := { row := trailStatesUptoRow, standIns := [], harness := (true, "ce1d2523ace3f4c51daa69ae75c282c1e62252902f50ca45f49fbc3c43f0d46c"), looks := true }, kinds := [], alts := [], laidByText := true, laidKinds := [.data, .data, .data, .data, .data], laidTests := true, laidLooks := .later }
def TrailStatesUptoCardSaid : Prop := Claim7.holds Tryz.pinned (.plain (OpenSpec.upto trailStatesSpec)) trailStatesUptoCard

/-- THE SECOND FORM's CARD OF 'dunnagelaw26.TrailSteps'. -/
def trailStepsUptoCard : Claim7 := { stood := { row := trailStepsUptoRow, standIns := [], harness := (true, "ce1d2523ace3f4c51daa69ae75c282c1e62252902f50ca45f49fbc3c43f0d46c"), looks := true }, kinds := [], alts := [], laidByText := true, laidKinds := [.data, .data, .data, .data, .data], laidTests := true, laidLooks := .later }
def TrailStepsUptoCardSaid : Prop := Claim7.holds Tryz.pinned (.plain (OpenSpec.upto trailStepsSpec)) trailStepsUptoCard

/-- THE SECOND FORM's CARD OF 'dunnagelaw21.CtlBoots'. -/
def ctlBootsUptoCard : Claim7 := { stood := { row := ctlBootsUptoRow, standIns := [], harness := (true, "ce1d2523ace3f4c51daa69ae75c282c1e62252902f50ca45f49fbc3c43f0d46c"), looks := true }, kinds := [], alts := [], laidByText := true, laidKinds := [.data, .data, .data, .data], laidTests := true, laidLooks := .later }
def CtlBootsUptoCardSaid : Prop := Claim7.holds Tryz.pinned (.plain (OpenSpec.upto ctlBootsSpec)) ctlBootsUptoCard

/-- THE SECOND FORM's CARD OF 'dunnagelaw21.CtlLasts'. -/
def ctlLastsUptoCard : Claim7 := { stood := { row := ctlLastsUptoRow, standIns := [], harness := (true, "ce1d2523ace3f4c51daa69ae75c282c1e62252902f50ca45f49fbc3c43f0d46c"), looks := true }, kinds := [], alts := [], laidByText := true, laidKinds := [.data, .data, .data, .data], laidTests := true, laidLooks := .later }
def CtlLastsUptoCardSaid : Prop := Claim7.holds Tryz.pinned (.plain (OpenSpec.upto ctlLastsSpec)) ctlLastsUptoCard

/-- THE SECOND FORM's CARD OF 'dunnagelaw21.CtlFirst'. -/
def ctlFirstUptoCard : Claim7 := { stood := { row := ctlFirstUptoRow, standIns := [], harness := (true, "ce1d2523ace3f4c51daa69ae75c282c1e62252902f50ca45f49fbc3c43f0d46c"), looks := true }, kinds := [], alts := [], laidByText := true, laidKinds := [.data, .data, .data, .data], laidTests := true, laidLooks := .later }
def CtlFirstUptoCardSaid : Prop := Claim7.holds Tryz.pinned (.plain (OpenSpec.upto ctlFirstSpec)) ctlFirstUptoCard

/-- THE SECOND FORM's CARD OF 'dunnagelaw21.CtlSilence'. -/
def ctlSilenceUptoCard : Claim7 := { stood := { row := ctlSilenceUptoRow, standIns := [], harness := (true, "ce1d2523ace3f4c51daa69ae75c282c1e62252902f50ca45f49fbc3c43f0d46c"), looks := true }, kinds := [], alts := [], laidByText := true, laidKinds := [.data, .data, .data, .data], laidTests := true, laidLooks := .later }
def CtlSilenceUptoCardSaid : Prop := Claim7.holds Tryz.pinned (.plain (OpenSpec.upto ctlSilenceSpec)) ctlSilenceUptoCard

/-- THE SECOND FORM's CARD OF 'dunnagelaw21.CtlAsks'. -/
def ctlAsksUptoCard : Claim7 := { stood := { row := ctlAsksUptoRow, standIns := [], harness := (true, "ce1d2523ace3f4c51daa69ae75c282c1e62252902f50ca45f49fbc3c43f0d46c"), looks := true }, kinds := [], alts := [], laidByText := true, laidKinds := [.data, .data, .data, .data], laidTests := true, laidLooks := .later }
def CtlAsksUptoCardSaid : Prop := Claim7.holds Tryz.pinned (.plain (OpenSpec.upto ctlAsksSpec)) ctlAsksUptoCard

/-- THE SECOND FORM's CARD OF 'dunnagelaw21.CtlTwice'. -/
def ctlTwiceUptoCard : Claim7 := { stood := { row := ctlTwiceUptoRow, standIns := [], harness := (true, "ce1d2523ace3f4c51daa69ae75c282c1e62252902f50ca45f49fbc3c43f0d46c"), looks := true }, kinds := [], alts := [], laidByText := true, laidKinds := [.data, .data, .data, .data], laidTests := true, laidLooks := .later }
def CtlTwiceUptoCardSaid : Prop := Claim7.holds Tryz.pinned (.plain (OpenSpec.upto ctlTwiceSpec)) ctlTwiceUptoCard

/-- THE SECOND FORM's CARD OF 'dunnagelaw21.CtlRuns'. -/
def ctlRunsUptoCard : Claim7 := { stood := { row := ctlRunsUptoRow, standIns := [], harness := (true, "ce1d2523ace3f4c51daa69ae75c282c1e62252902f50ca45f49fbc3c43f0d46c"), looks := true }, kinds := [], alts := [], laidByText := true, laidKinds := [.data, .data, .data, .data], laidTests := true, laidLooks := .later }
def CtlRunsUptoCardSaid : Prop := Claim7.holds Tryz.pinned (.plain (OpenSpec.upto ctlRunsSpec)) ctlRunsUptoCard

/-- THE SECOND FORM's CARD OF 'dunnagelaw26.TrailLasts'. -/
def trailLastsUptoCard : Claim7 := { stood := { row := trailLastsUptoRow, standIns := [], harness := (true, "ce1d2523ace3f4c51daa69ae75c282c1e62252902f50ca45f49fbc3c43f0d46c"), looks := true }, kinds := [], alts := [], laidByText := true, laidKinds := [.data, .data, .data, .data, .data], laidTests := true, laidLooks := .later }
def TrailLastsUptoCardSaid : Prop := Claim7.holds Tryz.pinned (.plain (OpenSpec.upto trailLastsSpec)) trailLastsUptoCard
end Rows
end Go.Proofs.YtkalnfkokkjliaaGreatDoor
