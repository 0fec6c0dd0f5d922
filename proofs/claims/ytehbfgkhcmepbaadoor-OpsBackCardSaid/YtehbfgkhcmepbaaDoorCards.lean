/-
  DERIVED. GIVEN WITH THE SEED: THE CARDS: each row of YtehbfgkhcmepbaaDoorRows.lean that lists a variable, with what it lists TIED to the program's text (the seventh form; the later family's looks); each row that meets fmt, with fmt's text TOLD by the authors' own Lean function (tested against real Go, not proved from fmt's source: count such statements apart). THE CARD IS WHAT COUNTS. Prove the row's statement (the work); the ties are given (YtehbfgkhcmepbaaDoorTie.lean); close each card by the builder's one call (the guide's Derived/Test/ToyasCard.lean, 'card_holds'). Laid BY PROGRAM, IN A SANDBOX (cutbox-door.mjs). By AI agents, Wed Nov 11 2026. No macro, syntax, notation, axiom, sorry.
-/
import Derived.Test.YtehbfgkhcmepbaaDoorRows
import GoSem.ClaimSeven
namespace Go.Proofs.YtehbfgkhcmepbaaDoor
namespace Rows

/-- THE TIED CARD OF 'dunnagelaw08.OpsBytes'. -/
def opsBytesCard : Claim7 := { stood := { row := opsBytesRow, standIns := [], harness := (true, "548bd305a836e09a3fa580603ae7179500348d66687057a23712f31adadfcc51"), looks := false }, kinds := [], alts := [], laidByText := true, laidKinds := [.data, .data, .data, .data, .data, .data, .pinned], laidTests := true, laidLooks := .later }
def OpsBytesCardSaid : Prop := Claim7.holds Tryd.pinned (.plain (OpenSpec.ofChange opsBytesSpec)) opsBytesCard

/-- THE TIED CARD OF 'dunnagelaw08.OpsWords'. -/
def opsWordsCard : Claim7 := { stood := { row := opsWordsRow, standIns := [], harness := (true, "548bd305a836e09a3fa580603ae7179500348d66687057a23712f31adadfcc51"), looks := false }, kinds := [], alts := [], laidByText := true, laidKinds := [.data, .data, .data, .data, .data, .data, .pinned], laidTests := true, laidLooks := .later }
def OpsWordsCardSaid : Prop := Claim7.holds Tryd.pinned (.plain (OpenSpec.ofChange opsWordsSpec)) opsWordsCard

/-- THE TIED CARD OF 'dunnagelaw08.OpsBack'. -/
def opsBackCard : Claim7 := { stood := { row := opsBackRow, standIns := [], harness := (true, "548bd305a836e09a3fa580603ae7179500348d66687057a23712f31adadfcc51"), looks := false }, kinds := [], alts := [], laidByText := true, laidKinds := [.data, .data, .data, .data, .data, .data, .pinned], laidTests := true, laidLooks := .later }
def OpsBackCardSaid : Prop := Claim7.holds Tryd.pinned (.plain (OpenSpec.ofChange opsBackSpec)) opsBackCard

/-- THE TIED CARD OF 'dunnagelaw08.OpsNames'. -/
def opsNamesCard : Claim7 := { stood := { row := opsNamesRow, standIns := [], harness := (true, "548bd305a836e09a3fa580603ae7179500348d66687057a23712f31adadfcc51"), looks := false }, kinds := [], alts := [], laidByText := true, laidKinds := [.data, .data, .data, .data, .data, .data, .pinned], laidTests := true, laidLooks := .later }
def OpsNamesCardSaid : Prop := Claim7.holds Tryd.pinned (.plain (OpenSpec.ofChange opsNamesSpec)) opsNamesCard

/-- THE TIED CARD OF 'dunnagelaw08.OpsFew'. -/
def opsFewCard : Claim7 := { stood := { row := opsFewRow, standIns := [], harness := (true, "548bd305a836e09a3fa580603ae7179500348d66687057a23712f31adadfcc51"), looks := false }, kinds := [], alts := [], laidByText := true, laidKinds := [.data, .data, .data, .data, .data, .data, .pinned], laidTests := true, laidLooks := .later }
def OpsFewCardSaid : Prop := Claim7.holds Tryd.pinned (.plain (OpenSpec.ofChange opsFewSpec)) opsFewCard

/-- THE SECOND FORM's CARD OF 'dunnagelaw08.OpsBytes'. -/
def opsBytesUptoCard : Claim7 := { stood := { row := opsBytesUptoRow, standIns := [], harness := (true, "548bd305a836e09a3fa580603ae7179500348d66687057a23712f31adadfcc51"), looks := false }, kinds := [], alts := [], laidByText := true, laidKinds := [.data, .data, .data, .data, .data, .data, .pinned], laidTests := true, laidLooks := .later }
def OpsBytesUptoCardSaid : Prop := Claim7.holds Tryd.pinned (.plain (OpenSpec.upto opsBytesSpec)) opsBytesUptoCard

/-- THE SECOND FORM's CARD OF 'dunnagelaw08.OpsWords'. -/
def opsWordsUptoCard : Claim7 := { stood := { row := opsWordsUptoRow, standIns := [], harness := (true, "548bd305a836e09a3fa580603ae7179500348d66687057a23712f31adadfcc51"), looks := false }, kinds := [], alts := [], laidByText := true, laidKinds := [.data, .data, .data, .data, .data, .data, .pinned], laidTests := true, laidLooks := .later }
def OpsWordsUptoCardSaid : Prop := Claim7.holds Tryd.pinned (.plain (OpenSpec.upto opsWordsSpec)) opsWordsUptoCard

/-- THE SECOND FORM's CARD OF 'dunnagelaw08.OpsBack'. -/
def opsBackUptoCard : Claim7 := { stood := { row := opsBackUptoRow, standIns := [], harness := (true, "548bd305a836e09a3fa580603ae7179500348d66687057a23712f31adadfcc51"), looks := false }, kinds := [], alts := [], laidByText := true, laidKinds := [.data, .data, .data, .data, .data, .data, .pinned], laidTests := true, laidLooks := .later }
def OpsBackUptoCardSaid : Prop := Claim7.holds Tryd.pinned (.plain (OpenSpec.upto opsBackSpec)) opsBackUptoCard

/-- THE SECOND FORM's CARD OF 'dunnagelaw08.OpsNames'. -/
def opsNamesUptoCard : Claim7 := { stood := { row := opsNamesUptoRow, standIns := [], harness := (true, "548bd305a836e09a3fa580603ae7179500348d66687057a23712f31adadfcc51"), looks := false }, kinds := [], alts := [], laidByText := true, laidKinds := [.data, .data, .data, .data, .data, .data, .pinned], laidTests := true, laidLooks := .later }
def OpsNamesUptoCardSaid : Prop := Claim7.holds Tryd.pinned (.plain (OpenSpec.upto opsNamesSpec)) opsNamesUptoCard

/-- THE SECOND FORM's CARD OF 'dunnagelaw08.OpsFew'. -/
def opsFewUptoCard : Claim7 := { stood := { row := opsFewUptoRow, standIns := [], harness := (true, "548bd305a836e09a3fa580603ae7179500348d66687057a23712f31adadfcc51"), looks := false }, kinds := [], alts := [], laidByText := true, laidKinds := [.data, .data, .data, .data, .data, .data, .pinned], laidTests := true, laidLooks := .later }
def OpsFewUptoCardSaid : Prop := Claim7.holds Tryd.pinned (.plain (OpenSpec.upto opsFewSpec)) opsFewUptoCard
end Rows
end Go.Proofs.YtehbfgkhcmepbaaDoor
