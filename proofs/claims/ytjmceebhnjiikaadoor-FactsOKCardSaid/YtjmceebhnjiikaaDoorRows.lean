/-
  NARROWER THAN 'FOR EVERY INPUT', by the rows' own cells (each row's printed sentence says how): BookStates: laid · BookApplies: laid · BookRuns: laid · BookStays: laid · BookKeeps: laid · BookFrees: laid · BookBack: laid · BookAlone: laid · WaveOK: laid · WaveWidth: laid · FactsOK: laid.
  DERIVED. THE GIVEN ROWS OF THIS SEAT. 11 by the template 'for every input the law returns true; each argument reads behind the call as it read before'; 0 by the template 'total and deterministic' (their statements: YtjmceebhnjiikaaDoorTotals.lean).
  GIVEN WITH THE SEED: the statements are not yours to turn. If you find one false, say at which input.
  Laid BY PROGRAM, IN A SANDBOX (cutbox-rows.mjs): the forced cells as the released guide's own fill.sh prints them over the translation 5fa1f6b9df1ac248… (all of the seat's roots in one cut). By AI agents, Wed Nov 11 2026. No macro, syntax, notation, axiom, sorry.
-/
import Derived.Test.YtjmceebhnjiikaaDoorChecked
import GoSem.Claim
import GoSem.ClaimJoined
import GoSem.ClaimMapViews
import Derived.JoinedTies
import Derived.KernelRfl
namespace Go.Proofs.YtjmceebhnjiikaaDoor
/- THE CELL 'sum', in the pinned program and in every row, IS THE sha256 OF THE DUMP (.gsa) THAT YtjmceebhnjiikaaDoorProg.lean LOADS. Nothing in Lean hashes anything: it is a label: what it is worth is what the hold of that sum in a sandbox is worth. -/
noncomputable def Tryd.pinned : Pinned := { name := "ytjmceebhnjiikaadoor", sum := "5fa1f6b9df1ac248b571e913b5b3c53a3042087423b7ae4e6b344e535ca7e777", checked := Tryd.checked }
namespace Rows
def none {H : Type} : Left H := { results := [], args := [] }

/- WHAT THE LISTED PACKAGE-LEVEL VARIABLES READ AS WHEN THE CALL BEGINS. Each datum BY PROGRAM (the guide's laid-datum.mjs) off the statement by which the dump's own 'gosem.cut.vars' lays the variable. In a bare row this is a premise. The card (YtjmceebhnjiikaaDoorCards.lean) ties it to the program's text. -/
def laid_dunnage_ops_names {H : Type} : DataW H := .agg [.lit (.string []), .lit (.string [115, 117, 98, 109, 105, 116]), .lit (.string [99, 97, 110, 99, 101, 108]), .lit (.string [116, 97, 114, 103, 101, 116]), .lit (.string [112, 97, 117, 115, 101]), .lit (.string [114, 101, 115, 117, 109, 101]), .lit (.string [97, 98, 111, 114, 116]), .lit (.string [100, 111, 119, 110]), .lit (.string [117, 112]), .lit (.string [104, 111, 108, 100]), .lit (.string [115, 116, 97, 114, 116]), .lit (.string [117, 110, 104, 111, 108, 100]), .lit (.string [100, 114, 97, 105, 110]), .lit (.string [115, 97, 118, 101, 100]), .lit (.string [101, 118, 105, 99, 116]), .lit (.string [100, 111, 110, 101]), .lit (.string [99, 111, 114, 100, 111, 110]), .lit (.string [117, 110, 99, 111, 114, 100, 111, 110]), .lit (.string [109, 111, 118, 101]), .lit (.string [109, 111, 118, 101, 100]), .lit (.string [115, 104, 114, 105, 110, 107]), .lit (.string [110, 101, 119, 116, 101, 114, 109])]
def laid_dunnage_ops_many {H : Type} : DataW H := .agg [.lit (.int .i64 0), .lit (.int .i64 6), .lit (.int .i64 1), .lit (.int .i64 1), .lit (.int .i64 0), .lit (.int .i64 0), .lit (.int .i64 0), .lit (.int .i64 1), .lit (.int .i64 2), .lit (.int .i64 2), .lit (.int .i64 2), .lit (.int .i64 1), .lit (.int .i64 2), .lit (.int .i64 2), .lit (.int .i64 1), .lit (.int .i64 1), .lit (.int .i64 1), .lit (.int .i64 1), .lit (.int .i64 1), .lit (.int .i64 2), .lit (.int .i64 2), .lit (.int .i64 0)]

/-- 'dunnagelaw09.BookStates': WHATEVER THE INPUT: true; the input reads as it did. -/
def bookStatesSpec : ChangeSpec := { name := "bookStates", fn := fun _ => fun
  | [d1, d2] => { results := [.lit (.bool true)], args := [d1, d2] }
  | _ => none }
def bookStatesRow : OpenClaim := { program := "ytjmceebhnjiikaadoor", sum := "5fa1f6b9df1ac248b571e913b5b3c53a3042087423b7ae4e6b344e535ca7e777", func := "dunnage/dunnagelaw09.BookStates", spec := "bookStates", unfollowed := true, recurses := true, named := ["dunnage/ops.many", "dunnage/ops.names"], apart := false, laid := [("dunnage/ops.names", laid_dunnage_ops_names), ("dunnage/ops.many", laid_dunnage_ops_many)] }
def BookStatesSaid : Prop := bookStatesRow.holds Tryd.pinned (OpenSpec.ofChange bookStatesSpec)

/-- ITS FALSE NEIGHBOUR: 'it returns false'. Refute it at one input. -/
def bookStatesWrong : ChangeSpec := { name := "bookStates", fn := fun _ => fun
  | [d1, d2] => { results := [.lit (.bool false)], args := [d1, d2] }
  | _ => none }
def BookStatesWrongFalsely : Prop := bookStatesRow.holds Tryd.pinned (OpenSpec.ofChange bookStatesWrong)

/-- 'dunnagelaw09.BookApplies': WHATEVER THE INPUT: true; the input reads as it did. -/
def bookAppliesSpec : ChangeSpec := { name := "bookApplies", fn := fun _ => fun
  | [d1, d2, d3] => { results := [.lit (.bool true)], args := [d1, d2, d3] }
  | _ => none }
def bookAppliesRow : OpenClaim := { program := "ytjmceebhnjiikaadoor", sum := "5fa1f6b9df1ac248b571e913b5b3c53a3042087423b7ae4e6b344e535ca7e777", func := "dunnage/dunnagelaw09.BookApplies", spec := "bookApplies", unfollowed := true, recurses := true, named := ["dunnage/ops.many", "dunnage/ops.names"], apart := false, laid := [("dunnage/ops.names", laid_dunnage_ops_names), ("dunnage/ops.many", laid_dunnage_ops_many)] }
def BookAppliesSaid : Prop := bookAppliesRow.holds Tryd.pinned (OpenSpec.ofChange bookAppliesSpec)

/-- ITS FALSE NEIGHBOUR: 'it returns false'. Refute it at one input. -/
def bookAppliesWrong : ChangeSpec := { name := "bookApplies", fn := fun _ => fun
  | [d1, d2, d3] => { results := [.lit (.bool false)], args := [d1, d2, d3] }
  | _ => none }
def BookAppliesWrongFalsely : Prop := bookAppliesRow.holds Tryd.pinned (OpenSpec.ofChange bookAppliesWrong)

/-- 'dunnagelaw09.BookRuns': WHATEVER THE INPUT: true; the input reads as it did. -/
def bookRunsSpec : ChangeSpec := { name := "bookRuns", fn := fun _ => fun
  | [d1, d2, d3] => { results := [.lit (.bool true)], args := [d1, d2, d3] }
  | _ => none }
def bookRunsRow : OpenClaim := { program := "ytjmceebhnjiikaadoor", sum := "5fa1f6b9df1ac248b571e913b5b3c53a3042087423b7ae4e6b344e535ca7e777", func := "dunnage/dunnagelaw09.BookRuns", spec := "bookRuns", unfollowed := true, recurses := true, named := ["dunnage/ops.many", "dunnage/ops.names"], apart := false, laid := [("dunnage/ops.names", laid_dunnage_ops_names), ("dunnage/ops.many", laid_dunnage_ops_many)] }
def BookRunsSaid : Prop := bookRunsRow.holds Tryd.pinned (OpenSpec.ofChange bookRunsSpec)

/-- ITS FALSE NEIGHBOUR: 'it returns false'. Refute it at one input. -/
def bookRunsWrong : ChangeSpec := { name := "bookRuns", fn := fun _ => fun
  | [d1, d2, d3] => { results := [.lit (.bool false)], args := [d1, d2, d3] }
  | _ => none }
def BookRunsWrongFalsely : Prop := bookRunsRow.holds Tryd.pinned (OpenSpec.ofChange bookRunsWrong)

/-- 'dunnagelaw09.BookStays': WHATEVER THE INPUT: true; the input reads as it did. -/
def bookStaysSpec : ChangeSpec := { name := "bookStays", fn := fun _ => fun
  | [d1, d2, d3] => { results := [.lit (.bool true)], args := [d1, d2, d3] }
  | _ => none }
def bookStaysRow : OpenClaim := { program := "ytjmceebhnjiikaadoor", sum := "5fa1f6b9df1ac248b571e913b5b3c53a3042087423b7ae4e6b344e535ca7e777", func := "dunnage/dunnagelaw09.BookStays", spec := "bookStays", unfollowed := true, recurses := true, named := ["dunnage/ops.many", "dunnage/ops.names"], apart := false, laid := [("dunnage/ops.names", laid_dunnage_ops_names), ("dunnage/ops.many", laid_dunnage_ops_many)] }
def BookStaysSaid : Prop := bookStaysRow.holds Tryd.pinned (OpenSpec.ofChange bookStaysSpec)

/-- ITS FALSE NEIGHBOUR: 'it returns false'. Refute it at one input. -/
def bookStaysWrong : ChangeSpec := { name := "bookStays", fn := fun _ => fun
  | [d1, d2, d3] => { results := [.lit (.bool false)], args := [d1, d2, d3] }
  | _ => none }
def BookStaysWrongFalsely : Prop := bookStaysRow.holds Tryd.pinned (OpenSpec.ofChange bookStaysWrong)

/-- 'dunnagelaw09.BookKeeps': WHATEVER THE INPUT: true; the input reads as it did. -/
def bookKeepsSpec : ChangeSpec := { name := "bookKeeps", fn := fun _ => fun
  | [d1, d2, d3] => { results := [.lit (.bool true)], args := [d1, d2, d3] }
  | _ => none }
def bookKeepsRow : OpenClaim := { program := "ytjmceebhnjiikaadoor", sum := "5fa1f6b9df1ac248b571e913b5b3c53a3042087423b7ae4e6b344e535ca7e777", func := "dunnage/dunnagelaw09.BookKeeps", spec := "bookKeeps", unfollowed := true, recurses := true, named := ["dunnage/ops.many", "dunnage/ops.names"], apart := false, laid := [("dunnage/ops.names", laid_dunnage_ops_names), ("dunnage/ops.many", laid_dunnage_ops_many)] }
def BookKeepsSaid : Prop := bookKeepsRow.holds Tryd.pinned (OpenSpec.ofChange bookKeepsSpec)

/-- ITS FALSE NEIGHBOUR: 'it returns false'. Refute it at one input. -/
def bookKeepsWrong : ChangeSpec := { name := "bookKeeps", fn := fun _ => fun
  | [d1, d2, d3] => { results := [.lit (.bool false)], args := [d1, d2, d3] }
  | _ => none }
def BookKeepsWrongFalsely : Prop := bookKeepsRow.holds Tryd.pinned (OpenSpec.ofChange bookKeepsWrong)

/-- 'dunnagelaw09.BookFrees': WHATEVER THE INPUT: true; the input reads as it did. -/
def bookFreesSpec : ChangeSpec := { name := "bookFrees", fn := fun _ => fun
  | [d1, d2, d3] => { results := [.lit (.bool true)], args := [d1, d2, d3] }
  | _ => none }
def bookFreesRow : OpenClaim := { program := "ytjmceebhnjiikaadoor", sum := "5fa1f6b9df1ac248b571e913b5b3c53a3042087423b7ae4e6b344e535ca7e777", func := "dunnage/dunnagelaw09.BookFrees", spec := "bookFrees", unfollowed := true, recurses := true, named := ["dunnage/ops.many", "dunnage/ops.names"], apart := false, laid := [("dunnage/ops.names", laid_dunnage_ops_names), ("dunnage/ops.many", laid_dunnage_ops_many)] }
def BookFreesSaid : Prop := bookFreesRow.holds Tryd.pinned (OpenSpec.ofChange bookFreesSpec)

/-- ITS FALSE NEIGHBOUR: 'it returns false'. Refute it at one input. -/
def bookFreesWrong : ChangeSpec := { name := "bookFrees", fn := fun _ => fun
  | [d1, d2, d3] => { results := [.lit (.bool false)], args := [d1, d2, d3] }
  | _ => none }
def BookFreesWrongFalsely : Prop := bookFreesRow.holds Tryd.pinned (OpenSpec.ofChange bookFreesWrong)

/-- 'dunnagelaw09.BookBack': WHATEVER THE INPUT: true; the input reads as it did. -/
def bookBackSpec : ChangeSpec := { name := "bookBack", fn := fun _ => fun
  | [d1, d2, d3, d4, d5] => { results := [.lit (.bool true)], args := [d1, d2, d3, d4, d5] }
  | _ => none }
def bookBackRow : OpenClaim := { program := "ytjmceebhnjiikaadoor", sum := "5fa1f6b9df1ac248b571e913b5b3c53a3042087423b7ae4e6b344e535ca7e777", func := "dunnage/dunnagelaw09.BookBack", spec := "bookBack", unfollowed := true, recurses := true, named := ["dunnage/ops.many", "dunnage/ops.names"], apart := false, laid := [("dunnage/ops.names", laid_dunnage_ops_names), ("dunnage/ops.many", laid_dunnage_ops_many)] }
def BookBackSaid : Prop := bookBackRow.holds Tryd.pinned (OpenSpec.ofChange bookBackSpec)

/-- ITS FALSE NEIGHBOUR: 'it returns false'. Refute it at one input. -/
def bookBackWrong : ChangeSpec := { name := "bookBack", fn := fun _ => fun
  | [d1, d2, d3, d4, d5] => { results := [.lit (.bool false)], args := [d1, d2, d3, d4, d5] }
  | _ => none }
def BookBackWrongFalsely : Prop := bookBackRow.holds Tryd.pinned (OpenSpec.ofChange bookBackWrong)

/-- 'dunnagelaw09.BookAlone': WHATEVER THE INPUT: true; the input reads as it did. -/
def bookAloneSpec : ChangeSpec := { name := "bookAlone", fn := fun _ => fun
  | [d1, d2, d3] => { results := [.lit (.bool true)], args := [d1, d2, d3] }
  | _ => none }
def bookAloneRow : OpenClaim := { program := "ytjmceebhnjiikaadoor", sum := "5fa1f6b9df1ac248b571e913b5b3c53a3042087423b7ae4e6b344e535ca7e777", func := "dunnage/dunnagelaw09.BookAlone", spec := "bookAlone", unfollowed := true, recurses := true, named := ["dunnage/ops.many", "dunnage/ops.names"], apart := false, laid := [("dunnage/ops.names", laid_dunnage_ops_names), ("dunnage/ops.many", laid_dunnage_ops_many)] }
def BookAloneSaid : Prop := bookAloneRow.holds Tryd.pinned (OpenSpec.ofChange bookAloneSpec)

/-- ITS FALSE NEIGHBOUR: 'it returns false'. Refute it at one input. -/
def bookAloneWrong : ChangeSpec := { name := "bookAlone", fn := fun _ => fun
  | [d1, d2, d3] => { results := [.lit (.bool false)], args := [d1, d2, d3] }
  | _ => none }
def BookAloneWrongFalsely : Prop := bookAloneRow.holds Tryd.pinned (OpenSpec.ofChange bookAloneWrong)

/-- 'dunnagelaw17.WaveOK': WHATEVER THE INPUT: true; the input reads as it did. -/
def waveOKSpec : ChangeSpec := { name := "waveOK", fn := fun _ => fun
  | [d1, d2, d3] => { results := [.lit (.bool true)], args := [d1, d2, d3] }
  | _ => none }
def waveOKRow : OpenClaim := { program := "ytjmceebhnjiikaadoor", sum := "5fa1f6b9df1ac248b571e913b5b3c53a3042087423b7ae4e6b344e535ca7e777", func := "dunnage/dunnagelaw17.WaveOK", spec := "waveOK", unfollowed := true, recurses := true, named := ["dunnage/ops.many", "dunnage/ops.names"], apart := false, laid := [("dunnage/ops.names", laid_dunnage_ops_names), ("dunnage/ops.many", laid_dunnage_ops_many)] }
def WaveOKSaid : Prop := waveOKRow.holds Tryd.pinned (OpenSpec.ofChange waveOKSpec)

/-- ITS FALSE NEIGHBOUR: 'it returns false'. Refute it at one input. -/
def waveOKWrong : ChangeSpec := { name := "waveOK", fn := fun _ => fun
  | [d1, d2, d3] => { results := [.lit (.bool false)], args := [d1, d2, d3] }
  | _ => none }
def WaveOKWrongFalsely : Prop := waveOKRow.holds Tryd.pinned (OpenSpec.ofChange waveOKWrong)

/-- 'dunnagelaw17.WaveWidth': WHATEVER THE INPUT: true; the input reads as it did. -/
def waveWidthSpec : ChangeSpec := { name := "waveWidth", fn := fun _ => fun
  | [d1, d2, d3] => { results := [.lit (.bool true)], args := [d1, d2, d3] }
  | _ => none }
def waveWidthRow : OpenClaim := { program := "ytjmceebhnjiikaadoor", sum := "5fa1f6b9df1ac248b571e913b5b3c53a3042087423b7ae4e6b344e535ca7e777", func := "dunnage/dunnagelaw17.WaveWidth", spec := "waveWidth", unfollowed := true, recurses := true, named := ["dunnage/ops.many", "dunnage/ops.names"], apart := false, laid := [("dunnage/ops.names", laid_dunnage_ops_names), ("dunnage/ops.many", laid_dunnage_ops_many)] }
def WaveWidthSaid : Prop := waveWidthRow.holds Tryd.pinned (OpenSpec.ofChange waveWidthSpec)

/-- ITS FALSE NEIGHBOUR: 'it returns false'. Refute it at one input. -/
def waveWidthWrong : ChangeSpec := { name := "waveWidth", fn := fun _ => fun
  | [d1, d2, d3] => { results := [.lit (.bool false)], args := [d1, d2, d3] }
  | _ => none }
def WaveWidthWrongFalsely : Prop := waveWidthRow.holds Tryd.pinned (OpenSpec.ofChange waveWidthWrong)

/-- 'dunnagelaw20.FactsOK': WHATEVER THE INPUT: true; the input reads as it did. -/
def factsOKSpec : ChangeSpec := { name := "factsOK", fn := fun _ => fun
  | [d1, d2, d3, d4] => { results := [.lit (.bool true)], args := [d1, d2, d3, d4] }
  | _ => none }
def factsOKRow : OpenClaim := { program := "ytjmceebhnjiikaadoor", sum := "5fa1f6b9df1ac248b571e913b5b3c53a3042087423b7ae4e6b344e535ca7e777", func := "dunnage/dunnagelaw20.FactsOK", spec := "factsOK", unfollowed := true, recurses := true, named := ["dunnage/ops.many", "dunnage/ops.names"], apart := false, laid := [("dunnage/ops.names", laid_dunnage_ops_names), ("dunnage/ops.many", laid_dunnage_ops_many)] }
def FactsOKSaid : Prop := factsOKRow.holds Tryd.pinned (OpenSpec.ofChange factsOKSpec)

/-- ITS FALSE NEIGHBOUR: 'it returns false'. Refute it at one input. -/
def factsOKWrong : ChangeSpec := { name := "factsOK", fn := fun _ => fun
  | [d1, d2, d3, d4] => { results := [.lit (.bool false)], args := [d1, d2, d3, d4] }
  | _ => none }
def FactsOKWrongFalsely : Prop := factsOKRow.holds Tryd.pinned (OpenSpec.ofChange factsOKWrong)

/- THE SECOND FORM. 'bulk': how many values and letters a reading holds, each counted each time it is reached (what is shared counts as often as it is met; a slice's spare places count too). A statement '..UptoSaid' is the law's where the arguments, and the package variables that the reading takes, are together of bulk at most 1048576: NARROWER than '..Said'. Prove '..Said' where nothing that the law and all that it calls make is longer than what came in: it says more and counts as full. Else prove '..UptoSaid'. A law counts once. -/
mutual
def uptoBulk {H : Type} : DataW H → Nat
  | .lit (.string bytes) => bytes.length + 1
  | .lit _ => 1
  | .nil => 1
  | .ptr d => uptoBulk d + 1
  | .slice elems spare => uptoBulkAll elems + uptoBulkAll spare + 1
  | .agg parts => uptoBulkAll parts + 1
  | .iface _ d => uptoBulk d + 1
  | .map entries => uptoBulkEntries entries + 1
  | .held _ => 1
def uptoBulkAll {H : Type} : List (DataW H) → Nat
  | [] => 0
  | d :: r => uptoBulk d + uptoBulkAll r
def uptoBulkEntries {H : Type} : List (Lit × DataW H) → Nat
  | [] => 0
  | x :: r => uptoBulkEntry x + uptoBulkEntries r
def uptoBulkEntry {H : Type} : Lit × DataW H → Nat
  | (.string bytes, d) => bytes.length + uptoBulk d + 1
  | (_, d) => uptoBulk d + 1
 end
def uptoSmall : (H : Type) → List (DataW H) → Bool := fun _ ds => decide (uptoBulkAll ds ≤ 1048576)
def OpenSpec.upto (s : _root_.Go.ChangeSpec) : _root_.Go.OpenSpec := { _root_.Go.OpenSpec.ofChange s with cond := some uptoSmall }

/-- 'dunnagelaw09.BookStates', WHERE WHAT IT READS IS OF BULK AT MOST 1048576: true; the input reads as it did. -/
def bookStatesUptoRow : OpenClaim := { program := "ytjmceebhnjiikaadoor", sum := "5fa1f6b9df1ac248b571e913b5b3c53a3042087423b7ae4e6b344e535ca7e777", func := "dunnage/dunnagelaw09.BookStates", spec := "bookStates", unfollowed := true, recurses := true, named := ["dunnage/ops.many", "dunnage/ops.names"], apart := false, laid := [("dunnage/ops.names", laid_dunnage_ops_names), ("dunnage/ops.many", laid_dunnage_ops_many)], narrowed := true }
def BookStatesUptoSaid : Prop := bookStatesUptoRow.holds Tryd.pinned (OpenSpec.upto bookStatesSpec)

/-- 'dunnagelaw09.BookApplies', WHERE WHAT IT READS IS OF BULK AT MOST 1048576: true; the input reads as it did. -/
def bookAppliesUptoRow : OpenClaim := { program := "ytjmceebhnjiikaadoor", sum := "5fa1f6b9df1ac248b571e913b5b3c53a3042087423b7ae4e6b344e535ca7e777", func := "dunnage/dunnagelaw09.BookApplies", spec := "bookApplies", unfollowed := true, recurses := true, named := ["dunnage/ops.many", "dunnage/ops.names"], apart := false, laid := [("dunnage/ops.names", laid_dunnage_ops_names), ("dunnage/ops.many", laid_dunnage_ops_many)], narrowed := true }
def BookAppliesUptoSaid : Prop := bookAppliesUptoRow.holds Tryd.pinned (OpenSpec.upto bookAppliesSpec)

/-- 'dunnagelaw09.BookRuns', WHERE WHAT IT READS IS OF BULK AT MOST 1048576: true; the input reads as it did. -/
def bookRunsUptoRow : OpenClaim := { program := "ytjmceebhnjiikaadoor", sum := "5fa1f6b9df1ac248b571e913b5b3c53a3042087423b7ae4e6b344e535ca7e777", func := "dunnage/dunnagelaw09.BookRuns", spec := "bookRuns", unfollowed := true, recurses := true, named := ["dunnage/ops.many", "dunnage/ops.names"], apart := false, laid := [("dunnage/ops.names", laid_dunnage_ops_names), ("dunnage/ops.many", laid_dunnage_ops_many)], narrowed := true }
def BookRunsUptoSaid : Prop := bookRunsUptoRow.holds Tryd.pinned (OpenSpec.upto bookRunsSpec)

/-- 'dunnagelaw09.BookStays', WHERE WHAT IT READS IS OF BULK AT MOST 1048576: true; the input reads as it did. -/
def bookStaysUptoRow : OpenClaim := { program := "ytjmceebhnjiikaadoor", sum := "5fa1f6b9df1ac248b571e913b5b3c53a3042087423b7ae4e6b344e535ca7e777", func := "dunnage/dunnagelaw09.BookStays", spec := "bookStays", unfollowed := true, recurses := true, named := ["dunnage/ops.many", "dunnage/ops.names"], apart := false, laid := [("dunnage/ops.names", laid_dunnage_ops_names), ("dunnage/ops.many", laid_dunnage_ops_many)], narrowed := true }
def BookStaysUptoSaid : Prop := bookStaysUptoRow.holds Tryd.pinned (OpenSpec.upto bookStaysSpec)

/-- 'dunnagelaw09.BookKeeps', WHERE WHAT IT READS IS OF BULK AT MOST 1048576: true; the input reads as it did. -/
def bookKeepsUptoRow : OpenClaim := { program := "ytjmceebhnjiikaadoor", sum := "5fa1f6b9df1ac248b571e913b5b3c53a3042087423b7ae4e6b344e535ca7e777", func := "dunnage/dunnagelaw09.BookKeeps", spec := "bookKeeps", unfollowed := true, recurses := true, named := ["dunnage/ops.many", "dunnage/ops.names"], apart := false, laid := [("dunnage/ops.names", laid_dunnage_ops_names), ("dunnage/ops.many", laid_dunnage_ops_many)], narrowed := true }
def BookKeepsUptoSaid : Prop := bookKeepsUptoRow.holds Tryd.pinned (OpenSpec.upto bookKeepsSpec)

/-- 'dunnagelaw09.BookFrees', WHERE WHAT IT READS IS OF BULK AT MOST 1048576: true; the input reads as it did. -/
def bookFreesUptoRow : OpenClaim := { program := "ytjmceebhnjiikaadoor", sum := "5fa1f6b9df1ac248b571e913b5b3c53a3042087423b7ae4e6b344e535ca7e777", func := "dunnage/dunnagelaw09.BookFrees", spec := "bookFrees", unfollowed := true, recurses := true, named := ["dunnage/ops.many", "dunnage/ops.names"], apart := false, laid := [("dunnage/ops.names", laid_dunnage_ops_names), ("dunnage/ops.many", laid_dunnage_ops_many)], narrowed := true }
def BookFreesUptoSaid : Prop := bookFreesUptoRow.holds Tryd.pinned (OpenSpec.upto bookFreesSpec)

/-- 'dunnagelaw09.BookBack', WHERE WHAT IT READS IS OF BULK AT MOST 1048576: true; the input reads as it did. -/
def bookBackUptoRow : OpenClaim := { program := "ytjmceebhnjiikaadoor", sum := "5fa1f6b9df1ac248b571e913b5b3c53a3042087423b7ae4e6b344e535ca7e777", func := "dunnage/dunnagelaw09.BookBack", spec := "bookBack", unfollowed := true, recurses := true, named := ["dunnage/ops.many", "dunnage/ops.names"], apart := false, laid := [("dunnage/ops.names", laid_dunnage_ops_names), ("dunnage/ops.many", laid_dunnage_ops_many)], narrowed := true }
def BookBackUptoSaid : Prop := bookBackUptoRow.holds Tryd.pinned (OpenSpec.upto bookBackSpec)

/-- 'dunnagelaw09.BookAlone', WHERE WHAT IT READS IS OF BULK AT MOST 1048576: true; the input reads as it did. -/
def bookAloneUptoRow : OpenClaim := { program := "ytjmceebhnjiikaadoor", sum := "5fa1f6b9df1ac248b571e913b5b3c53a3042087423b7ae4e6b344e535ca7e777", func := "dunnage/dunnagelaw09.BookAlone", spec := "bookAlone", unfollowed := true, recurses := true, named := ["dunnage/ops.many", "dunnage/ops.names"], apart := false, laid := [("dunnage/ops.names", laid_dunnage_ops_names), ("dunnage/ops.many", laid_dunnage_ops_many)], narrowed := true }
def BookAloneUptoSaid : Prop := bookAloneUptoRow.holds Tryd.pinned (OpenSpec.upto bookAloneSpec)

/-- 'dunnagelaw17.WaveOK', WHERE WHAT IT READS IS OF BULK AT MOST 1048576: true; the input reads as it did. -/
def waveOKUptoRow : OpenClaim := { program := "ytjmceebhnjiikaadoor", sum := "5fa1f6b9df1ac248b571e913b5b3c53a3042087423b7ae4e6b344e535ca7e777", func := "dunnage/dunnagelaw17.WaveOK", spec := "waveOK", unfollowed := true, recurses := true, named := ["dunnage/ops.many", "dunnage/ops.names"], apart := false, laid := [("dunnage/ops.names", laid_dunnage_ops_names), ("dunnage/ops.many", laid_dunnage_ops_many)], narrowed := true }
def WaveOKUptoSaid : Prop := waveOKUptoRow.holds Tryd.pinned (OpenSpec.upto waveOKSpec)

/-- 'dunnagelaw17.WaveWidth', WHERE WHAT IT READS IS OF BULK AT MOST 1048576: true; the input reads as it did. -/
def waveWidthUptoRow : OpenClaim := { program := "ytjmceebhnjiikaadoor", sum := "5fa1f6b9df1ac248b571e913b5b3c53a3042087423b7ae4e6b344e535ca7e777", func := "dunnage/dunnagelaw17.WaveWidth", spec := "waveWidth", unfollowed := true, recurses := true, named := ["dunnage/ops.many", "dunnage/ops.names"], apart := false, laid := [("dunnage/ops.names", laid_dunnage_ops_names), ("dunnage/ops.many", laid_dunnage_ops_many)], narrowed := true }
def WaveWidthUptoSaid : Prop := waveWidthUptoRow.holds Tryd.pinned (OpenSpec.upto waveWidthSpec)

/-- 'dunnagelaw20.FactsOK', WHERE WHAT IT READS IS OF BULK AT MOST 1048576: true; the input reads as it did. -/
def factsOKUptoRow : OpenClaim := { program := "ytjmceebhnjiikaadoor", sum := "5fa1f6b9df1ac248b571e913b5b3c53a3042087423b7ae4e6b344e535ca7e777", func := "dunnage/dunnagelaw20.FactsOK", spec := "factsOK", unfollowed := true, recurses := true, named := ["dunnage/ops.many", "dunnage/ops.names"], apart := false, laid := [("dunnage/ops.names", laid_dunnage_ops_names), ("dunnage/ops.many", laid_dunnage_ops_many)], narrowed := true }
def FactsOKUptoSaid : Prop := factsOKUptoRow.holds Tryd.pinned (OpenSpec.upto factsOKSpec)

end Rows
end Go.Proofs.YtjmceebhnjiikaaDoor
