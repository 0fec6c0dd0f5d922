/-
  NARROWER THAN 'FOR EVERY INPUT', by the rows' own cells (each row's printed sentence says how): ImageTwo: laid.
  DERIVED. THE GIVEN ROWS OF THIS SEAT. 1 by the template 'for every input the law returns true; each argument reads behind the call as it read before'; 0 by the template 'total and deterministic' (their statements: YtbhdfmgphcelhaaDoorTotals.lean).
  GIVEN WITH THE SEED: the statements are not yours to turn. If you find one false, say at which input.
  Laid BY PROGRAM, IN A SANDBOX (cutbox-rows.mjs): the forced cells as the released guide's own fill.sh prints them over the translation b4408365719609e2… (all of the seat's roots in one cut). By AI agents, Wed Nov 11 2026. No macro, syntax, notation, axiom, sorry.
-/
import Derived.Test.YtbhdfmgphcelhaaDoorChecked
import GoSem.Claim
import GoSem.ClaimJoined
import GoSem.ClaimMapViews
import Derived.JoinedTies
import Derived.KernelRfl
namespace Go.Proofs.YtbhdfmgphcelhaaDoor
/- THE CELL 'sum', in the pinned program and in every row, IS THE sha256 OF THE DUMP (.gsa) THAT YtbhdfmgphcelhaaDoorProg.lean LOADS. Nothing in Lean hashes anything: it is a label: what it is worth is what the hold of that sum in a sandbox is worth. -/
noncomputable def Tryd.pinned : Pinned := { name := "ytbhdfmgphcelhaadoor", sum := "b4408365719609e2c25a001215910d6da5f60ce0d1b59c1c0f961080c127473e", checked := Tryd.checked }
namespace Rows
def none {H : Type} : Left H := { results := [], args := [] }

/- WHAT THE LISTED PACKAGE-LEVEL VARIABLES READ AS WHEN THE CALL BEGINS. Each datum BY PROGRAM (the guide's laid-datum.mjs) off the statement by which the dump's own 'gosem.cut.vars' lays the variable. In a bare row this is a premise. The card (YtbhdfmgphcelhaaDoorCards.lean) ties it to the program's text. -/
def laid_dunnage_ops_names {H : Type} : DataW H := .agg [.lit (.string []), .lit (.string [115, 117, 98, 109, 105, 116]), .lit (.string [99, 97, 110, 99, 101, 108]), .lit (.string [116, 97, 114, 103, 101, 116]), .lit (.string [112, 97, 117, 115, 101]), .lit (.string [114, 101, 115, 117, 109, 101]), .lit (.string [97, 98, 111, 114, 116]), .lit (.string [100, 111, 119, 110]), .lit (.string [117, 112]), .lit (.string [104, 111, 108, 100]), .lit (.string [115, 116, 97, 114, 116]), .lit (.string [117, 110, 104, 111, 108, 100]), .lit (.string [100, 114, 97, 105, 110]), .lit (.string [115, 97, 118, 101, 100]), .lit (.string [101, 118, 105, 99, 116]), .lit (.string [100, 111, 110, 101]), .lit (.string [99, 111, 114, 100, 111, 110]), .lit (.string [117, 110, 99, 111, 114, 100, 111, 110]), .lit (.string [109, 111, 118, 101]), .lit (.string [109, 111, 118, 101, 100]), .lit (.string [115, 104, 114, 105, 110, 107]), .lit (.string [110, 101, 119, 116, 101, 114, 109])]
def laid_dunnage_ops_many {H : Type} : DataW H := .agg [.lit (.int .i64 0), .lit (.int .i64 6), .lit (.int .i64 1), .lit (.int .i64 1), .lit (.int .i64 0), .lit (.int .i64 0), .lit (.int .i64 0), .lit (.int .i64 1), .lit (.int .i64 2), .lit (.int .i64 2), .lit (.int .i64 2), .lit (.int .i64 1), .lit (.int .i64 2), .lit (.int .i64 2), .lit (.int .i64 1), .lit (.int .i64 1), .lit (.int .i64 1), .lit (.int .i64 1), .lit (.int .i64 1), .lit (.int .i64 2), .lit (.int .i64 2), .lit (.int .i64 0)]

/-- 'dunnagelaw10.ImageTwo': WHATEVER THE INPUT: true; the input reads as it did. -/
def imageTwoSpec : ChangeSpec := { name := "imageTwo", fn := fun _ => fun
  | [d1, d2, d3] => { results := [.lit (.bool true)], args := [d1, d2, d3] }
  | _ => none }
def imageTwoRow : OpenClaim := { program := "ytbhdfmgphcelhaadoor", sum := "b4408365719609e2c25a001215910d6da5f60ce0d1b59c1c0f961080c127473e", func := "dunnage/dunnagelaw10.ImageTwo", spec := "imageTwo", unfollowed := true, recurses := true, named := ["dunnage/ops.many", "dunnage/ops.names"], apart := false, laid := [("dunnage/ops.names", laid_dunnage_ops_names), ("dunnage/ops.many", laid_dunnage_ops_many)] }
def ImageTwoSaid : Prop := imageTwoRow.holds Tryd.pinned (OpenSpec.ofChange imageTwoSpec)

/-- ITS FALSE NEIGHBOUR: 'it returns false'. Refute it at one input. -/
def imageTwoWrong : ChangeSpec := { name := "imageTwo", fn := fun _ => fun
  | [d1, d2, d3] => { results := [.lit (.bool false)], args := [d1, d2, d3] }
  | _ => none }
def ImageTwoWrongFalsely : Prop := imageTwoRow.holds Tryd.pinned (OpenSpec.ofChange imageTwoWrong)

/- THE SECOND FORM. 'bulk': how many values and letters a reading holds, each counted each time it is reached (what is shared counts as often as it is met; a slice's spare places count too). A statement '..UptoSaid' is the law's where the arguments, and the package variables that the reading takes, are together of bulk at most 1048576: NARROWER than '..Said'. Prove '..Said' where nothing that the law and all that it calls make is longer than what came in: it says more and counts as full. Else prove '..UptoSaid'. A law counts once. -/
mutual
def uptoBulk {H : Type} : DataW H → Nat
  | .lit (.string bytes) => bytes.length + 1
  | .lit _ => 1
  | .nil => 1
  | .ptr d => uptoBulk d + 1
  | .slice elems spare => uptoBulkAll elems + uptoBulkAll spare + 1
  | .agg parts => uptoBulkAll parts + 1
  | .iface _ d => uptoBulk d + 1
  | .map entries => uptoBulkEntries entries + 1
  | .held _ => 1
def uptoBulkAll {H : Type} : List (DataW H) → Nat
  | [] => 0
  | d :: r => uptoBulk d + uptoBulkAll r
def uptoBulkEntries {H : Type} : List (Lit × DataW H) → Nat
  | [] => 0
  | x :: r => uptoBulkEntry x + uptoBulkEntries r
def uptoBulkEntry {H : Type} : Lit × DataW H → Nat
  | (.string bytes, d) => bytes.length + uptoBulk d + 1
  | (_, d) => uptoBulk d + 1
 end
def uptoSmall : (H : Type) → List (DataW H) → Bool := fun _ ds => decide (uptoBulkAll ds ≤ 1048576)
def OpenSpec.upto (s : _root_.Go.ChangeSpec) : _root_.Go.OpenSpec := { _root_.Go.OpenSpec.ofChange s with cond := some uptoSmall }

/-- 'dunnagelaw10.ImageTwo', WHERE WHAT IT READS IS OF BULK AT MOST 1048576: true; the input reads as it did. -/
def imageTwoUptoRow : OpenClaim := { program := "ytbhdfmgphcelhaadoor", sum := "b4408365719609e2c25a001215910d6da5f60ce0d1b59c1c0f961080c127473e", func := "dunnage/dunnagelaw10.ImageTwo", spec := "imageTwo", unfollowed := true, recurses := true, named := ["dunnage/ops.many", "dunnage/ops.names"], apart := false, laid := [("dunnage/ops.names", laid_dunnage_ops_names), ("dunnage/ops.many", laid_dunnage_ops_many)], narrowed := true }
def ImageTwoUptoSaid : Prop := imageTwoUptoRow.holds Tryd.pinned (OpenSpec.upto imageTwoSpec)

end Rows
end Go.Proofs.YtbhdfmgphcelhaaDoor
