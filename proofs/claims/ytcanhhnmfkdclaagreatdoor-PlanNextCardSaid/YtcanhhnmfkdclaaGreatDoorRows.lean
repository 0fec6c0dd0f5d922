/-
  NARROWER THAN 'FOR EVERY INPUT', by the rows' own cells (each row's printed sentence says how): PlanNext: laid · PlanRuns: laid · PlanParts: laid · PlanKeeps: laid.
  DERIVED. THE GIVEN ROWS OF THIS SEAT. 4 by the template 'for every input the law returns true; each argument reads behind the call as it read before'; 0 by the template 'total and deterministic' (their statements: YtcanhhnmfkdclaaGreatDoorTotals.lean).
  GIVEN WITH THE SEED: the statements are not yours to turn. If you find one false, say at which input.
  Laid BY PROGRAM, IN A SANDBOX (cutbox-rows.mjs): the forced cells as the released guide's own fill.sh prints them over the translation b4a0951dc5a19b63… (all of the seat's roots in one cut). By AI agents, Wed Nov 11 2026. No macro, syntax, notation, axiom, sorry.
-/
import Derived.Test.YtcanhhnmfkdclaaGreatDoorChecked
import GoSem.Claim
import GoSem.ClaimJoined
import GoSem.ClaimMapViews
import Derived.JoinedTies
import Derived.KernelRfl
namespace Go.Proofs.YtcanhhnmfkdclaaGreatDoor
/- THE CELL 'sum', in the pinned program and in every row, IS THE sha256 OF THE DUMP (.gsa) THAT YtcanhhnmfkdclaaGreatDoorProg.lean LOADS. Nothing in Lean hashes anything: it is a label: what it is worth is what the hold of that sum in a sandbox is worth. -/
noncomputable def Tryz.pinned : Pinned := { name := "ytcanhhnmfkdclaagreatdoor", sum := "b4a0951dc5a19b63648a05c80def42ee5578d86b43b176e94db2997ce78e6583", checked := Tryz.checked }
namespace Rows
def none {H : Type} : Left H := { results := [], args := [] }

/- WHAT THE LISTED PACKAGE-LEVEL VARIABLES READ AS WHEN THE CALL BEGINS. Each datum BY PROGRAM (the guide's laid-datum.mjs) off the statement by which the dump's own 'gosem.cut.vars' lays the variable. In a bare row this is a premise. The card (YtcanhhnmfkdclaaGreatDoorCards.lean) ties it to the program's text. -/
def laid_dunnage_ops_names {H : Type} : DataW H := .agg [.lit (.string []), .lit (.string [115, 117, 98, 109, 105, 116]), .lit (.string [99, 97, 110, 99, 101, 108]), .lit (.string [116, 97, 114, 103, 101, 116]), .lit (.string [112, 97, 117, 115, 101]), .lit (.string [114, 101, 115, 117, 109, 101]), .lit (.string [97, 98, 111, 114, 116]), .lit (.string [100, 111, 119, 110]), .lit (.string [117, 112]), .lit (.string [104, 111, 108, 100]), .lit (.string [115, 116, 97, 114, 116]), .lit (.string [117, 110, 104, 111, 108, 100]), .lit (.string [100, 114, 97, 105, 110]), .lit (.string [115, 97, 118, 101, 100]), .lit (.string [101, 118, 105, 99, 116]), .lit (.string [100, 111, 110, 101]), .lit (.string [99, 111, 114, 100, 111, 110]), .lit (.string [117, 110, 99, 111, 114, 100, 111, 110]), .lit (.string [109, 111, 118, 101]), .lit (.string [109, 111, 118, 101, 100]), .lit (.string [115, 104, 114, 105, 110, 107]), .lit (.string [110, 101, 119, 116, 101, 114, 109])]
def laid_dunnage_ops_many {H : Type} : DataW H := .agg [.lit (.int .i64 0), .lit (.int .i64 6), .lit (.int .i64 1), .lit (.int .i64 1), .lit (.int .i64 0), .lit (.int .i64 0), .lit (.int .i64 0), .lit (.int .i64 1), .lit (.int .i64 2), .lit (.int .i64 2), .lit (.int .i64 2), .lit (.int .i64 1), .lit (.int .i64 2), .lit (.int .i64 2), .lit (.int .i64 1), .lit (.int .i64 1), .lit (.int .i64 1), .lit (.int .i64 1), .lit (.int .i64 1), .lit (.int .i64 2), .lit (.int .i64 2), .lit (.int .i64 0)]

/-- 'dunnagelaw18.PlanNext': WHATEVER THE INPUT: true; the input reads as it did. -/
def planNextSpec : ChangeSpec := { name := "planNext", fn := fun _ => fun
  | [d1, d2, d3] => { results := [.lit (.bool true)], args := [d1, d2, d3] }
  | _ => none }
def planNextRow : OpenClaim := { program := "ytcanhhnmfkdclaagreatdoor", sum := "b4a0951dc5a19b63648a05c80def42ee5578d86b43b176e94db2997ce78e6583", func := "dunnage/dunnagelaw18.PlanNext", spec := "planNext", unfollowed := true, recurses := true, named := ["dunnage/ops.many", "dunnage/ops.names"], apart := false, laid := [("dunnage/ops.names", laid_dunnage_ops_names), ("dunnage/ops.many", laid_dunnage_ops_many)] }
def PlanNextSaid : Prop := planNextRow.holds Tryz.pinned (OpenSpec.ofChange planNextSpec)

/-- ITS FALSE NEIGHBOUR: 'it returns false'. Refute it at one input. -/
def planNextWrong : ChangeSpec := { name := "planNext", fn := fun _ => fun
  | [d1, d2, d3] => { results := [.lit (.bool false)], args := [d1, d2, d3] }
  | _ => none }
def PlanNextWrongFalsely : Prop := planNextRow.holds Tryz.pinned (OpenSpec.ofChange planNextWrong)

/-- 'dunnagelaw18.PlanRuns': WHATEVER THE INPUT: true; the input reads as it did. -/
def planRunsSpec : ChangeSpec := { name := "planRuns", fn := fun _ => fun
  | [d1, d2, d3, d4] => { results := [.lit (.bool true)], args := [d1, d2, d3, d4] }
  | _ => none }
def planRunsRow : OpenClaim := { program := "ytcanhhnmfkdclaagreatdoor", sum := "b4a0951dc5a19b63648a05c80def42ee5578d86b43b176e94db2997ce78e6583", func := "dunnage/dunnagelaw18.PlanRuns", spec := "planRuns", unfollowed := true, recurses := true, named := ["dunnage/ops.many", "dunnage/ops.names"], apart := false, laid := [("dunnage/ops.names", laid_dunnage_ops_names), ("dunnage/ops.many", laid_dunnage_ops_many)] }
def PlanRunsSaid : Prop := planRunsRow.holds Tryz.pinned (OpenSpec.ofChange planRunsSpec)

/-- ITS FALSE NEIGHBOUR: 'it returns false'. Refute it at one input. -/
def planRunsWrong : ChangeSpec := { name := "planRuns", fn := fun _ => fun
  | [d1, d2, d3, d4] => { results := [.lit (.bool false)], args := [d1, d2, d3, d4] }
  | _ => none }
def PlanRunsWrongFalsely : Prop := planRunsRow.holds Tryz.pinned (OpenSpec.ofChange planRunsWrong)

/-- 'dunnagelaw18.PlanParts': WHATEVER THE INPUT: true; the input reads as it did. -/
def planPartsSpec : ChangeSpec := { name := "planParts", fn := fun _ => fun
  | [d1, d2, d3, d4, d5] => { results := [.lit (.bool true)], args := [d1, d2, d3, d4, d5] }
  | _ => none }
def planPartsRow : OpenClaim := { program := "ytcanhhnmfkdclaagreatdoor", sum := "b4a0951dc5a19b63648a05c80def42ee5578d86b43b176e94db2997ce78e6583", func := "dunnage/dunnagelaw18.PlanParts", spec := "planParts", unfollowed := true, recurses := true, named := ["dunnage/ops.many", "dunnage/ops.names"], apart := false, laid := [("dunnage/ops.names", laid_dunnage_ops_names), ("dunnage/ops.many", laid_dunnage_ops_many)] }
def PlanPartsSaid : Prop := planPartsRow.holds Tryz.pinned (OpenSpec.ofChange planPartsSpec)

/-- ITS FALSE NEIGHBOUR: 'it returns false'. Refute it at one input. -/
def planPartsWrong : ChangeSpec := { name := "planParts", fn := fun _ => fun
  | [d1, d2, d3, d4, d5] => { results := [.lit (.bool false)], args := [d1, d2, d3, d4, d5] }
  | _ => none }
def PlanPartsWrongFalsely : Prop := planPartsRow.holds Tryz.pinned (OpenSpec.ofChange planPartsWrong)

/-- 'dunnagelaw18.PlanKeeps': WHATEVER THE INPUT: true; the input reads as it did. -/
def planKeepsSpec : ChangeSpec := { name := "planKeeps", fn := fun _ => fun
  | [d1, d2, d3] => { results := [.lit (.bool true)], args := [d1, d2, d3] }
  | _ => none }
def planKeepsRow : OpenClaim := { program := "ytcanhhnmfkdclaagreatdoor", sum := "b4a0951dc5a19b63648a05c80def42ee5578d86b43b176e94db2997ce78e6583", func := "dunnage/dunnagelaw18.PlanKeeps", spec := "planKeeps", unfollowed := true, recurses := true, named := ["dunnage/ops.many", "dunnage/ops.names"], apart := false, laid := [("dunnage/ops.names", laid_dunnage_ops_names), ("dunnage/ops.many", laid_dunnage_ops_many)] }
def PlanKeepsSaid : Prop := planKeepsRow.holds Tryz.pinned (OpenSpec.ofChange planKeepsSpec)

/-- ITS FALSE NEIGHBOUR: 'it returns false'. Refute it at one input. -/
def planKeepsWrong : ChangeSpec := { name := "planKeeps", fn := fun _ => fun
  | [d1, d2, d3] => { results := [.lit (.bool false)], args := [d1, d2, d3] }
  | _ => none }
def PlanKeepsWrongFalsely : Prop := planKeepsRow.holds Tryz.pinned (OpenSpec.ofChange planKeepsWrong)

/- THE SECOND FORM. 'bulk': how many values and letters a reading holds, each counted each time it is reached (what is shared counts as often as it is met; a slice's spare places count too). A statement '..UptoSaid' is the law's where the arguments, and the package variables that the reading takes, are together of bulk at most 1048576: NARROWER than '..Said'. Prove '..Said' where nothing that the law and all that it calls make is longer than what came in: it says more and counts as full. Else prove '..UptoSaid'. A law counts once. -/
mutual
def uptoBulk {H : Type} : DataW H → Nat
  | .lit (.string bytes) => bytes.length + 1
  | .lit _ => 1
  | .nil => 1
  | .ptr d => uptoBulk d + 1
  | .slice elems spare => uptoBulkAll elems + uptoBulkAll spare + 1
  | .agg parts => uptoBulkAll parts + 1
  | .iface _ d => uptoBulk d + 1
  | .map entries => uptoBulkEntries entries + 1
  | .held _ => 1
def uptoBulkAll {H : Type} : List (DataW H) → Nat
  | [] => 0
  | d :: r => uptoBulk d + uptoBulkAll r
def uptoBulkEntries {H : Type} : List (Lit × DataW H) → Nat
  | [] => 0
  | x :: r => uptoBulkEntry x + uptoBulkEntries r
def uptoBulkEntry {H : Type} : Lit × DataW H → Nat
  | (.string bytes, d) => bytes.length + uptoBulk d + 1
  | (_, d) => uptoBulk d + 1
 end
def uptoSmall : (H : Type) → List (DataW H) → Bool := fun _ ds => decide (uptoBulkAll ds ≤ 1048576)
def OpenSpec.upto (s : _root_.Go.ChangeSpec) : _root_.Go.OpenSpec := { _root_.Go.OpenSpec.ofChange s with cond := some uptoSmall }

/-- 'dunnagelaw18.PlanNext', WHERE WHAT IT READS IS OF BULK AT MOST 1048576: true; the input reads as it did. -/
def planNextUptoRow : OpenClaim := { program := "ytcanhhnmfkdclaagreatdoor", sum := "b4a0951dc5a19b63648a05c80def42ee5578d86b43b176e94db2997ce78e6583", func := "dunnage/dunnagelaw18.PlanNext", spec := "planNext", unfollowed := true, recurses := true, named := ["dunnage/ops.many", "dunnage/ops.names"], apart := false, laid := [("dunnage/ops.names", laid_dunnage_ops_names), ("dunnage/ops.many", laid_dunnage_ops_many)], narrowed := true }
def PlanNextUptoSaid : Prop := planNextUptoRow.holds Tryz.pinned (OpenSpec.upto planNextSpec)

/-- 'dunnagelaw18.PlanRuns', WHERE WHAT IT READS IS OF BULK AT MOST 1048576: true; the input reads as it did. -/
def planRunsUptoRow : OpenClaim := { program := "ytcanhhnmfkdclaagreatdoor", sum := "b4a0951dc5a19b63648a05c80def42ee5578d86b43b176e94db2997ce78e6583", func := "dunnage/dunnagelaw18.PlanRuns", spec := "planRuns", unfollowed := true, recurses := true, named := ["dunnage/ops.many", "dunnage/ops.names"], apart := false, laid := [("dunnage/ops.names", laid_dunnage_ops_names), ("dunnage/ops.many", laid_dunnage_ops_many)], narrowed := true }
def PlanRunsUptoSaid : Prop := planRunsUptoRow.holds Tryz.pinned (OpenSpec.upto planRunsSpec)

/-- 'dunnagelaw18.PlanParts', WHERE WHAT IT READS IS OF BULK AT MOST 1048576: true; the input reads as it did. -/
def planPartsUptoRow : OpenClaim := { program := "ytcanhhnmfkdclaagreatdoor", sum := "b4a0951dc5a19b63648a05c80def42ee5578d86b43b176e94db2997ce78e6583", func := "dunnage/dunnagelaw18.PlanParts", spec := "planParts", unfollowed := true, recurses := true, named := ["dunnage/ops.many", "dunnage/ops.names"], apart := false, laid := [("dunnage/ops.names", laid_dunnage_ops_names), ("dunnage/ops.many", laid_dunnage_ops_many)], narrowed := true }
def PlanPartsUptoSaid : Prop := planPartsUptoRow.holds Tryz.pinned (OpenSpec.upto planPartsSpec)

/-- 'dunnagelaw18.PlanKeeps', WHERE WHAT IT READS IS OF BULK AT MOST 1048576: true; the input reads as it did. -/
def planKeepsUptoRow : OpenClaim := { program := "ytcanhhnmfkdclaagreatdoor", sum := "b4a0951dc5a19b63648a05c80def42ee5578d86b43b176e94db2997ce78e6583", func := "dunnage/dunnagelaw18.PlanKeeps", spec := "planKeeps", unfollowed := true, recurses := true, named := ["dunnage/ops.many", "dunnage/ops.names"], apart := false, laid := [("dunnage/ops.names", laid_dunnage_ops_names), ("dunnage/ops.many", laid_dunnage_ops_many)], narrowed := true }
def PlanKeepsUptoSaid : Prop := planKeepsUptoRow.holds Tryz.pinned (OpenSpec.upto planKeepsSpec)

end Rows
end Go.Proofs.YtcanhhnmfkdclaaGreatDoor
