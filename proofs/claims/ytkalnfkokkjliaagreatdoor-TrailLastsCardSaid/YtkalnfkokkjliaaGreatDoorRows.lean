/-
  NARROWER THAN 'FOR EVERY INPUT', by the rows' own cells (each row's printed sentence says how): TrailStates: laid · TrailSteps: laid · CtlBoots: laid · CtlLasts: laid · CtlFirst: laid · CtlSilence: laid · CtlAsks: laid · CtlTwice: laid · CtlRuns: laid · TrailLasts: laid.
  DERIVED. THE GIVEN ROWS OF THIS SEAT. 10 by the template 'for every input the law returns true; each argument reads behind the call as it read before'; 0 by the template 'total and deterministic' (their statements: YtkalnfkokkjliaaGreatDoorTotals.lean).
  GIVEN WITH THE SEED: the statements are not yours to turn. If you find one false, say at which input.
  Laid BY PROGRAM, IN A SANDBOX (cutbox-rows.mjs): the forced cells as the released guide's own fill.sh prints them over the translation 162264c21fe24da2… (all of the seat's roots in one cut). By AI agents, Wed Nov 11 2026. No macro, syntax, notation, axiom, sorry.
-/
import Derived.Test.YtkalnfkokkjliaaGreatDoorChecked
import GoSem.Claim
import GoSem.ClaimJoined
import GoSem.ClaimMapViews
import Derived.JoinedTies
import Derived.KernelRfl
namespace Go.Proofs.YtkalnfkokkjliaaGreatDoor
/- THE CELL 'sum', in the pinned program and in every row, IS THE sha256 OF THE DUMP (.gsa) THAT YtkalnfkokkjliaaGreatDoorProg.lean LOADS. Nothing in Lean hashes anything: it is a label: what it is worth is what the hold of that sum in a sandbox is worth. -/
noncomputable def Tryz.pinned : Pinned := { name := "ytkalnfkokkjliaagreatdoor", sum := "162264c21fe24da291fd63f4c7667c68f7f5058ac68b02e0364788fe1e9ad4e2", checked := Tryz.checked }
namespace Rows
def none {H : Type} : Left H := { results := [], args := [] }

/- WHAT THE LISTED PACKAGE-LEVEL VARIABLES READ AS WHEN THE CALL BEGINS. Each datum BY PROGRAM (the guide's laid-datum.mjs) off the statement by which the dump's own 'gosem.cut.vars' lays the variable. In a bare row this is a premise. The card (YtkalnfkokkjliaaGreatDoorCards.lean) ties it to the program's text. -/
def laid_math_bits_deBruijn32tab {H : Type} : DataW H := .agg [.lit (.int .u8 0), .lit (.int .u8 1), .lit (.int .u8 28), .lit (.int .u8 2), .lit (.int .u8 29), .lit (.int .u8 14), .lit (.int .u8 24), .lit (.int .u8 3), .lit (.int .u8 30), .lit (.int .u8 22), .lit (.int .u8 20), .lit (.int .u8 15), .lit (.int .u8 25), .lit (.int .u8 17), .lit (.int .u8 4), .lit (.int .u8 8), .lit (.int .u8 31), .lit (.int .u8 27), .lit (.int .u8 13), .lit (.int .u8 23), .lit (.int .u8 21), .lit (.int .u8 19), .lit (.int .u8 16), .lit (.int .u8 7), .lit (.int .u8 26), .lit (.int .u8 12), .lit (.int .u8 18), .lit (.int .u8 6), .lit (.int .u8 11), .lit (.int .u8 5), .lit (.int .u8 10), .lit (.int .u8 9)]
def laid_math_bits_deBruijn64tab {H : Type} : DataW H := .agg [.lit (.int .u8 0), .lit (.int .u8 1), .lit (.int .u8 56), .lit (.int .u8 2), .lit (.int .u8 57), .lit (.int .u8 49), .lit (.int .u8 28), .lit (.int .u8 3), .lit (.int .u8 61), .lit (.int .u8 58), .lit (.int .u8 42), .lit (.int .u8 50), .lit (.int .u8 38), .lit (.int .u8 29), .lit (.int .u8 17), .lit (.int .u8 4), .lit (.int .u8 62), .lit (.int .u8 47), .lit (.int .u8 59), .lit (.int .u8 36), .lit (.int .u8 45), .lit (.int .u8 43), .lit (.int .u8 51), .lit (.int .u8 22), .lit (.int .u8 53), .lit (.int .u8 39), .lit (.int .u8 33), .lit (.int .u8 30), .lit (.int .u8 24), .lit (.int .u8 18), .lit (.int .u8 12), .lit (.int .u8 5), .lit (.int .u8 63), .lit (.int .u8 55), .lit (.int .u8 48), .lit (.int .u8 27), .lit (.int .u8 60), .lit (.int .u8 41), .lit (.int .u8 37), .lit (.int .u8 16), .lit (.int .u8 46), .lit (.int .u8 35), .lit (.int .u8 44), .lit (.int .u8 21), .lit (.int .u8 52), .lit (.int .u8 32), .lit (.int .u8 23), .lit (.int .u8 11), .lit (.int .u8 54), .lit (.int .u8 26), .lit (.int .u8 40), .lit (.int .u8 15), .lit (.int .u8 34), .lit (.int .u8 20), .lit (.int .u8 31), .lit (.int .u8 10), .lit (.int .u8 25), .lit (.int .u8 14), .lit (.int .u8 19), .lit (.int .u8 9), .lit (.int .u8 13), .lit (.int .u8 8), .lit (.int .u8 7), .lit (.int .u8 6)]
def laid_internal_strconv_uint64pow10 {H : Type} : DataW H := .agg [.lit (.int .u64 1), .lit (.int .u64 10), .lit (.int .u64 100), .lit (.int .u64 1000), .lit (.int .u64 10000), .lit (.int .u64 100000), .lit (.int .u64 1000000), .lit (.int .u64 10000000), .lit (.int .u64 100000000), .lit (.int .u64 1000000000), .lit (.int .u64 10000000000), .lit (.int .u64 100000000000), .lit (.int .u64 1000000000000), .lit (.int .u64 10000000000000), .lit (.int .u64 100000000000000), .lit (.int .u64 1000000000000000), .lit (.int .u64 10000000000000000), .lit (.int .u64 100000000000000000), .lit (.int .u64 1000000000000000000), .lit (.int .u64 10000000000000000000)]
def laid_dunnage_ops_names {H : Type} : DataW H := .agg [.lit (.string []), .lit (.string [115, 117, 98, 109, 105, 116]), .lit (.string [99, 97, 110, 99, 101, 108]), .lit (.string [116, 97, 114, 103, 101, 116]), .lit (.string [112, 97, 117, 115, 101]), .lit (.string [114, 101, 115, 117, 109, 101]), .lit (.string [97, 98, 111, 114, 116]), .lit (.string [100, 111, 119, 110]), .lit (.string [117, 112]), .lit (.string [104, 111, 108, 100]), .lit (.string [115, 116, 97, 114, 116]), .lit (.string [117, 110, 104, 111, 108, 100]), .lit (.string [100, 114, 97, 105, 110]), .lit (.string [115, 97, 118, 101, 100]), .lit (.string [101, 118, 105, 99, 116]), .lit (.string [100, 111, 110, 101]), .lit (.string [99, 111, 114, 100, 111, 110]), .lit (.string [117, 110, 99, 111, 114, 100, 111, 110]), .lit (.string [109, 111, 118, 101]), .lit (.string [109, 111, 118, 101, 100]), .lit (.string [115, 104, 114, 105, 110, 107]), .lit (.string [110, 101, 119, 116, 101, 114, 109])]
def laid_dunnage_ops_many {H : Type} : DataW H := .agg [.lit (.int .i64 0), .lit (.int .i64 6), .lit (.int .i64 1), .lit (.int .i64 1), .lit (.int .i64 0), .lit (.int .i64 0), .lit (.int .i64 0), .lit (.int .i64 1), .lit (.int .i64 2), .lit (.int .i64 2), .lit (.int .i64 2), .lit (.int .i64 1), .lit (.int .i64 2), .lit (.int .i64 2), .lit (.int .i64 1), .lit (.int .i64 1), .lit (.int .i64 1), .lit (.int .i64 1), .lit (.int .i64 1), .lit (.int .i64 2), .lit (.int .i64 2), .lit (.int .i64 0)]

/-- 'dunnagelaw26.TrailStates': WHATEVER THE INPUT: true; the input reads as it did. -/
def trailStatesSpec : ChangeSpec := { name := "trailStates", fn := fun _ => fun
  | [d1, d2, d3, d4, d5] => { results := [.lit (.bool true)], args := [d1, d2, d3, d4, d5] }
  | _ => none }
def trailStatesRow : OpenClaim := { program := "ytkalnfkokkjliaagreatdoor", sum := "162264c21fe24da291fd63f4c7667c68f7f5058ac68b02e0364788fe1e9ad4e2", func := "dunnage/dunnagelaw26.TrailStates", spec := "trailStates", inPlace := ["sync/atomic.AddInt64"], unfollowed := true, recurses := true, named := ["dunnage/ops.many", "dunnage/ops.names", "internal/strconv.uint64pow10", "math/bits.deBruijn32tab", "math/bits.deBruijn64tab"], apart := false, laid := [("math/bits.deBruijn32tab", laid_math_bits_deBruijn32tab), ("math/bits.deBruijn64tab", laid_math_bits_deBruijn64tab), ("internal/strconv.uint64pow10", laid_internal_strconv_uint64pow10), ("dunnage/ops.names", laid_dunnage_ops_names), ("dunnage/ops.many", laid_dunnage_ops_many)] }
def TrailStatesSaid : Prop := trailStatesRow.holds Tryz.pinned (OpenSpec.ofChange trailStatesSpec)

/-- ITS FALSE NEIGHBOUR: 'it returns false'. Refute it at one input. -/
def trailStatesWrong : ChangeSpec := { name := "trailStates", fn := fun _ => fun
  | [d1, d2, d3, d4, d5] => { results := [.lit (.bool false)], args := [d1, d2, d3, d4, d5] }
  | _ => none }
def TrailStatesWrongFalsely : Prop := trailStatesRow.holds Tryz.pinned (OpenSpec.ofChange trailStatesWrong)

/-- 'dunnagelaw26.TrailSteps': WHATEVER THE INPUT: true; the input reads as it did. -/
def trailStepsSpec : ChangeSpec := { name := "trailSteps", fn := fun _ => fun
  | [d1, d2] => { results := [.lit (.bool true)], args := [d1, d2] }
  | _ => none }
def trailStepsRow : OpenClaim := { program := "ytkalnfkokkjliaagreatdoor", sum := "162264c21fe24da291fd63f4c7667c68f7f5058ac68b02e0364788fe1e9ad4e2", func := "dunnage/dunnagelaw26.TrailSteps", spec := "trailSteps", inPlace := ["sync/atomic.AddInt64"], unfollowed := true, recurses := true, named := ["dunnage/ops.many", "dunnage/ops.names", "internal/strconv.uint64pow10", "math/bits.deBruijn32tab", "math/bits.deBruijn64tab"], apart := false, laid := [("math/bits.deBruijn32tab", laid_math_bits_deBruijn32tab), ("math/bits.deBruijn64tab", laid_math_bits_deBruijn64tab), ("internal/strconv.uint64pow10", laid_internal_strconv_uint64pow10), ("dunnage/ops.names", laid_dunnage_ops_names), ("dunnage/ops.many", laid_dunnage_ops_many)] }
def TrailStepsSaid : Prop := trailStepsRow.holds Tryz.pinned (OpenSpec.ofChange trailStepsSpec)

/-- ITS FALSE NEIGHBOUR: 'it returns false'. Refute it at one input. -/
def trailStepsWrong : ChangeSpec := { name := "trailSteps", fn := fun _ => fun
  | [d1, d2] => { results := [.lit (.bool false)], args := [d1, d2] }
  | _ => none }
def TrailStepsWrongFalsely : Prop := trailStepsRow.holds Tryz.pinned (OpenSpec.ofChange trailStepsWrong)

/-- 'dunnagelaw21.CtlBoots': WHATEVER THE INPUT: true; the input reads as it did. -/
def ctlBootsSpec : ChangeSpec := { name := "ctlBoots", fn := fun _ => fun
  | [d1, d2, d3] => { results := [.lit (.bool true)], args := [d1, d2, d3] }
  | _ => none }
def ctlBootsRow : OpenClaim := { program := "ytkalnfkokkjliaagreatdoor", sum := "162264c21fe24da291fd63f4c7667c68f7f5058ac68b02e0364788fe1e9ad4e2", func := "dunnage/dunnagelaw21.CtlBoots", spec := "ctlBoots", inPlace := ["sync/atomic.AddInt64", "sync/atomic.LoadInt64"], unfollowed := true, recurses := true, named := ["dunnage/ops.many", "dunnage/ops.names", "math/bits.deBruijn32tab", "math/bits.deBruijn64tab"], apart := false, laid := [("math/bits.deBruijn32tab", laid_math_bits_deBruijn32tab), ("math/bits.deBruijn64tab", laid_math_bits_deBruijn64tab), ("dunnage/ops.names", laid_dunnage_ops_names), ("dunnage/ops.many", laid_dunnage_ops_many)] }
def CtlBootsSaid : Prop := ctlBootsRow.holds Tryz.pinned (OpenSpec.ofChange ctlBootsSpec)

/-- ITS FALSE NEIGHBOUR: 'it returns false'. Refute it at one input. -/
def ctlBootsWrong : ChangeSpec := { name := "ctlBoots", fn := fun _ => fun
  | [d1, d2, d3] => { results := [.lit (.bool false)], args := [d1, d2, d3] }
  | _ => none }
def CtlBootsWrongFalsely : Prop := ctlBootsRow.holds Tryz.pinned (OpenSpec.ofChange ctlBootsWrong)

/-- 'dunnagelaw21.CtlLasts': WHATEVER THE INPUT: true; the input reads as it did. -/
def ctlLastsSpec : ChangeSpec := { name := "ctlLasts", fn := fun _ => fun
  | [d1, d2] => { results := [.lit (.bool true)], args := [d1, d2] }
  | _ => none }
def ctlLastsRow : OpenClaim := { program := "ytkalnfkokkjliaagreatdoor", sum := "162264c21fe24da291fd63f4c7667c68f7f5058ac68b02e0364788fe1e9ad4e2", func := "dunnage/dunnagelaw21.CtlLasts", spec := "ctlLasts", inPlace := ["sync/atomic.AddInt64", "sync/atomic.LoadInt64"], unfollowed := true, recurses := true, named := ["dunnage/ops.many", "dunnage/ops.names", "math/bits.deBruijn32tab", "math/bits.deBruijn64tab"], apart := false, laid := [("math/bits.deBruijn32tab", laid_math_bits_deBruijn32tab), ("math/bits.deBruijn64tab", laid_math_bits_deBruijn64tab), ("dunnage/ops.names", laid_dunnage_ops_names), ("dunnage/ops.many", laid_dunnage_ops_many)] }
def CtlLastsSaid : Prop := ctlLastsRow.holds Tryz.pinned (OpenSpec.ofChange ctlLastsSpec)

/-- ITS FALSE NEIGHBOUR: 'it returns false'. Refute it at one input. -/
def ctlLastsWrong : ChangeSpec := { name := "ctlLasts", fn := fun _ => fun
  | [d1, d2] => { results := [.lit (.bool false)], args := [d1, d2] }
  | _ => none }
def CtlLastsWrongFalsely : Prop := ctlLastsRow.holds Tryz.pinned (OpenSpec.ofChange ctlLastsWrong)

/-- 'dunnagelaw21.CtlFirst': WHATEVER THE INPUT: true; the input reads as it did. -/
def ctlFirstSpec : ChangeSpec := { name := "ctlFirst", fn := fun _ => fun
  | [d1, d2] => { results := [.lit (.bool true)], args := [d1, d2] }
  | _ => none }
def ctlFirstRow : OpenClaim := { program := "ytkalnfkokkjliaagreatdoor", sum := "162264c21fe24da291fd63f4c7667c68f7f5058ac68b02e0364788fe1e9ad4e2", func := "dunnage/dunnagelaw21.CtlFirst", spec := "ctlFirst", inPlace := ["sync/atomic.AddInt64", "sync/atomic.LoadInt64"], unfollowed := true, recurses := true, named := ["dunnage/ops.many", "dunnage/ops.names", "math/bits.deBruijn32tab", "math/bits.deBruijn64tab"], apart := false, laid := [("math/bits.deBruijn32tab", laid_math_bits_deBruijn32tab), ("math/bits.deBruijn64tab", laid_math_bits_deBruijn64tab), ("dunnage/ops.names", laid_dunnage_ops_names), ("dunnage/ops.many", laid_dunnage_ops_many)] }
def CtlFirstSaid : Prop := ctlFirstRow.holds Tryz.pinned (OpenSpec.ofChange ctlFirstSpec)

/-- ITS FALSE NEIGHBOUR: 'it returns false'. Refute it at one input. -/
def ctlFirstWrong : ChangeSpec := { name := "ctlFirst", fn := fun _ => fun
  | [d1, d2] => { results := [.lit (.bool false)], args := [d1, d2] }
  | _ => none }
def CtlFirstWrongFalsely : Prop := ctlFirstRow.holds Tryz.pinned (OpenSpec.ofChange ctlFirstWrong)

/-- 'dunnagelaw21.CtlSilence': WHATEVER THE INPUT: true; the input reads as it did. -/
def ctlSilenceSpec : ChangeSpec := { name := "ctlSilence", fn := fun _ => fun
  | [d1, d2] => { results := [.lit (.bool true)], args := [d1, d2] }
  | _ => none }
def ctlSilenceRow : OpenClaim := { program := "ytkalnfkokkjliaagreatdoor", sum := "162264c21fe24da291fd63f4c7667c68f7f5058ac68b02e0364788fe1e9ad4e2", func := "dunnage/dunnagelaw21.CtlSilence", spec := "ctlSilence", inPlace := ["sync/atomic.AddInt64", "sync/atomic.LoadInt64"], unfollowed := true, recurses := true, named := ["dunnage/ops.many", "dunnage/ops.names", "math/bits.deBruijn32tab", "math/bits.deBruijn64tab"], apart := false, laid := [("math/bits.deBruijn32tab", laid_math_bits_deBruijn32tab), ("math/bits.deBruijn64tab", laid_math_bits_deBruijn64tab), ("dunnage/ops.names", laid_dunnage_ops_names), ("dunnage/ops.many", laid_dunnage_ops_many)] }
def CtlSilenceSaid : Prop := ctlSilenceRow.holds Tryz.pinned (OpenSpec.ofChange ctlSilenceSpec)

/-- ITS FALSE NEIGHBOUR: 'it returns false'. Refute it at one input. -/
def ctlSilenceWrong : ChangeSpec := { name := "ctlSilence", fn := fun _ => fun
  | [d1, d2] => { results := [.lit (.bool false)], args := [d1, d2] }
  | _ => none }
def CtlSilenceWrongFalsely : Prop := ctlSilenceRow.holds Tryz.pinned (OpenSpec.ofChange ctlSilenceWrong)

/-- 'dunnagelaw21.CtlAsks': WHATEVER THE INPUT: true; the input reads as it did. -/
def ctlAsksSpec : ChangeSpec := { name := "ctlAsks", fn := fun _ => fun
  | [d1, d2] => { results := [.lit (.bool true)], args := [d1, d2] }
  | _ => none }
def ctlAsksRow : OpenClaim := { program := "ytkalnfkokkjliaagreatdoor", sum := "162264c21fe24da291fd63f4c7667c68f7f5058ac68b02e0364788fe1e9ad4e2", func := "dunnage/dunnagelaw21.CtlAsks", spec := "ctlAsks", inPlace := ["sync/atomic.AddInt64", "sync/atomic.LoadInt64"], unfollowed := true, recurses := true, named := ["dunnage/ops.many", "dunnage/ops.names", "math/bits.deBruijn32tab", "math/bits.deBruijn64tab"], apart := false, laid := [("math/bits.deBruijn32tab", laid_math_bits_deBruijn32tab), ("math/bits.deBruijn64tab", laid_math_bits_deBruijn64tab), ("dunnage/ops.names", laid_dunnage_ops_names), ("dunnage/ops.many", laid_dunnage_ops_many)] }
def CtlAsksSaid : Prop := ctlAsksRow.holds Tryz.pinned (OpenSpec.ofChange ctlAsksSpec)

/-- ITS FALSE NEIGHBOUR: 'it returns false'. Refute it at one input. -/
def ctlAsksWrong : ChangeSpec := { name := "ctlAsks", fn := fun _ => fun
  | [d1, d2] => { results := [.lit (.bool false)], args := [d1, d2] }
  | _ => none }
def CtlAsksWrongFalsely : Prop := ctlAsksRow.holds Tryz.pinned (OpenSpec.ofChange ctlAsksWrong)

/-- 'dunnagelaw21.CtlTwice': WHATEVER THE INPUT: true; the input reads as it did. -/
def ctlTwiceSpec : ChangeSpec := { name := "ctlTwice", fn := fun _ => fun
  | [d1, d2] => { results := [.lit (.bool true)], args := [d1, d2] }
  | _ => none }
def ctlTwiceRow : OpenClaim := { program := "ytkalnfkokkjliaagreatdoor", sum := "162264c21fe24da291fd63f4c7667c68f7f5058ac68b02e0364788fe1e9ad4e2", func := "dunnage/dunnagelaw21.CtlTwice", spec := "ctlTwice", inPlace := ["sync/atomic.AddInt64", "sync/atomic.LoadInt64"], unfollowed := true, recurses := true, named := ["dunnage/ops.many", "dunnage/ops.names", "math/bits.deBruijn32tab", "math/bits.deBruijn64tab"], apart := false, laid := [("math/bits.deBruijn32tab", laid_math_bits_deBruijn32tab), ("math/bits.deBruijn64tab", laid_math_bits_deBruijn64tab), ("dunnage/ops.names", laid_dunnage_ops_names), ("dunnage/ops.many", laid_dunnage_ops_many)] }
def CtlTwiceSaid : Prop := ctlTwiceRow.holds Tryz.pinned (OpenSpec.ofChange ctlTwiceSpec)

/-- ITS FALSE NEIGHBOUR: 'it returns false'. Refute it at one input. -/
def ctlTwiceWrong : ChangeSpec := { name := "ctlTwice", fn := fun _ => fun
  | [d1, d2] => { results := [.lit (.bool false)], args := [d1, d2] }
  | _ => none }
def CtlTwiceWrongFalsely : Prop := ctlTwiceRow.holds Tryz.pinned (OpenSpec.ofChange ctlTwiceWrong)

/-- 'dunnagelaw21.CtlRuns': WHATEVER THE INPUT: true; the input reads as it did. -/
def ctlRunsSpec : ChangeSpec := { name := "ctlRuns", fn := fun _ => fun
  | [d1, d2] => { results := [.lit (.bool true)], args := [d1, d2] }
  | _ => none }
def ctlRunsRow : OpenClaim := { program := "ytkalnfkokkjliaagreatdoor", sum := "162264c21fe24da291fd63f4c7667c68f7f5058ac68b02e0364788fe1e9ad4e2", func := "dunnage/dunnagelaw21.CtlRuns", spec := "ctlRuns", inPlace := ["sync/atomic.AddInt64", "sync/atomic.LoadInt64"], unfollowed := true, recurses := true, named := ["dunnage/ops.many", "dunnage/ops.names", "math/bits.deBruijn32tab", "math/bits.deBruijn64tab"], apart := false, laid := [("math/bits.deBruijn32tab", laid_math_bits_deBruijn32tab), ("math/bits.deBruijn64tab", laid_math_bits_deBruijn64tab), ("dunnage/ops.names", laid_dunnage_ops_names), ("dunnage/ops.many", laid_dunnage_ops_many)] }
def CtlRunsSaid : Prop := ctlRunsRow.holds Tryz.pinned (OpenSpec.ofChange ctlRunsSpec)

/-- ITS FALSE NEIGHBOUR: 'it returns false'. Refute it at one input. -/
def ctlRunsWrong : ChangeSpec := { name := "ctlRuns", fn := fun _ => fun
  | [d1, d2] => { results := [.lit (.bool false)], args := [d1, d2] }
  | _ => none }
def CtlRunsWrongFalsely : Prop := ctlRunsRow.holds Tryz.pinned (OpenSpec.ofChange ctlRunsWrong)

/-- 'dunnagelaw26.TrailLasts': WHATEVER THE INPUT: true; the input reads as it did. -/
def trailLastsSpec : ChangeSpec := { name := "trailLasts", fn := fun _ => fun
  | [d1, d2] => { results := [.lit (.bool true)], args := [d1, d2] }
  | _ => none }
def trailLastsRow : OpenClaim := { program := "ytkalnfkokkjliaagreatdoor", sum := "162264c21fe24da291fd63f4c7667c68f7f5058ac68b02e0364788fe1e9ad4e2", func := "dunnage/dunnagelaw26.TrailLasts", spec := "trailLasts", inPlace := ["sync/atomic.AddInt64", "sync/atomic.LoadInt64"], unfollowed := true, recurses := true, named := ["dunnage/ops.many", "dunnage/ops.names", "internal/strconv.uint64pow10", "math/bits.deBruijn32tab", "math/bits.deBruijn64tab"], apart := false, laid := [("math/bits.deBruijn32tab", laid_math_bits_deBruijn32tab), ("math/bits.deBruijn64tab", laid_math_bits_deBruijn64tab), ("internal/strconv.uint64pow10", laid_internal_strconv_uint64pow10), ("dunnage/ops.names", laid_dunnage_ops_names), ("dunnage/ops.many", laid_dunnage_ops_many)] }
def TrailLastsSaid : Prop := trailLastsRow.holds Tryz.pinned (OpenSpec.ofChange trailLastsSpec)

/-- ITS FALSE NEIGHBOUR: 'it returns false'. Refute it at one input. -/
def trailLastsWrong : ChangeSpec := { name := "trailLasts", fn := fun _ => fun
  | [d1, d2] => { results := [.lit (.bool false)], args := [d1, d2] }
  | _ => none }
def TrailLastsWrongFalsely : Prop := trailLastsRow.holds Tryz.pinned (OpenSpec.ofChange trailLastsWrong)

/- THE SECOND FORM. 'bulk': how many values and letters a reading holds, each counted each time it is reached (what is shared counts as often as it is met; a slice's spare places count too). A statement '..UptoSaid' is the law's where the arguments, and the package variables that the reading takes, are together of bulk at most 1048576: NARROWER than '..Said'. Prove '..Said' where nothing that the law and all that it calls make is longer than what came in: it says more and counts as full. Else prove '..UptoSaid'. A law counts once. -/
mutual
def uptoBulk {H : Type} : DataW H → Nat
  | .lit (.string bytes) => bytes.length + 1
  | .lit _ => 1
  | .nil => 1
  | .ptr d => uptoBulk d + 1
  | .slice elems spare => uptoBulkAll elems + uptoBulkAll spare + 1
  | .agg parts => uptoBulkAll parts + 1
  | .iface _ d => uptoBulk d + 1
  | .map entries => uptoBulkEntries entries + 1
  | .held _ => 1
def uptoBulkAll {H : Type} : List (DataW H) → Nat
  | [] => 0
  | d :: r => uptoBulk d + uptoBulkAll r
def uptoBulkEntries {H : Type} : List (Lit × DataW H) → Nat
  | [] => 0
  | x :: r => uptoBulkEntry x + uptoBulkEntries r
def uptoBulkEntry {H : Type} : Lit × DataW H → Nat
  | (.string bytes, d) => bytes.length + uptoBulk d + 1
  | (_, d) => uptoBulk d + 1
 end
def uptoSmall : (H : Type) → List (DataW H) → Bool := fun _ ds => decide (uptoBulkAll ds ≤ 1048576)
def OpenSpec.upto (s : _root_.Go.ChangeSpec) : _root_.Go.OpenSpec := { _root_.Go.OpenSpec.ofChange s with cond := some uptoSmall }

/-- 'dunnagelaw26.TrailStates', WHERE WHAT IT READS IS OF BULK AT MOST 1048576: true; the input reads as it did. -/
def trailStatesUptoRow : OpenClaim := { program := "ytkalnfkokkjliaagreatdoor", sum := "162264c21fe24da291fd63f4c7667c68f7f5058ac68b02e0364788fe1e9ad4e2", func := "dunnage/dunnagelaw26.TrailStates", spec := "trailStates", inPlace := ["sync/atomic.AddInt64"], unfollowed := true, recurses := true, named := ["dunnage/ops.many", "dunnage/ops.names", "internal/strconv.uint64pow10", "math/bits.deBruijn32tab", "math/bits.deBruijn64tab"], apart := false, laid := [("math/bits.deBruijn32tab", laid_math_bits_deBruijn32tab), ("math/bits.deBruijn64tab", laid_math_bits_deBruijn64tab), ("internal/strconv.uint64pow10", laid_internal_strconv_uint64pow10), ("dunnage/ops.names", laid_dunnage_ops_names), ("dunnage/ops.many", laid_dunnage_ops_many)], narrowed := true }
def TrailStatesUptoSaid : Prop := trailStatesUptoRow.holds Tryz.pinned (OpenSpec.upto trailStatesSpec)

/-- 'dunnagelaw26.TrailSteps', WHERE WHAT IT READS IS OF BULK AT MOST 1048576: true; the input reads as it did. -/
def trailStepsUptoRow : OpenClaim := { program := "ytkalnfkokkjliaagreatdoor", sum := "162264c21fe24da291fd63f4c7667c68f7f5058ac68b02e0364788fe1e9ad4e2", func := "dunnage/dunnagelaw26.TrailSteps", spec := "trailSteps", inPlace := ["sync/atomic.AddInt64"], unfollowed := true, recurses := true, named := ["dunnage/ops.many", "dunnage/ops.names", "internal/strconv.uint64pow10", "math/bits.deBruijn32tab", "math/bits.deBruijn64tab"], apart := false, laid := [("math/bits.deBruijn32tab", laid_math_bits_deBruijn32tab), ("math/bits.deBruijn64tab", laid_math_bits_deBruijn64tab), ("internal/strconv.uint64pow10", laid_internal_strconv_uint64pow10), ("dunnage/ops.names", laid_dunnage_ops_names), ("dunnage/ops.many", laid_dunnage_ops_many)], narrowed := true }
def TrailStepsUptoSaid : Prop := trailStepsUptoRow.holds Tryz.pinned (OpenSpec.upto trailStepsSpec)

/-- 'dunnagelaw21.CtlBoots', WHERE WHAT IT READS IS OF BULK AT MOST 1048576: true; the input reads as it did. -/
def ctlBootsUptoRow : OpenClaim := { program := "ytkalnfkokkjliaagreatdoor", sum := "162264c21fe24da291fd63f4c7667c68f7f5058ac68b02e0364788fe1e9ad4e2", func := "dunnage/dunnagelaw21.CtlBoots", spec := "ctlBoots", inPlace := ["sync/atomic.AddInt64", "sync/atomic.LoadInt64"], unfollowed := true, recurses := true, named := ["dunnage/ops.many", "dunnage/ops.names", "math/bits.deBruijn32tab", "math/bits.deBruijn64tab"], apart := false, laid := [("math/bits.deBruijn32tab", laid_math_bits_deBruijn32tab), ("math/bits.deBruijn64tab", laid_math_bits_deBruijn64tab), ("dunnage/ops.names", laid_dunnage_ops_names), ("dunnage/ops.many", laid_dunnage_ops_many)], narrowed := true }
def CtlBootsUptoSaid : Prop := ctlBootsUptoRow.holds Tryz.pinned (OpenSpec.upto ctlBootsSpec)

/-- 'dunnagelaw21.CtlLasts', WHERE WHAT IT READS IS OF BULK AT MOST 1048576: true; the input reads as it did. -/
def ctlLastsUptoRow : OpenClaim := { program := "ytkalnfkokkjliaagreatdoor", sum := "162264c21fe24da291fd63f4c7667c68f7f5058ac68b02e0364788fe1e9ad4e2", func := "dunnage/dunnagelaw21.CtlLasts", spec := "ctlLasts", inPlace := ["sync/atomic.AddInt64", "sync/atomic.LoadInt64"], unfollowed := true, recurses := true, named := ["dunnage/ops.many", "dunnage/ops.names", "math/bits.deBruijn32tab", "math/bits.deBruijn64tab"], apart := false, laid := [("math/bits.deBruijn32tab", laid_math_bits_deBruijn32tab), ("math/bits.deBruijn64tab", laid_math_bits_deBruijn64tab), ("dunnage/ops.names", laid_dunnage_ops_names), ("dunnage/ops.many", laid_dunnage_ops_many)], narrowed := true }
def CtlLastsUptoSaid : Prop := ctlLastsUptoRow.holds Tryz.pinned (OpenSpec.upto ctlLastsSpec)

/-- 'dunnagelaw21.CtlFirst', WHERE WHAT IT READS IS OF BULK AT MOST 1048576: true; the input reads as it did. -/
def ctlFirstUptoRow : OpenClaim := { program := "ytkalnfkokkjliaagreatdoor", sum := "162264c21fe24da291fd63f4c7667c68f7f5058ac68b02e0364788fe1e9ad4e2", func := "dunnage/dunnagelaw21.CtlFirst", spec := "ctlFirst", inPlace := ["sync/atomic.AddInt64", "sync/atomic.LoadInt64"], unfollowed := true, recurses := true, named := ["dunnage/ops.many", "dunnage/ops.names", "math/bits.deBruijn32tab", "math/bits.deBruijn64tab"], apart := false, laid := [("math/bits.deBruijn32tab", laid_math_bits_deBruijn32tab), ("math/bits.deBruijn64tab", laid_math_bits_deBruijn64tab), ("dunnage/ops.names", laid_dunnage_ops_names), ("dunnage/ops.many", laid_dunnage_ops_many)], narrowed := true }
def CtlFirstUptoSaid : Prop := ctlFirstUptoRow.holds Tryz.pinned (OpenSpec.upto ctlFirstSpec)

/-- 'dunnagelaw21.CtlSilence', WHERE WHAT IT READS IS OF BULK AT MOST 1048576: true; the input reads as it did. -/
def ctlSilenceUptoRow : OpenClaim := { program := "ytkalnfkokkjliaagreatdoor", sum := "162264c21fe24da291fd63f4c7667c68f7f5058ac68b02e0364788fe1e9ad4e2", func := "dunnage/dunnagelaw21.CtlSilence", spec := "ctlSilence", inPlace := ["sync/atomic.AddInt64", "sync/atomic.LoadInt64"], unfollowed := true, recurses := true, named := ["dunnage/ops.many", "dunnage/ops.names", "math/bits.deBruijn32tab", "math/bits.deBruijn64tab"], apart := false, laid := [("math/bits.deBruijn32tab", laid_math_bits_deBruijn32tab), ("math/bits.deBruijn64tab", laid_math_bits_deBruijn64tab), ("dunnage/ops.names", laid_dunnage_ops_names), ("dunnage/ops.many", laid_dunnage_ops_many)], narrowed := true }
def CtlSilenceUptoSaid : Prop := ctlSilenceUptoRow.holds Tryz.pinned (OpenSpec.upto ctlSilenceSpec)

/-- 'dunnagelaw21.CtlAsks', WHERE WHAT IT READS IS OF BULK AT MOST 1048576: true; the input reads as it did. -/
def ctlAsksUptoRow : OpenClaim := { program := "ytkalnfkokkjliaagreatdoor", sum := "162264c21fe24da291fd63f4c7667c68f7f5058ac68b02e0364788fe1e9ad4e2", func := "dunnage/dunnagelaw21.CtlAsks", spec := "ctlAsks", inPlace := ["sync/atomic.AddInt64", "sync/atomic.LoadInt64"], unfollowed := true, recurses := true, named := ["dunnage/ops.many", "dunnage/ops.names", "math/bits.deBruijn32tab", "math/bits.deBruijn64tab"], apart := false, laid := [("math/bits.deBruijn32tab", laid_math_bits_deBruijn32tab), ("math/bits.deBruijn64tab", laid_math_bits_deBruijn64tab), ("dunnage/ops.names", laid_dunnage_ops_names), ("dunnage/ops.many", laid_dunnage_ops_many)], narrowed := true }
def CtlAsksUptoSaid : Prop := ctlAsksUptoRow.holds Tryz.pinned (OpenSpec.upto ctlAsksSpec)

/-- 'dunnagelaw21.CtlTwice', WHERE WHAT IT READS IS OF BULK AT MOST 1048576: true; the input reads as it did. -/
def ctlTwiceUptoRow : OpenClaim := { program := "ytkalnfkokkjliaagreatdoor", sum := "162264c21fe24da291fd63f4c7667c68f7f5058ac68b02e0364788fe1e9ad4e2", func := "dunnage/dunnagelaw21.CtlTwice", spec := "ctlTwice", inPlace := ["sync/atomic.AddInt64", "sync/atomic.LoadInt64"], unfollowed := true, recurses := true, named := ["dunnage/ops.many", "dunnage/ops.names", "math/bits.deBruijn32tab", "math/bits.deBruijn64tab"], apart := false, laid := [("math/bits.deBruijn32tab", laid_math_bits_deBruijn32tab), ("math/bits.deBruijn64tab", laid_math_bits_deBruijn64tab), ("dunnage/ops.names", laid_dunnage_ops_names), ("dunnage/ops.many", laid_dunnage_ops_many)], narrowed := true }
def CtlTwiceUptoSaid : Prop := ctlTwiceUptoRow.holds Tryz.pinned (OpenSpec.upto ctlTwiceSpec)

/-- 'dunnagelaw21.CtlRuns', WHERE WHAT IT READS IS OF BULK AT MOST 1048576: true; the input reads as it did. -/
def ctlRunsUptoRow : OpenClaim := { program := "ytkalnfkokkjliaagreatdoor", sum := "162264c21fe24da291fd63f4c7667c68f7f5058ac68b02e0364788fe1e9ad4e2", func := "dunnage/dunnagelaw21.CtlRuns", spec := "ctlRuns", inPlace := ["sync/atomic.AddInt64", "sync/atomic.LoadInt64"], unfollowed := true, recurses := true, named := ["dunnage/ops.many", "dunnage/ops.names", "math/bits.deBruijn32tab", "math/bits.deBruijn64tab"], apart := false, laid := [("math/bits.deBruijn32tab", laid_math_bits_deBruijn32tab), ("math/bits.deBruijn64tab", laid_math_bits_deBruijn64tab), ("dunnage/ops.names", laid_dunnage_ops_names), ("dunnage/ops.many", laid_dunnage_ops_many)], narrowed := true }
def CtlRunsUptoSaid : Prop := ctlRunsUptoRow.holds Tryz.pinned (OpenSpec.upto ctlRunsSpec)

/-- 'dunnagelaw26.TrailLasts', WHERE WHAT IT READS IS OF BULK AT MOST 1048576: true; the input reads as it did. -/
def trailLastsUptoRow : OpenClaim := { program := "ytkalnfkokkjliaagreatdoor", sum := "162264c21fe24da291fd63f4c7667c68f7f5058ac68b02e0364788fe1e9ad4e2", func := "dunnage/dunnagelaw26.TrailLasts", spec := "trailLasts", inPlace := ["sync/atomic.AddInt64", "sync/atomic.LoadInt64"], unfollowed := true, recurses := true, named := ["dunnage/ops.many", "dunnage/ops.names", "internal/strconv.uint64pow10", "math/bits.deBruijn32tab", "math/bits.deBruijn64tab"], apart := false, laid := [("math/bits.deBruijn32tab", laid_math_bits_deBruijn32tab), ("math/bits.deBruijn64tab", laid_math_bits_deBruijn64tab), ("internal/strconv.uint64pow10", laid_internal_strconv_uint64pow10), ("dunnage/ops.names", laid_dunnage_ops_names), ("dunnage/ops.many", laid_dunnage_ops_many)], narrowed := true }
def TrailLastsUptoSaid : Prop := trailLastsUptoRow.holds Tryz.pinned (OpenSpec.upto trailLastsSpec)

end Rows
end Go.Proofs.YtkalnfkokkjliaaGreatDoor
