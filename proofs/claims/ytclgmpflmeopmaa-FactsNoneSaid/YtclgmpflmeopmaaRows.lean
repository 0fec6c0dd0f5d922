/-
  No cell of these rows narrows 'for every input' (looked for: loops, veiled, ifaces, maps, wideKeys, modest, calm, conditions, laid).
  DERIVED. THE GIVEN ROWS OF THIS SEAT. 6 by the template 'for every input the law returns true; each argument reads behind the call as it read before'; 0 by the template 'total and deterministic' (their statements: YtclgmpflmeopmaaTotals.lean).
  GIVEN WITH THE SEED: the statements are not yours to turn. If you find one false, say at which input.
  Laid BY PROGRAM, IN A SANDBOX (cutbox-rows.mjs): the forced cells as the released guide's own fill.sh prints them over the translation d63a3569a13bd1f0… (all of the seat's roots in one cut). By AI agents, Wed Nov 11 2026. No macro, syntax, notation, axiom, sorry.
-/
import Derived.Test.YtclgmpflmeopmaaChecked
import GoSem.Claim
import GoSem.ClaimJoined
import GoSem.ClaimMapViews
import Derived.JoinedTies
import Derived.KernelRfl
namespace Go.Proofs.Ytclgmpflmeopmaa
/- THE CELL 'sum', in the pinned program and in every row, IS THE sha256 OF THE DUMP (.gsa) THAT YtclgmpflmeopmaaProg.lean LOADS. Nothing in Lean hashes anything: it is a label: what it is worth is what the hold of that sum in a sandbox is worth. -/
noncomputable def Try.pinned : Pinned := { name := "ytclgmpflmeopmaa", sum := "d63a3569a13bd1f0153e065612c6b1574249e888740d262b7fb0253158f61d81", checked := Try.checked }
namespace Rows
def none {H : Type} : Left H := { results := [], args := [] }

/-- 'dunnagelaw20.FactsSilent': WHATEVER THE INPUT: true; the input reads as it did. -/
def factsSilentSpec : ChangeSpec := { name := "factsSilent", fn := fun _ => fun
  | [d1, d2, d3, d4] => { results := [.lit (.bool true)], args := [d1, d2, d3, d4] }
  | _ => none }
def factsSilentRow : OpenClaim := { program := "ytclgmpflmeopmaa", sum := "d63a3569a13bd1f0153e065612c6b1574249e888740d262b7fb0253158f61d81", func := "dunnage/dunnagelaw20.FactsSilent", spec := "factsSilent", unfollowed := true, recurses := true, apart := false }
def FactsSilentSaid : Prop := factsSilentRow.holds Try.pinned (OpenSpec.ofChange factsSilentSpec)

/-- ITS FALSE NEIGHBOUR: 'it returns false'. Refute it at one input. -/
def factsSilentWrong : ChangeSpec := { name := "factsSilent", fn := fun _ => fun
  | [d1, d2, d3, d4] => { results := [.lit (.bool false)], args := [d1, d2, d3, d4] }
  | _ => none }
def FactsSilentWrongFalsely : Prop := factsSilentRow.holds Try.pinned (OpenSpec.ofChange factsSilentWrong)

/-- 'dunnagelaw17.WaveLooks': WHATEVER THE INPUT: true; the input reads as it did. -/
def waveLooksSpec : ChangeSpec := { name := "waveLooks", fn := fun _ => fun
  | [d1, d2, d3] => { results := [.lit (.bool true)], args := [d1, d2, d3] }
  | _ => none }
def waveLooksRow : OpenClaim := { program := "ytclgmpflmeopmaa", sum := "d63a3569a13bd1f0153e065612c6b1574249e888740d262b7fb0253158f61d81", func := "dunnage/dunnagelaw17.WaveLooks", spec := "waveLooks", unfollowed := true, recurses := true, apart := false }
def WaveLooksSaid : Prop := waveLooksRow.holds Try.pinned (OpenSpec.ofChange waveLooksSpec)

/-- ITS FALSE NEIGHBOUR: 'it returns false'. Refute it at one input. -/
def waveLooksWrong : ChangeSpec := { name := "waveLooks", fn := fun _ => fun
  | [d1, d2, d3] => { results := [.lit (.bool false)], args := [d1, d2, d3] }
  | _ => none }
def WaveLooksWrongFalsely : Prop := waveLooksRow.holds Try.pinned (OpenSpec.ofChange waveLooksWrong)

/-- 'dunnagelaw17.WaveNext': WHATEVER THE INPUT: true; the input reads as it did. -/
def waveNextSpec : ChangeSpec := { name := "waveNext", fn := fun _ => fun
  | [d1, d2, d3] => { results := [.lit (.bool true)], args := [d1, d2, d3] }
  | _ => none }
def waveNextRow : OpenClaim := { program := "ytclgmpflmeopmaa", sum := "d63a3569a13bd1f0153e065612c6b1574249e888740d262b7fb0253158f61d81", func := "dunnage/dunnagelaw17.WaveNext", spec := "waveNext", unfollowed := true, recurses := true, apart := false }
def WaveNextSaid : Prop := waveNextRow.holds Try.pinned (OpenSpec.ofChange waveNextSpec)

/-- ITS FALSE NEIGHBOUR: 'it returns false'. Refute it at one input. -/
def waveNextWrong : ChangeSpec := { name := "waveNext", fn := fun _ => fun
  | [d1, d2, d3] => { results := [.lit (.bool false)], args := [d1, d2, d3] }
  | _ => none }
def WaveNextWrongFalsely : Prop := waveNextRow.holds Try.pinned (OpenSpec.ofChange waveNextWrong)

/-- 'dunnagelaw17.WavePaused': WHATEVER THE INPUT: true; the input reads as it did. -/
def wavePausedSpec : ChangeSpec := { name := "wavePaused", fn := fun _ => fun
  | [d1, d2, d3] => { results := [.lit (.bool true)], args := [d1, d2, d3] }
  | _ => none }
def wavePausedRow : OpenClaim := { program := "ytclgmpflmeopmaa", sum := "d63a3569a13bd1f0153e065612c6b1574249e888740d262b7fb0253158f61d81", func := "dunnage/dunnagelaw17.WavePaused", spec := "wavePaused", unfollowed := true, recurses := true, apart := false }
def WavePausedSaid : Prop := wavePausedRow.holds Try.pinned (OpenSpec.ofChange wavePausedSpec)

/-- ITS FALSE NEIGHBOUR: 'it returns false'. Refute it at one input. -/
def wavePausedWrong : ChangeSpec := { name := "wavePaused", fn := fun _ => fun
  | [d1, d2, d3] => { results := [.lit (.bool false)], args := [d1, d2, d3] }
  | _ => none }
def WavePausedWrongFalsely : Prop := wavePausedRow.holds Try.pinned (OpenSpec.ofChange wavePausedWrong)

/-- 'dunnagelaw20.FactsNext': WHATEVER THE INPUT: true; the input reads as it did. -/
def factsNextSpec : ChangeSpec := { name := "factsNext", fn := fun _ => fun
  | [d1, d2, d3, d4] => { results := [.lit (.bool true)], args := [d1, d2, d3, d4] }
  | _ => none }
def factsNextRow : OpenClaim := { program := "ytclgmpflmeopmaa", sum := "d63a3569a13bd1f0153e065612c6b1574249e888740d262b7fb0253158f61d81", func := "dunnage/dunnagelaw20.FactsNext", spec := "factsNext", unfollowed := true, recurses := true, apart := false }
def FactsNextSaid : Prop := factsNextRow.holds Try.pinned (OpenSpec.ofChange factsNextSpec)

/-- ITS FALSE NEIGHBOUR: 'it returns false'. Refute it at one input. -/
def factsNextWrong : ChangeSpec := { name := "factsNext", fn := fun _ => fun
  | [d1, d2, d3, d4] => { results := [.lit (.bool false)], args := [d1, d2, d3, d4] }
  | _ => none }
def FactsNextWrongFalsely : Prop := factsNextRow.holds Try.pinned (OpenSpec.ofChange factsNextWrong)

/-- 'dunnagelaw20.FactsNone': WHATEVER THE INPUT: true; the input reads as it did. -/
def factsNoneSpec : ChangeSpec := { name := "factsNone", fn := fun _ => fun
  | [d1, d2, d3, d4] => { results := [.lit (.bool true)], args := [d1, d2, d3, d4] }
  | _ => none }
def factsNoneRow : OpenClaim := { program := "ytclgmpflmeopmaa", sum := "d63a3569a13bd1f0153e065612c6b1574249e888740d262b7fb0253158f61d81", func := "dunnage/dunnagelaw20.FactsNone", spec := "factsNone", unfollowed := true, recurses := true, apart := false }
def FactsNoneSaid : Prop := factsNoneRow.holds Try.pinned (OpenSpec.ofChange factsNoneSpec)

/-- ITS FALSE NEIGHBOUR: 'it returns false'. Refute it at one input. -/
def factsNoneWrong : ChangeSpec := { name := "factsNone", fn := fun _ => fun
  | [d1, d2, d3, d4] => { results := [.lit (.bool false)], args := [d1, d2, d3, d4] }
  | _ => none }
def FactsNoneWrongFalsely : Prop := factsNoneRow.holds Try.pinned (OpenSpec.ofChange factsNoneWrong)

/- THE SECOND FORM. 'bulk': how many values and letters a reading holds, each counted each time it is reached (what is shared counts as often as it is met; a slice's spare places count too). A statement '..UptoSaid' is the law's where the arguments, and the package variables that the reading takes, are together of bulk at most 1048576: NARROWER than '..Said'. Prove '..Said' where nothing that the law and all that it calls make is longer than what came in: it says more and counts as full. Else prove '..UptoSaid'. A law counts once. -/
mutual
def uptoBulk {H : Type} : DataW H → Nat
  | .lit (.string bytes) => bytes.length + 1
  | .lit _ => 1
  | .nil => 1
  | .ptr d => uptoBulk d + 1
  | .slice elems spare => uptoBulkAll elems + uptoBulkAll spare + 1
  | .agg parts => uptoBulkAll parts + 1
  | .iface _ d => uptoBulk d + 1
  | .map entries => uptoBulkEntries entries + 1
  | .held _ => 1
def uptoBulkAll {H : Type} : List (DataW H) → Nat
  | [] => 0
  | d :: r => uptoBulk d + uptoBulkAll r
def uptoBulkEntries {H : Type} : List (Lit × DataW H) → Nat
  | [] => 0
  | x :: r => uptoBulkEntry x + uptoBulkEntries r
def uptoBulkEntry {H : Type} : Lit × DataW H → Nat
  | (.string bytes, d) => bytes.length + uptoBulk d + 1
  | (_, d) => uptoBulk d + 1
 end
def uptoSmall : (H : Type) → List (DataW H) → Bool := fun _ ds => decide (uptoBulkAll ds ≤ 1048576)
def OpenSpec.upto (s : _root_.Go.ChangeSpec) : _root_.Go.OpenSpec := { _root_.Go.OpenSpec.ofChange s with cond := some uptoSmall }

/-- 'dunnagelaw20.FactsSilent', WHERE WHAT IT READS IS OF BULK AT MOST 1048576: true; the input reads as it did. -/
def factsSilentUptoRow : OpenClaim := { program := "ytclgmpflmeopmaa", sum := "d63a3569a13bd1f0153e065612c6b1574249e888740d262b7fb0253158f61d81", func := "dunnage/dunnagelaw20.FactsSilent", spec := "factsSilent", unfollowed := true, recurses := true, apart := false, narrowed := true }
def FactsSilentUptoSaid : Prop := factsSilentUptoRow.holds Try.pinned (OpenSpec.upto factsSilentSpec)

/-- 'dunnagelaw17.WaveLooks', WHERE WHAT IT READS IS OF BULK AT MOST 1048576: true; the input reads as it did. -/
def waveLooksUptoRow : OpenClaim := { program := "ytclgmpflmeopmaa", sum := "d63a3569a13bd1f0153e065612c6b1574249e888740d262b7fb0253158f61d81", func := "dunnage/dunnagelaw17.WaveLooks", spec := "waveLooks", unfollowed := true, recurses := true, apart := false, narrowed := true }
def WaveLooksUptoSaid : Prop := waveLooksUptoRow.holds Try.pinned (OpenSpec.upto waveLooksSpec)

/-- 'dunnagelaw17.WaveNext', WHERE WHAT IT READS IS OF BULK AT MOST 1048576: true; the input reads as it did. -/
def waveNextUptoRow : OpenClaim := { program := "ytclgmpflmeopmaa", sum := "d63a3569a13bd1f0153e065612c6b1574249e888740d262b7fb0253158f61d81", func := "dunnage/dunnagelaw17.WaveNext", spec := "waveNext", unfollowed := true, recurses := true, apart := false, narrowed := true }
def WaveNextUptoSaid : Prop := waveNextUptoRow.holds Try.pinned (OpenSpec.upto waveNextSpec)

/-- 'dunnagelaw17.WavePaused', WHERE WHAT IT READS IS OF BULK AT MOST 1048576: true; the input reads as it did. -/
def wavePausedUptoRow : OpenClaim := { program := "ytclgmpflmeopmaa", sum := "d63a3569a13bd1f0153e065612c6b1574249e888740d262b7fb0253158f61d81", func := "dunnage/dunnagelaw17.WavePaused", spec := "wavePaused", unfollowed := true, recurses := true, apart := false, narrowed := true }
def WavePausedUptoSaid : Prop := wavePausedUptoRow.holds Try.pinned (OpenSpec.upto wavePausedSpec)

/-- 'dunnagelaw20.FactsNext', WHERE WHAT IT READS IS OF BULK AT MOST 1048576: true; the input reads as it did. -/
def factsNextUptoRow : OpenClaim := { program := "ytclgmpflmeopmaa", sum := "d63a3569a13bd1f0153e065612c6b1574249e888740d262b7fb0253158f61d81", func := "dunnage/dunnagelaw20.FactsNext", spec := "factsNext", unfollowed := true, recurses := true, apart := false, narrowed := true }
def FactsNextUptoSaid : Prop := factsNextUptoRow.holds Try.pinned (OpenSpec.upto factsNextSpec)

/-- 'dunnagelaw20.FactsNone', WHERE WHAT IT READS IS OF BULK AT MOST 1048576: true; the input reads as it did. -/
def factsNoneUptoRow : OpenClaim := { program := "ytclgmpflmeopmaa", sum := "d63a3569a13bd1f0153e065612c6b1574249e888740d262b7fb0253158f61d81", func := "dunnage/dunnagelaw20.FactsNone", spec := "factsNone", unfollowed := true, recurses := true, apart := false, narrowed := true }
def FactsNoneUptoSaid : Prop := factsNoneUptoRow.holds Try.pinned (OpenSpec.upto factsNoneSpec)

end Rows
end Go.Proofs.Ytclgmpflmeopmaa
