/- The document's LetGo and Same. -/
import Derived.Test.YtkalnfkokkjliaaGreatDoorD17
set_option linter.unusedVariables false
set_option linter.unusedSimpArgs false
namespace Dv
open Go Go.Proofs
variable {G : Nat → Option (List DV)}

@[reducible] def stA (s : StateD) (a b : Nat) : LV := .agg [.sl a s.nodes.length 5 0 s.nodes.length, .sl b s.jobs.length 12 0 s.jobs.length, .int s.goal, .int s.prior, .int s.mode, .int s.term]
@[reducible] def datO (s : StateD) : List LObj := [.dat 102 5 (s.nodes.map nodeR), .dat 119 12 (s.jobs.map jobR)]

end Dv
