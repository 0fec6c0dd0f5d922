/- trail.At, trail.Of, and the document's. -/
import Derived.Test.YtkalnfkokkjliaaGreatDoorQ9
import Derived.Test.YtkalnfkokkjliaaGreatDoorD7
import Derived.Test.YtkalnfkokkjliaaGreatDoorD19
set_option linter.unusedVariables false
set_option linter.unusedSimpArgs false
namespace Dv
open Go Go.Proofs
variable {G : Nat → Option (List DV)}

def opsT (l : List OpD) : LV := .d (.lst 7 (l.map opR))
def boxCT (c : ConfD) : LObj := .box 23 [.int c.nodes, .int c.queues, .int c.quota, .int c.wave, .int c.lease, .int c.retry, .int c.deadline, .int c.room, .int c.disk]
def cellsST (s : StateD) : List LV := [nodesV s.nodes, jobsV s.jobs, .int s.goal, .int s.prior, .int s.mode, .int s.term]
def boxST (s : StateD) : LObj := .box 30 (cellsST s)
end Dv
