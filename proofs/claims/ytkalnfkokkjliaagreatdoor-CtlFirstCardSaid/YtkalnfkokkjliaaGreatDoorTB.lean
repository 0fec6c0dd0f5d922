/- The document's wave. -/
import Derived.Test.YtkalnfkokkjliaaGreatDoorDD
import Derived.Test.YtkalnfkokkjliaaGreatDoorPA
import Derived.Test.YtkalnfkokkjliaaGreatDoorD6
import Derived.Test.YtkalnfkokkjliaaGreatDoorQA
set_option linter.unusedVariables false
set_option linter.unusedSimpArgs false
namespace Dv
open Go Go.Proofs
variable {G:Nat→Option (List DV)}
def y5 (s:aa):aD:=.box 30 [bZ s.nodes,dg s.jobs,.int s.goal,.int s.prior,.int s.mode,.int s.term]
def y8 (c:aH):aD:=.box 23 [.int c.nodes,.int c.bG,.int c.cD,.int c.wave,.int c.b_,.int c.eE,.int c.deadline,.int c.room,.int c.fG]
end Dv
namespace Dv
open Go Go.Proofs
variable {G:Nat→Option (List DV)}
def Gz:aD:=.box 37 [.int 0,.int 0,.int 0,.int 0,.int 0,.int 0,.int 0]
end Dv
