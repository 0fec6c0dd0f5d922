/- The logical machine and its plain laws: parts C22, proved sound. -/
import Derived.Test.YtkalnfkokkjliaaGreatDoorDD
import Derived.Test.YtkalnfkokkjliaaGreatDoorCA
set_option linter.unusedVariables false
set_option linter.unusedSimpArgs false
set_option maxRecDepth 100000
namespace Dv
open Go Go.Proofs
variable {G:Nat→Option (List DV)}
structure acy where
 kind:Int
 now:Int
 keep:Int
 o:dH
 m:Fp
 sk:Int
 st:Int
 sj:Int
 se:Int
 sd:List Int
end Dv
