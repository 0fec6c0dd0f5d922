/- Opening a list of messages, of truth values, of numbers. -/
import Derived.Test.YtkalnfkokkjliaaGreatDoorE1
set_option linter.unusedVariables false
set_option linter.unusedSimpArgs false
namespace Dv
open Go Go.Proofs
open Go.ChangeShapes Go.WideShapes Go.RowKit Go.Deep Go.WideElems

end Dv
