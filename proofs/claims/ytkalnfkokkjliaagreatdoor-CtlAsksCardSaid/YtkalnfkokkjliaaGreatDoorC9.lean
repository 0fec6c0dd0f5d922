/- CtlAsks: it returns true. -/
import Derived.Test.YtkalnfkokkjliaaGreatDoorC8
import Derived.Test.YtkalnfkokkjliaaGreatDoorA7
set_option linter.unusedVariables false
set_option linter.unusedSimpArgs false
namespace Dv
open Go Go.Proofs
theorem ctlAsks_tri (c : ConfD) (l : List OpD) : Tri Tryz.prog tabF 9 [confV c, opsC l] [] (.bool true) [] := ctlAsks_tri0 alive21_tri c l
end Dv
