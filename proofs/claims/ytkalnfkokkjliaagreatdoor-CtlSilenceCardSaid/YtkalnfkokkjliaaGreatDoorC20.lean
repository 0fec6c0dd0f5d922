/- CtlSilence: it returns true. -/
import Derived.Test.YtkalnfkokkjliaaGreatDoorC19
import Derived.Test.YtkalnfkokkjliaaGreatDoorA7
set_option linter.unusedVariables false
set_option linter.unusedSimpArgs false
namespace Dv
open Go Go.Proofs
theorem ctlSilence_tri (c : ConfD) (late : Int) (hl : 0 ≤ late ∧ late ≤ 255) : Tri Tryz.prog tabF 8 [confV c, .d (.val (.int .u8 late))] [] (.bool true) [] := ctlSilence_tri0 alive21_tri c late hl
end Dv
