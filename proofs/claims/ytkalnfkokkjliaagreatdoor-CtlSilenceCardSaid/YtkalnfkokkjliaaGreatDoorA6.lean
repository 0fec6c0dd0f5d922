/- The document's example of layer 21: Act, reckoned by the kernel. -/
import Derived.Test.YtkalnfkokkjliaaGreatDoorA4
set_option linter.unusedVariables false
set_option linter.unusedSimpArgs false
namespace Dv
open Go Go.Proofs
set_option maxRecDepth 100000 in
theorem runAct : runF tabF (tabT (irsOf Tryz.prog) []) 5000 60 false kAct.f kAct.a kAct.o = some (kAct.r, kAct.b) := by kernel_rfl
end Dv
