/- The document's example of layer 21: Do, Torn, Hear, State, reckoned by the kernel. -/
import Derived.Test.YtkalnfkokkjliaaGreatDoorA4
set_option linter.unusedVariables false
set_option linter.unusedSimpArgs false
namespace Dv
open Go Go.Proofs
set_option maxRecDepth 100000 in
theorem runDo : runF tabF (tabT (irsOf Tryz.prog) []) 5000 60 false kDo.f kDo.a kDo.o = some (kDo.r, kDo.b) := by kernel_rfl
set_option maxRecDepth 100000 in
theorem runTorn : runF tabF (tabT (irsOf Tryz.prog) []) 5000 60 false kTorn.f kTorn.a kTorn.o = some (kTorn.r, kTorn.b) := by kernel_rfl
set_option maxRecDepth 100000 in
theorem runHear : runF tabF (tabT (irsOf Tryz.prog) []) 5000 60 false kHear.f kHear.a kHear.o = some (kHear.r, kHear.b) := by kernel_rfl
set_option maxRecDepth 100000 in
theorem runState : runF tabF (tabT (irsOf Tryz.prog) []) 5000 60 false kState.f kState.a kState.o = some (kState.r, kState.b) := by kernel_rfl
set_option maxRecDepth 100000 in
theorem runDo2 : runF tabF (tabT (irsOf Tryz.prog) []) 5000 60 false kDo2.f kDo2.a kDo2.o = some (kDo2.r, kDo2.b) := by kernel_rfl
end Dv
