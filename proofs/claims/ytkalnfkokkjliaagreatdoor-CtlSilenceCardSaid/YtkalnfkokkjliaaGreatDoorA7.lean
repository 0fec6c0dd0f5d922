/- The document's example of layer 21: alive. -/
import Derived.Test.YtkalnfkokkjliaaGreatDoorA5
import Derived.Test.YtkalnfkokkjliaaGreatDoorA6
set_option linter.unusedVariables false
set_option linter.unusedSimpArgs false
namespace Dv
open Go Go.Proofs
set_option maxRecDepth 100000 in
theorem runAlive21 : runF tabF (tabT (irsOf Tryz.prog) [kBoot, kDo, kAct, kTorn, kHear, kState, kDo2]) 5000 60 false 26 [] [] = some (.bool true, []) := by kernel_rfl
theorem alive21_tri : Tri Tryz.prog tabF 26 [] [] (.bool true) [] := by
  refine run_tri (fun k hk => ?_) runAlive21
  simp only [List.mem_cons,List.not_mem_nil,or_false] at hk
  rcases hk with rfl | rfl | rfl | rfl | rfl | rfl | rfl
  · exact kBoot_tri
  · exact run_tri (l := []) (fun _ h => by cases h) runDo
  · exact run_tri (l := []) (fun _ h => by cases h) runAct
  · exact run_tri (l := []) (fun _ h => by cases h) runTorn
  · exact run_tri (l := []) (fun _ h => by cases h) runHear
  · exact run_tri (l := []) (fun _ h => by cases h) runState
  · exact run_tri (l := []) (fun _ h => by cases h) runDo2
end Dv
