/- The document's example of layer 26: alive. -/
import Derived.Test.YtkalnfkokkjliaaGreatDoorA2
set_option linter.unusedVariables false
set_option linter.unusedSimpArgs false
namespace Dv
open Go Go.Proofs
set_option maxRecDepth 100000 in
theorem runAlive26 : runF tabG (tabT (irsOf Tryz.prog) [kBoot, kRead]) 5000 60 false 13 [] [] = some (.bool true, []) := by kernel_rfl
theorem alive26_tri : Tri Tryz.prog tabG 13 [] [] (.bool true) [] := by
  refine run_tri (fun k hk => ?_) runAlive26
  simp only [List.mem_cons,List.not_mem_nil,or_false] at hk
  rcases hk with rfl | rfl
  · exact kBoot_tri
  · exact run_tri (l := []) (fun _ h => by cases h) runRead
end Dv
