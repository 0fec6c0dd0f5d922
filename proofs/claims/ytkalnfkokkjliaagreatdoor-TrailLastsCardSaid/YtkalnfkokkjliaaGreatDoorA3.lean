/- part -/
import Derived.Test.YtkalnfkokkjliaaGreatDoorAC
set_option linter.all false
set_option maxRecDepth 100000
namespace Dv
open Go Go.Proofs
theorem GL:yQ g_ (AT (wR Tryz.prog) [rV,Fa]) 5000 60 false 13 [] []=some (.bool true,[]):=by kernel_rfl
theorem F_:bh Tryz.prog tK 13 [] [] (.bool true) []:=by
 refine bh.up ?_ nh
 refine xP (fun k hk=>?_) GL
 simp only [List.mem_cons,List.not_mem_nil,or_false] at hk
 rcases hk with rfl | rfl
 ·exact LA
 ·exact xP (l:=[]) (fun _ h=>by cases h) Rl
end Dv
