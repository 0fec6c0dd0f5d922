/- The law CtlBoots: its contract. -/
import Derived.Test.YtkalnfkokkjliaaGreatDoorK12
import Derived.Test.YtkalnfkokkjliaaGreatDoorAB
set_option linter.unusedVariables false
set_option linter.unusedSimpArgs false
namespace Dv
open Go Go.Proofs
theorem CQ (c:aI) (now:Int) (l:List Ak) (hb:∀ a∈l,bP a.b):br Tryz.prog fL 5 [f_ c,.int now,mj l] [] (.bool true) []:=Ag Fl c now l hb
end Dv
