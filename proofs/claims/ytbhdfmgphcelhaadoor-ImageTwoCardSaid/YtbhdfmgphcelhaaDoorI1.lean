/- image.must: it gives up, unless something is so. -/
import Derived.Test.YtbhdfmgphcelhaaDoorDB
import Derived.Test.YtbhdfmgphcelhaaDoorVD
import Derived.Tactics
import Derived.Tactics2
import Derived.WalkKit
set_option linter.unusedVariables false
set_option linter.unusedSimpArgs false
namespace Dv
open Go Go.Proofs
open Go.RowKit
variable {G : Nat → Option (List DV)}

/-- what a reader gives up with. -/
def noneV : Value := .iface 69 (.agg #[])
theorem must_tri : Tri Tryd.prog G 24 [.bool true] [] (.tup []) [] := by
  refine ⟨by decide, fun J ι w vs S hR => ?_⟩
  obtain ⟨vl⟩ := vs
  match vl, hR with
  | [v], ⟨hv, _⟩ =>
  have hv : v = .bool true := hv
  subst hv
  go_enter Tryd.func24, Tryd.ntmps24
  go_wp2
  exact ⟨rfl, .tuple #[], results_none rfl _ _ _, _, rfl, After.stay S ⟨#[], rfl, trivial⟩⟩
theorem must_triX : TriX Tryd.prog G 24 [.bool false] [] noneV [] := by
  refine ⟨by decide, fun J ι w vs S hR => ?_⟩
  obtain ⟨vl⟩ := vs
  match vl, hR with
  | [v], ⟨hv, _⟩ =>
  have hv : v = .bool false := hv
  subst hv
  go_enter Tryd.func24, Tryd.ntmps24
  have hp : ∀ (u : TypeId) (v : Value) (w : World), (Instr.panic (.iface u v)).run Tryd.prog w = .halt (.panic (.iface u v)) w := fun _ _ _ => rfl
  go_wp2
  exact ⟨rfl, rfl, After.stay S trivial⟩
end Dv
