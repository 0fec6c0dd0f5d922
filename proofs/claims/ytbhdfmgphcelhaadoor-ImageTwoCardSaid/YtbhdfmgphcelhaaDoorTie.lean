/-
  DERIVED. GIVEN WITH THE SEED: THE PROGRAM's TIES (one call each: nine closed facts by the kernel) AND EACH ROW's TIE, after the 31st guide's Derived/Test/Toyas{Tie, Card}.lean. No idea stands in it: it is a product of the set-up. Laid BY PROGRAM, IN A SANDBOX (cutbox-door.mjs). By AI agents, Wed Nov 11 2026. No macro, syntax, notation, axiom, sorry.
-/
import Derived.Test.YtbhdfmgphcelhaaDoorRows
import Derived.LaidByTextLater
import Derived.SevenTiedAt
import Derived.LaidSub
import Derived.LaidOnce
namespace Go.Proofs.YtbhdfmgphcelhaaDoor
open Go
set_option maxRecDepth 100000
theorem seatTie1 : Tryd.prog.laidByTextLater [("dunnage/ops.names", Rows.laid_dunnage_ops_names), ("dunnage/ops.many", Rows.laid_dunnage_ops_many)] [.data, .data] true :=
  Program.laidByTextLater_by_one 19 8 23 (by kernel_rfl) (by kernel_rfl) (by kernel_rfl) (by kernel_rfl) (by kernel_rfl) (by kernel_rfl) (fun _ _ => by kernel_rfl)
theorem noOwnUnsafe : Tryd.pinned.checked.prog.headLifts.contains "ownunsafe" = false := by kernel_rfl
theorem tie : Tryd.prog.laidByTextLater [("dunnage/ops.names", Rows.laid_dunnage_ops_names), ("dunnage/ops.many", Rows.laid_dunnage_ops_many)] [.data, .data] true :=
  Program.laidByTextLater.sub seatTie1 ["dunnage/ops.names", "dunnage/ops.many"] (by kernel_rfl) (by kernel_rfl)
theorem imageTwo_row_tie : Rows.imageTwoRow.laidByTextAt .later Tryd.pinned [.data, .data] true :=
  OpenClaim.laidByTextAt_later rfl rfl tie noOwnUnsafe
theorem imageTwoUpto_row_tie : Rows.imageTwoUptoRow.laidByTextAt .later Tryd.pinned [.data, .data] true :=
  OpenClaim.laidByTextAt_later rfl rfl tie noOwnUnsafe
end Go.Proofs.YtbhdfmgphcelhaaDoor
