/-
  DERIVED. GIVEN WITH THE SEED: THE PROGRAM's TIES (one call each: nine closed facts by the kernel) AND EACH ROW's TIE, after the 31st guide's Derived/Test/Toyas{Tie, Card}.lean. No idea stands in it: it is a product of the set-up. Laid BY PROGRAM, IN A SANDBOX (cutbox-door.mjs). By AI agents, Wed Nov 11 2026. No macro, syntax, notation, axiom, sorry.
-/
import Derived.Test.YtemhcdlhhpckmaaDoorRows
import Derived.LaidByTextLater
import Derived.SevenTiedAt
import Derived.LaidSub
import Derived.LaidOnce
namespace Go.Proofs.YtemhcdlhhpckmaaDoor
open Go
set_option maxRecDepth 100000
theorem seatTie1 : Tryd.prog.laidByTextLater [("deadlatch/obj.names", Rows.laid_deadlatch_obj_names), ("deadlatch/obj.callNames", Rows.laid_deadlatch_obj_callNames)] [.widerDeep, .widerDeep] true :=
  Program.laidByTextLater_by_one 19 8 17 (by kernel_rfl) (by kernel_rfl) (by kernel_rfl) (by kernel_rfl) (by kernel_rfl) (by kernel_rfl) (fun _ _ => by kernel_rfl)
theorem noOwnUnsafe : Tryd.pinned.checked.prog.headLifts.contains "ownunsafe" = false := by kernel_rfl
theorem tie : Tryd.prog.laidByTextLater [("deadlatch/obj.names", Rows.laid_deadlatch_obj_names)] [.widerDeep] true :=
  Program.laidByTextLater.sub seatTie1 ["deadlatch/obj.names"] (by kernel_rfl) (by kernel_rfl)
theorem objBases_row_tie : Rows.objBasesRow.laidByTextAt .later Tryd.pinned [.widerDeep] true :=
  OpenClaim.laidByTextAt_later rfl rfl tie noOwnUnsafe
theorem objRights_row_tie : Rows.objRightsRow.laidByTextAt .later Tryd.pinned [.widerDeep] true :=
  OpenClaim.laidByTextAt_later rfl rfl tie noOwnUnsafe
theorem tie2 : Tryd.prog.laidByTextLater [("deadlatch/obj.names", Rows.laid_deadlatch_obj_names), ("deadlatch/obj.callNames", Rows.laid_deadlatch_obj_callNames)] [.widerDeep, .widerDeep] true :=
  Program.laidByTextLater.sub seatTie1 ["deadlatch/obj.names", "deadlatch/obj.callNames"] (by kernel_rfl) (by kernel_rfl)
theorem objNames_row_tie : Rows.objNamesRow.laidByTextAt .later Tryd.pinned [.widerDeep, .widerDeep] true :=
  OpenClaim.laidByTextAt_later rfl rfl tie2 noOwnUnsafe
theorem objBasesUpto_row_tie : Rows.objBasesUptoRow.laidByTextAt .later Tryd.pinned [.widerDeep] true :=
  OpenClaim.laidByTextAt_later rfl rfl tie noOwnUnsafe
theorem objRightsUpto_row_tie : Rows.objRightsUptoRow.laidByTextAt .later Tryd.pinned [.widerDeep] true :=
  OpenClaim.laidByTextAt_later rfl rfl tie noOwnUnsafe
theorem objNamesUpto_row_tie : Rows.objNamesUptoRow.laidByTextAt .later Tryd.pinned [.widerDeep, .widerDeep] true :=
  OpenClaim.laidByTextAt_later rfl rfl tie2 noOwnUnsafe
end Go.Proofs.YtemhcdlhhpckmaaDoor
