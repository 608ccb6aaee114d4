/-
  DERIVED. GIVEN WITH THE SEED: THE PROGRAM's TIES (one call each: nine closed facts by the kernel) AND EACH ROW's TIE, after the 31st guide's Derived/Test/Toyas{Tie, Card}.lean. No idea stands in it: it is a product of the set-up. Laid BY PROGRAM, IN A SANDBOX (cutbox-door.mjs). By AI agents, Wed Nov 11 2026. No macro, syntax, notation, axiom, sorry.
-/
import Derived.Test.YtldlcnaphednnaaGreatDoorRows
import Derived.LaidByTextLater
import Derived.SevenTiedAt
import Derived.LaidSub
import Derived.LaidOnce
namespace Go.Proofs.YtldlcnaphednnaaGreatDoor
open Go
set_option maxRecDepth 100000
theorem seatTie1 : Tryz.prog.laidByTextLater [("deadlatch/isa.uses", Rows.laid_deadlatch_isa_uses), ("deadlatch/isa.names", Rows.laid_deadlatch_isa_names), ("deadlatch/obj.names", Rows.laid_deadlatch_obj_names)] [.data, .data, .widerDeep] true :=
  Program.laidByTextLater_by_one 24 8 29 (by kernel_rfl) (by kernel_rfl) (by kernel_rfl) (by kernel_rfl) (by kernel_rfl) (by kernel_rfl) (fun _ _ => by kernel_rfl)
theorem noOwnUnsafe : Tryz.pinned.checked.prog.headLifts.contains "ownunsafe" = false := by kernel_rfl
theorem tie : Tryz.prog.laidByTextLater [("deadlatch/isa.uses", Rows.laid_deadlatch_isa_uses), ("deadlatch/isa.names", Rows.laid_deadlatch_isa_names), ("deadlatch/obj.names", Rows.laid_deadlatch_obj_names)] [.data, .data, .widerDeep] true :=
  Program.laidByTextLater.sub seatTie1 ["deadlatch/isa.uses", "deadlatch/isa.names", "deadlatch/obj.names"] (by kernel_rfl) (by kernel_rfl)
theorem topFifo_row_tie : Rows.topFifoRow.laidByTextAt .later Tryz.pinned [.data, .data, .widerDeep] true :=
  OpenClaim.laidByTextAt_later rfl rfl tie noOwnUnsafe
theorem topFifoUpto_row_tie : Rows.topFifoUptoRow.laidByTextAt .later Tryz.pinned [.data, .data, .widerDeep] true :=
  OpenClaim.laidByTextAt_later rfl rfl tie noOwnUnsafe
end Go.Proofs.YtldlcnaphednnaaGreatDoor
