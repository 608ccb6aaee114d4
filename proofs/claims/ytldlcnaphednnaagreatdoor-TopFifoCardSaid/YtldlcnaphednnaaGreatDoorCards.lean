/-
  DERIVED. GIVEN WITH THE SEED: THE CARDS: each row of YtldlcnaphednnaaGreatDoorRows.lean that lists a variable, with what it lists TIED to the program's text (the seventh form; the later family's looks); each row that meets fmt, with fmt's text TOLD by the authors' own Lean function (tested against real Go, not proved from fmt's source: count such statements apart). THE CARD IS WHAT COUNTS. Prove the row's statement (the work); the ties are given (YtldlcnaphednnaaGreatDoorTie.lean); close each card by the builder's one call (the guide's Derived/Test/ToyasCard.lean, 'card_holds'). Laid BY PROGRAM, IN A SANDBOX (cutbox-door.mjs). By AI agents, Wed Nov 11 2026. No macro, syntax, notation, axiom, sorry.
-/
import Derived.Test.YtldlcnaphednnaaGreatDoorRows
import GoSem.ClaimSeven
namespace Go.Proofs.YtldlcnaphednnaaGreatDoor
namespace Rows

/-- THE TIED CARD OF 'deadlatchtop.TopFifo'. -/
def topFifoCard : Claim7 := { stood := { row := topFifoRow, standIns := [], harness := (true, "79ba958c73a093d50ed9a67868c4d877eb59341f4a860021fc31b587c5e697fa"), looks := true }, kinds := [], alts := [], laidByText := true, laidKinds := [.data, .data, .widerDeep], laidTests := true, laidLooks := .later }
def TopFifoCardSaid : Prop := Claim7.holds Tryz.pinned (.plain (OpenSpec.ofChange topFifoSpec)) topFifoCard

/-- THE SECOND FORM's CARD OF 'deadlatchtop.TopFifo'. -/
def topFifoUptoCard : Claim7 := { stood := { row := topFifoUptoRow, standIns := [], harness := (true, "79ba958c73a093d50ed9a67868c4d877eb59341f4a860021fc31b587c5e697fa"), looks := true }, kinds := [], alts := [], laidByText := true, laidKinds := [.data, .data, .widerDeep], laidTests := true, laidLooks := .later }
def TopFifoUptoCardSaid : Prop := Claim7.holds Tryz.pinned (.plain (OpenSpec.upto topFifoSpec)) topFifoUptoCard
end Rows
end Go.Proofs.YtldlcnaphednnaaGreatDoor
