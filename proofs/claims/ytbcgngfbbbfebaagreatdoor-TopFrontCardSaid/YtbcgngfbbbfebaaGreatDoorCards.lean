/-
  DERIVED. GIVEN WITH THE SEED: THE CARDS: each row of YtbcgngfbbbfebaaGreatDoorRows.lean that lists a variable, with what it lists TIED to the program's text (the seventh form; the later family's looks); each row that meets fmt, with fmt's text TOLD by the authors' own Lean function (tested against real Go, not proved from fmt's source: count such statements apart). THE CARD IS WHAT COUNTS. Prove the row's statement (the work); the ties are given (YtbcgngfbbbfebaaGreatDoorTie.lean); close each card by the builder's one call (the guide's Derived/Test/ToyasCard.lean, 'card_holds'). Laid BY PROGRAM, IN A SANDBOX (cutbox-door.mjs). By AI agents, Wed Nov 11 2026. No macro, syntax, notation, axiom, sorry.
-/
import Derived.Test.YtbcgngfbbbfebaaGreatDoorRows
import GoSem.ClaimSeven
namespace Go.Proofs.YtbcgngfbbbfebaaGreatDoor
namespace Rows

/-- THE TIED CARD OF 'deadlatchtop.TopFront'. -/
def topFrontCard : Claim7 := { stood := { row := topFrontRow, standIns := [], harness := (true, "62e09cdd91e9a0346d504c6ac0cfa9f690d3d871c8fa107eaef57dc9960caca3"), looks := true }, kinds := [], alts := [], laidByText := true, laidKinds := [.data, .data, .widerDeep], laidTests := true, laidLooks := .later }
def TopFrontCardSaid : Prop := Claim7.holds Tryz.pinned (.plain (OpenSpec.ofChange topFrontSpec)) topFrontCard

/-- THE SECOND FORM's CARD OF 'deadlatchtop.TopFront'. -/
def topFrontUptoCard : Claim7 := { stood := { row := topFrontUptoRow, standIns := [], harness := (true, "62e09cdd91e9a0346d504c6ac0cfa9f690d3d871c8fa107eaef57dc9960caca3"), looks := true }, kinds := [], alts := [], laidByText := true, laidKinds := [.data, .data, .widerDeep], laidTests := true, laidLooks := .later }
def TopFrontUptoCardSaid : Prop := Claim7.holds Tryz.pinned (.plain (OpenSpec.upto topFrontSpec)) topFrontUptoCard
end Rows
end Go.Proofs.YtbcgngfbbbfebaaGreatDoor
