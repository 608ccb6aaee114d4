/-
  DERIVED. GIVEN WITH THE SEED: THE CARDS: each row of YtemhcdlhhpckmaaDoorRows.lean that lists a variable, with what it lists TIED to the program's text (the seventh form; the later family's looks); each row that meets fmt, with fmt's text TOLD by the authors' own Lean function (tested against real Go, not proved from fmt's source: count such statements apart). THE CARD IS WHAT COUNTS. Prove the row's statement (the work); the ties are given (YtemhcdlhhpckmaaDoorTie.lean); close each card by the builder's one call (the guide's Derived/Test/ToyasCard.lean, 'card_holds'). Laid BY PROGRAM, IN A SANDBOX (cutbox-door.mjs). By AI agents, Wed Nov 11 2026. No macro, syntax, notation, axiom, sorry.
-/
import Derived.Test.YtemhcdlhhpckmaaDoorRows
import GoSem.ClaimSeven
namespace Go.Proofs.YtemhcdlhhpckmaaDoor
namespace Rows

/-- THE TIED CARD OF 'deadlatchlaw14.ObjBases'. -/
def objBasesCard : Claim7 := { stood := { row := objBasesRow, standIns := [], harness := (true, "240e450372872df68b742e87586be95872dbcdf9d55a4c11ca8783f8d4920403"), looks := false }, kinds := [], alts := [], laidByText := true, laidKinds := [.widerDeep], laidTests := true, laidLooks := .later }
def ObjBasesCardSaid : Prop := Claim7.holds Tryd.pinned (.plain (OpenSpec.ofChange objBasesSpec)) objBasesCard

/-- THE TIED CARD OF 'deadlatchlaw14.ObjRights'. -/
def objRightsCard : Claim7 := { stood := { row := objRightsRow, standIns := [], harness := (true, "240e450372872df68b742e87586be95872dbcdf9d55a4c11ca8783f8d4920403"), looks := false }, kinds := [], alts := [], laidByText := true, laidKinds := [.widerDeep], laidTests := true, laidLooks := .later }
def ObjRightsCardSaid : Prop := Claim7.holds Tryd.pinned (.plain (OpenSpec.ofChange objRightsSpec)) objRightsCard

/-- THE TIED CARD OF 'deadlatchlaw14.ObjNames'. -/
def objNamesCard : Claim7 := { stood := { row := objNamesRow, standIns := [], harness := (true, "240e450372872df68b742e87586be95872dbcdf9d55a4c11ca8783f8d4920403"), looks := false }, kinds := [], alts := [], laidByText := true, laidKinds := [.widerDeep, .widerDeep], laidTests := true, laidLooks := .later }
def ObjNamesCardSaid : Prop := Claim7.holds Tryd.pinned (.plain (OpenSpec.ofChange objNamesSpec)) objNamesCard

/-- THE SECOND FORM's CARD OF 'deadlatchlaw14.ObjBases'. -/
def objBasesUptoCard : Claim7 := { stood := { row := objBasesUptoRow, standIns := [], harness := (true, "240e450372872df68b742e87586be95872dbcdf9d55a4c11ca8783f8d4920403"), looks := false }, kinds := [], alts := [], laidByText := true, laidKinds := [.widerDeep], laidTests := true, laidLooks := .later }
def ObjBasesUptoCardSaid : Prop := Claim7.holds Tryd.pinned (.plain (OpenSpec.upto objBasesSpec)) objBasesUptoCard

/-- THE SECOND FORM's CARD OF 'deadlatchlaw14.ObjRights'. -/
def objRightsUptoCard : Claim7 := { stood := { row := objRightsUptoRow, standIns := [], harness := (true, "240e450372872df68b742e87586be95872dbcdf9d55a4c11ca8783f8d4920403"), looks := false }, kinds := [], alts := [], laidByText := true, laidKinds := [.widerDeep], laidTests := true, laidLooks := .later }
def ObjRightsUptoCardSaid : Prop := Claim7.holds Tryd.pinned (.plain (OpenSpec.upto objRightsSpec)) objRightsUptoCard

/-- THE SECOND FORM's CARD OF 'deadlatchlaw14.ObjNames'. -/
def objNamesUptoCard : Claim7 := { stood := { row := objNamesUptoRow, standIns := [], harness := (true, "240e450372872df68b742e87586be95872dbcdf9d55a4c11ca8783f8d4920403"), looks := false }, kinds := [], alts := [], laidByText := true, laidKinds := [.widerDeep, .widerDeep], laidTests := true, laidLooks := .later }
def ObjNamesUptoCardSaid : Prop := Claim7.holds Tryd.pinned (.plain (OpenSpec.upto objNamesSpec)) objNamesUptoCard
end Rows
end Go.Proofs.YtemhcdlhhpckmaaDoor
