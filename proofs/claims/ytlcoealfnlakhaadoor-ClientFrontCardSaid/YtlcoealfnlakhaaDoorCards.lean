/-
  DERIVED. GIVEN WITH THE SEED: THE CARDS: each row of YtlcoealfnlakhaaDoorRows.lean that lists a variable, with what it lists TIED to the program's text (the seventh form; the later family's looks); each row that meets fmt, with fmt's text TOLD by the authors' own Lean function (tested against real Go, not proved from fmt's source: count such statements apart). THE CARD IS WHAT COUNTS. Prove the row's statement (the work); the ties are given (YtlcoealfnlakhaaDoorTie.lean); close each card by the builder's one call (the guide's Derived/Test/ToyasCard.lean, 'card_holds'). Laid BY PROGRAM, IN A SANDBOX (cutbox-door.mjs). By AI agents, Wed Nov 11 2026. No macro, syntax, notation, axiom, sorry.
-/
import Derived.Test.YtlcoealfnlakhaaDoorRows
import GoSem.ClaimSeven
namespace Go.Proofs.YtlcoealfnlakhaaDoor
namespace Rows

/-- THE TIED CARD OF 'deadlatchlaw23.ClientChecks'. -/
def clientChecksCard : Claim7 := { stood := { row := clientChecksRow, standIns := [], harness := (true, "0644bc71381c048f5d0312421381818f933edb810451a88de95c76dc35636b2f"), looks := false }, kinds := [], alts := [], laidByText := true, laidKinds := [.widerDeep], laidTests := true, laidLooks := .later }
def ClientChecksCardSaid : Prop := Claim7.holds Tryd.pinned (.plain (OpenSpec.ofChange clientChecksSpec)) clientChecksCard

/-- THE TIED CARD OF 'deadlatchlaw23.ClientRights'. -/
def clientRightsCard : Claim7 := { stood := { row := clientRightsRow, standIns := [], harness := (true, "0644bc71381c048f5d0312421381818f933edb810451a88de95c76dc35636b2f"), looks := false }, kinds := [], alts := [], laidByText := true, laidKinds := [.widerDeep], laidTests := true, laidLooks := .later }
def ClientRightsCardSaid : Prop := Claim7.holds Tryd.pinned (.plain (OpenSpec.ofChange clientRightsSpec)) clientRightsCard

/-- THE TIED CARD OF 'deadlatchlaw23.ClientKeeps'. -/
def clientKeepsCard : Claim7 := { stood := { row := clientKeepsRow, standIns := [], harness := (true, "0644bc71381c048f5d0312421381818f933edb810451a88de95c76dc35636b2f"), looks := false }, kinds := [], alts := [], laidByText := true, laidKinds := [.widerDeep], laidTests := true, laidLooks := .later }
def ClientKeepsCardSaid : Prop := Claim7.holds Tryd.pinned (.plain (OpenSpec.ofChange clientKeepsSpec)) clientKeepsCard

/-- THE TIED CARD OF 'deadlatchlaw23.ClientFront'. -/
def clientFrontCard : Claim7 := { stood := { row := clientFrontRow, standIns := [], harness := (true, "0644bc71381c048f5d0312421381818f933edb810451a88de95c76dc35636b2f"), looks := false }, kinds := [], alts := [], laidByText := true, laidKinds := [.widerDeep], laidTests := true, laidLooks := .later }
def ClientFrontCardSaid : Prop := Claim7.holds Tryd.pinned (.plain (OpenSpec.ofChange clientFrontSpec)) clientFrontCard

/-- THE TIED CARD OF 'deadlatchlaw23.ClientRises'. -/
def clientRisesCard : Claim7 := { stood := { row := clientRisesRow, standIns := [], harness := (true, "0644bc71381c048f5d0312421381818f933edb810451a88de95c76dc35636b2f"), looks := false }, kinds := [], alts := [], laidByText := true, laidKinds := [.widerDeep], laidTests := true, laidLooks := .later }
def ClientRisesCardSaid : Prop := Claim7.holds Tryd.pinned (.plain (OpenSpec.ofChange clientRisesSpec)) clientRisesCard

/-- THE SECOND FORM's CARD OF 'deadlatchlaw23.ClientChecks'. -/
def clientChecksUptoCard : Claim7 := { stood := { row := clientChecksUptoRow, standIns := [], harness := (true, "0644bc71381c048f5d0312421381818f933edb810451a88de95c76dc35636b2f"), looks := false }, kinds := [], alts := [], laidByText := true, laidKinds := [.widerDeep], laidTests := true, laidLooks := .later }
def ClientChecksUptoCardSaid : Prop := Claim7.holds Tryd.pinned (.plain (OpenSpec.upto clientChecksSpec)) clientChecksUptoCard

/-- THE SECOND FORM's CARD OF 'deadlatchlaw23.ClientRights'. -/
def clientRightsUptoCard : Claim7 := { stood := { row := clientRightsUptoRow, standIns := [], harness := (true, "0644bc71381c048f5d0312421381818f933edb810451a88de95c76dc35636b2f"), looks := false }, kinds := [], alts := [], laidByText := true, laidKinds := [.widerDeep], laidTests := true, laidLooks := .later }
def ClientRightsUptoCardSaid : Prop := Claim7.holds Tryd.pinned (.plain (OpenSpec.upto clientRightsSpec)) clientRightsUptoCard

/-- THE SECOND FORM's CARD OF 'deadlatchlaw23.ClientKeeps'. -/
def clientKeepsUptoCard : Claim7 := { stood := { row := clientKeepsUptoRow, standIns := [], harness := (true, "0644bc71381c048f5d0312421381818f933edb810451a88de95c76dc35636b2f"), looks := false }, kinds := [], alts := [], laidByText := true, laidKinds := [.widerDeep], laidTests := true, laidLooks := .later }
def ClientKeepsUptoCardSaid : Prop := Claim7.holds Tryd.pinned (.plain (OpenSpec.upto clientKeepsSpec)) clientKeepsUptoCard

/-- THE SECOND FORM's CARD OF 'deadlatchlaw23.ClientFront'. -/
def clientFrontUptoCard : Claim7 := { stood := { row := clientFrontUptoRow, standIns := [], harness := (true, "0644bc71381c048f5d0312421381818f933edb810451a88de95c76dc35636b2f"), looks := false }, kinds := [], alts := [], laidByText := true, laidKinds := [.widerDeep], laidTests := true, laidLooks := .later }
def ClientFrontUptoCardSaid : Prop := Claim7.holds Tryd.pinned (.plain (OpenSpec.upto clientFrontSpec)) clientFrontUptoCard

/-- THE SECOND FORM's CARD OF 'deadlatchlaw23.ClientRises'. -/
def clientRisesUptoCard : Claim7 := { stood := { row := clientRisesUptoRow, standIns := [], harness := (true, "0644bc71381c048f5d0312421381818f933edb810451a88de95c76dc35636b2f"), looks := false }, kinds := [], alts := [], laidByText := true, laidKinds := [.widerDeep], laidTests := true, laidLooks := .later }
def ClientRisesUptoCardSaid : Prop := Claim7.holds Tryd.pinned (.plain (OpenSpec.upto clientRisesSpec)) clientRisesUptoCard
end Rows
end Go.Proofs.YtlcoealfnlakhaaDoor
