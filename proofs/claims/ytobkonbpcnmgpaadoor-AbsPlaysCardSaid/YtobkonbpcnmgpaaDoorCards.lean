/-
  DERIVED. GIVEN WITH THE SEED: THE CARDS: each row of YtobkonbpcnmgpaaDoorRows.lean that lists a variable, with what it lists TIED to the program's text (the seventh form; the later family's looks); each row that meets fmt, with fmt's text TOLD by the authors' own Lean function (tested against real Go, not proved from fmt's source: count such statements apart). THE CARD IS WHAT COUNTS. Prove the row's statement (the work); the ties are given (YtobkonbpcnmgpaaDoorTie.lean); close each card by the builder's one call (the guide's Derived/Test/ToyasCard.lean, 'card_holds'). Laid BY PROGRAM, IN A SANDBOX (cutbox-door.mjs). By AI agents, Wed Nov 11 2026. No macro, syntax, notation, axiom, sorry.
-/
import Derived.Test.YtobkonbpcnmgpaaDoorRows
import GoSem.ClaimSeven
namespace Go.Proofs.YtobkonbpcnmgpaaDoor
namespace Rows

/-- THE TIED CARD OF 'deadlatchlaw25.AbsPlays'. -/
def absPlaysCard : Claim7 := { stood := { row := absPlaysRow, standIns := [], harness := (true, "1ff3b35f77c0834808b861a3d92c83b128f0eb8ba0d105227baff3233f6e8dd4"), looks := false }, kinds := [], alts := [], laidByText := true, laidKinds := [.widerDeep], laidTests := true, laidLooks := .later }
def AbsPlaysCardSaid : Prop := Claim7.holds Tryd.pinned (.plain (OpenSpec.ofChange absPlaysSpec)) absPlaysCard

/-- THE TIED CARD OF 'deadlatchlaw25.AbsOne'. -/
def absOneCard : Claim7 := { stood := { row := absOneRow, standIns := [], harness := (true, "1ff3b35f77c0834808b861a3d92c83b128f0eb8ba0d105227baff3233f6e8dd4"), looks := false }, kinds := [], alts := [], laidByText := true, laidKinds := [.widerDeep], laidTests := true, laidLooks := .later }
def AbsOneCardSaid : Prop := Claim7.holds Tryd.pinned (.plain (OpenSpec.ofChange absOneSpec)) absOneCard

/-- THE TIED CARD OF 'deadlatchlaw25.AbsIdle'. -/
def absIdleCard : Claim7 := { stood := { row := absIdleRow, standIns := [], harness := (true, "1ff3b35f77c0834808b861a3d92c83b128f0eb8ba0d105227baff3233f6e8dd4"), looks := false }, kinds := [], alts := [], laidByText := true, laidKinds := [.widerDeep], laidTests := true, laidLooks := .later }
def AbsIdleCardSaid : Prop := Claim7.holds Tryd.pinned (.plain (OpenSpec.ofChange absIdleSpec)) absIdleCard

/-- THE TIED CARD OF 'deadlatchlaw25.AbsSem'. -/
def absSemCard : Claim7 := { stood := { row := absSemRow, standIns := [], harness := (true, "1ff3b35f77c0834808b861a3d92c83b128f0eb8ba0d105227baff3233f6e8dd4"), looks := false }, kinds := [], alts := [], laidByText := true, laidKinds := [.widerDeep], laidTests := true, laidLooks := .later }
def AbsSemCardSaid : Prop := Claim7.holds Tryd.pinned (.plain (OpenSpec.ofChange absSemSpec)) absSemCard

/-- THE TIED CARD OF 'deadlatchlaw25.AbsMany'. -/
def absManyCard : Claim7 := { stood := { row := absManyRow, standIns := [], harness := (true, "1ff3b35f77c0834808b861a3d92c83b128f0eb8ba0d105227baff3233f6e8dd4"), looks := false }, kinds := [], alts := [], laidByText := true, laidKinds := [.widerDeep], laidTests := true, laidLooks := .later }
def AbsManyCardSaid : Prop := Claim7.holds Tryd.pinned (.plain (OpenSpec.ofChange absManySpec)) absManyCard

/-- THE TIED CARD OF 'deadlatchlaw25.AbsOnce'. -/
def absOnceCard : Claim7 := { stood := { row := absOnceRow, standIns := [], harness := (true, "1ff3b35f77c0834808b861a3d92c83b128f0eb8ba0d105227baff3233f6e8dd4"), looks := false }, kinds := [], alts := [], laidByText := true, laidKinds := [.widerDeep], laidTests := true, laidLooks := .later }
def AbsOnceCardSaid : Prop := Claim7.holds Tryd.pinned (.plain (OpenSpec.ofChange absOnceSpec)) absOnceCard

/-- THE TIED CARD OF 'deadlatchlaw25.AbsMeets'. -/
def absMeetsCard : Claim7 := { stood := { row := absMeetsRow, standIns := [], harness := (true, "1ff3b35f77c0834808b861a3d92c83b128f0eb8ba0d105227baff3233f6e8dd4"), looks := false }, kinds := [], alts := [], laidByText := true, laidKinds := [.widerDeep], laidTests := true, laidLooks := .later }
def AbsMeetsCardSaid : Prop := Claim7.holds Tryd.pinned (.plain (OpenSpec.ofChange absMeetsSpec)) absMeetsCard

/-- THE SECOND FORM's CARD OF 'deadlatchlaw25.AbsPlays'. -/
def absPlaysUptoCard : Claim7 := { stood := { row := absPlaysUptoRow, standIns := [], harness := (true, "1ff3b35f77c0834808b861a3d92c83b128f0eb8ba0d105227baff3233f6e8dd4"), looks := false }, kinds := [], alts := [], laidByText := true, laidKinds := [.widerDeep], laidTests := true, laidLooks := .later }
def AbsPlaysUptoCardSaid : Prop := Claim7.holds Tryd.pinned (.plain (OpenSpec.upto absPlaysSpec)) absPlaysUptoCard

/-- THE SECOND FORM's CARD OF 'deadlatchlaw25.AbsOne'. -/
def absOneUptoCard : Claim7 := { stood := { row := absOneUptoRow, standIns := [], harness := (true, "1ff3b35f77c0834808b861a3d92c83b128f0eb8ba0d105227baff3233f6e8dd4"), looks := false }, kinds := [], alts := [], laidByText := true, laidKinds := [.widerDeep], laidTests := true, laidLooks := .later }
def AbsOneUptoCardSaid : Prop := Claim7.holds Tryd.pinned (.plain (OpenSpec.upto absOneSpec)) absOneUptoCard

/-- THE SECOND FORM's CARD OF 'deadlatchlaw25.AbsIdle'. -/
def absIdleUptoCard : Claim7 := { stood := { row := absIdleUptoRow, standIns := [], harness := (true, "1ff3b35f77c0834808b861a3d92c83b128f0eb8ba0d105227baff3233f6e8dd4"), looks := false }, kinds := [], alts := [], laidByText := true, laidKinds := [.widerDeep], laidTests := true, laidLooks := .later }
def AbsIdleUptoCardSaid : Prop := Claim7.holds Tryd.pinned (.plain (OpenSpec.upto absIdleSpec)) absIdleUptoCard

/-- THE SECOND FORM's CARD OF 'deadlatchlaw25.AbsSem'. -/
def absSemUptoCard : Claim7 := { stood := { row := absSemUptoRow, standIns := [], harness := (true, "1ff3b35f77c0834808b861a3d92c83b128f0eb8ba0d105227baff3233f6e8dd4"), looks := false }, kinds := [], alts := [], laidByText := true, laidKinds := [.widerDeep], laidTests := true, laidLooks := .later }
def AbsSemUptoCardSaid : Prop := Claim7.holds Tryd.pinned (.plain (OpenSpec.upto absSemSpec)) absSemUptoCard

/-- THE SECOND FORM's CARD OF 'deadlatchlaw25.AbsMany'. -/
def absManyUptoCard : Claim7 := { stood := { row := absManyUptoRow, standIns := [], harness := (true, "1ff3b35f77c0834808b861a3d92c83b128f0eb8ba0d105227baff3233f6e8dd4"), looks := false }, kinds := [], alts := [], laidByText := true, laidKinds := [.widerDeep], laidTests := true, laidLooks := .later }
def AbsManyUptoCardSaid : Prop := Claim7.holds Tryd.pinned (.plain (OpenSpec.upto absManySpec)) absManyUptoCard

/-- THE SECOND FORM's CARD OF 'deadlatchlaw25.AbsOnce'. -/
def absOnceUptoCard : Claim7 := { stood := { row := absOnceUptoRow, standIns := [], harness := (true, "1ff3b35f77c0834808b861a3d92c83b128f0eb8ba0d105227baff3233f6e8dd4"), looks := false }, kinds := [], alts := [], laidByText := true, laidKinds := [.widerDeep], laidTests := true, laidLooks := .later }
def AbsOnceUptoCardSaid : Prop := Claim7.holds Tryd.pinned (.plain (OpenSpec.upto absOnceSpec)) absOnceUptoCard

/-- THE SECOND FORM's CARD OF 'deadlatchlaw25.AbsMeets'. -/
def absMeetsUptoCard : Claim7 := { stood := { row := absMeetsUptoRow, standIns := [], harness := (true, "1ff3b35f77c0834808b861a3d92c83b128f0eb8ba0d105227baff3233f6e8dd4"), looks := false }, kinds := [], alts := [], laidByText := true, laidKinds := [.widerDeep], laidTests := true, laidLooks := .later }
def AbsMeetsUptoCardSaid : Prop := Claim7.holds Tryd.pinned (.plain (OpenSpec.upto absMeetsSpec)) absMeetsUptoCard
end Rows
end Go.Proofs.YtobkonbpcnmgpaaDoor
