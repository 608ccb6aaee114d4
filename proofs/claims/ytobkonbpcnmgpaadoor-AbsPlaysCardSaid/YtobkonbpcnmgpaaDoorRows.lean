/-
  NARROWER THAN 'FOR EVERY INPUT', by the rows' own cells (each row's printed sentence says how): AbsPlays: laid · AbsOne: laid · AbsIdle: laid · AbsSem: laid · AbsMany: laid · AbsOnce: laid · AbsMeets: laid.
  DERIVED. THE GIVEN ROWS OF THIS SEAT. 7 by the template 'for every input the law returns true; each argument reads behind the call as it read before'; 0 by the template 'total and deterministic' (their statements: YtobkonbpcnmgpaaDoorTotals.lean).
  GIVEN WITH THE SEED: the statements are not yours to turn. If you find one false, say at which input.
  Laid BY PROGRAM, IN A SANDBOX (cutbox-rows.mjs): the forced cells as the released guide's own fill.sh prints them over the translation f69c7060ef872ec4… (all of the seat's roots in one cut). By AI agents, Wed Nov 11 2026. No macro, syntax, notation, axiom, sorry.
-/
import Derived.Test.YtobkonbpcnmgpaaDoorChecked
import GoSem.Claim
import GoSem.ClaimJoined
import GoSem.ClaimMapViews
import Derived.JoinedTies
import Derived.KernelRfl
namespace Go.Proofs.YtobkonbpcnmgpaaDoor
/- THE CELL 'sum', in the pinned program and in every row, IS THE sha256 OF THE DUMP (.gsa) THAT YtobkonbpcnmgpaaDoorProg.lean LOADS. Nothing in Lean hashes anything: it is a label: what it is worth is what the hold of that sum in a sandbox is worth. -/
noncomputable def Tryd.pinned : Pinned := { name := "ytobkonbpcnmgpaadoor", sum := "f69c7060ef872ec40cd69efe95865ebb91778d3808127ec8fae233625d7d8e7b", checked := Tryd.checked }
namespace Rows
def none {H : Type} : Left H := { results := [], args := [] }

/- WHAT THE LISTED PACKAGE-LEVEL VARIABLES READ AS WHEN THE CALL BEGINS. Each datum BY PROGRAM (the guide's laid-datum.mjs) off the statement by which the dump's own 'gosem.cut.vars' lays the variable. In a bare row this is a premise. The card (YtobkonbpcnmgpaaDoorCards.lean) ties it to the program's text. -/
def laid_deadlatch_obj_names {H : Type} : DataW H := .agg [.lit (.string []), .lit (.string [116, 97, 115]), .lit (.string [116, 116, 97, 115]), .lit (.string [116, 105, 99, 107, 101, 116]), .lit (.string [109, 99, 115]), .lit (.string [99, 108, 104]), .lit (.string [112, 101, 116, 101, 114, 115, 111, 110]), .lit (.string [100, 101, 107, 107, 101, 114]), .lit (.string [98, 105, 97, 115]), .lit (.string [115, 101, 113]), .lit (.string [109, 117, 116, 101, 120]), .lit (.string [115, 101, 109]), .lit (.string [99, 111, 110, 100]), .lit (.string [98, 97, 114, 114, 105, 101, 114]), .lit (.string [114, 119]), .lit (.string [111, 110, 99, 101])]

/-- 'deadlatchlaw25.AbsPlays': WHATEVER THE INPUT: true; the input reads as it did. -/
def absPlaysSpec : ChangeSpec := { name := "absPlays", fn := fun _ => fun
  | [d1, d2, d3] => { results := [.lit (.bool true)], args := [d1, d2, d3] }
  | _ => none }
def absPlaysRow : OpenClaim := { program := "ytobkonbpcnmgpaadoor", sum := "f69c7060ef872ec40cd69efe95865ebb91778d3808127ec8fae233625d7d8e7b", func := "deadlatch/deadlatchlaw25.AbsPlays", spec := "absPlays", unfollowed := true, recurses := true, named := ["deadlatch/obj.names"], apart := false, laid := [("deadlatch/obj.names", laid_deadlatch_obj_names)] }
def AbsPlaysSaid : Prop := absPlaysRow.holds Tryd.pinned (OpenSpec.ofChange absPlaysSpec)

/-- ITS FALSE NEIGHBOUR: 'it returns false'. Refute it at one input. -/
def absPlaysWrong : ChangeSpec := { name := "absPlays", fn := fun _ => fun
  | [d1, d2, d3] => { results := [.lit (.bool false)], args := [d1, d2, d3] }
  | _ => none }
def AbsPlaysWrongFalsely : Prop := absPlaysRow.holds Tryd.pinned (OpenSpec.ofChange absPlaysWrong)

/-- 'deadlatchlaw25.AbsOne': WHATEVER THE INPUT: true; the input reads as it did. -/
def absOneSpec : ChangeSpec := { name := "absOne", fn := fun _ => fun
  | [d1, d2] => { results := [.lit (.bool true)], args := [d1, d2] }
  | _ => none }
def absOneRow : OpenClaim := { program := "ytobkonbpcnmgpaadoor", sum := "f69c7060ef872ec40cd69efe95865ebb91778d3808127ec8fae233625d7d8e7b", func := "deadlatch/deadlatchlaw25.AbsOne", spec := "absOne", unfollowed := true, recurses := true, named := ["deadlatch/obj.names"], apart := false, laid := [("deadlatch/obj.names", laid_deadlatch_obj_names)] }
def AbsOneSaid : Prop := absOneRow.holds Tryd.pinned (OpenSpec.ofChange absOneSpec)

/-- ITS FALSE NEIGHBOUR: 'it returns false'. Refute it at one input. -/
def absOneWrong : ChangeSpec := { name := "absOne", fn := fun _ => fun
  | [d1, d2] => { results := [.lit (.bool false)], args := [d1, d2] }
  | _ => none }
def AbsOneWrongFalsely : Prop := absOneRow.holds Tryd.pinned (OpenSpec.ofChange absOneWrong)

/-- 'deadlatchlaw25.AbsIdle': WHATEVER THE INPUT: true; the input reads as it did. -/
def absIdleSpec : ChangeSpec := { name := "absIdle", fn := fun _ => fun
  | [d1, d2, d3] => { results := [.lit (.bool true)], args := [d1, d2, d3] }
  | _ => none }
def absIdleRow : OpenClaim := { program := "ytobkonbpcnmgpaadoor", sum := "f69c7060ef872ec40cd69efe95865ebb91778d3808127ec8fae233625d7d8e7b", func := "deadlatch/deadlatchlaw25.AbsIdle", spec := "absIdle", unfollowed := true, recurses := true, named := ["deadlatch/obj.names"], apart := false, laid := [("deadlatch/obj.names", laid_deadlatch_obj_names)] }
def AbsIdleSaid : Prop := absIdleRow.holds Tryd.pinned (OpenSpec.ofChange absIdleSpec)

/-- ITS FALSE NEIGHBOUR: 'it returns false'. Refute it at one input. -/
def absIdleWrong : ChangeSpec := { name := "absIdle", fn := fun _ => fun
  | [d1, d2, d3] => { results := [.lit (.bool false)], args := [d1, d2, d3] }
  | _ => none }
def AbsIdleWrongFalsely : Prop := absIdleRow.holds Tryd.pinned (OpenSpec.ofChange absIdleWrong)

/-- 'deadlatchlaw25.AbsSem': WHATEVER THE INPUT: true; the input reads as it did. -/
def absSemSpec : ChangeSpec := { name := "absSem", fn := fun _ => fun
  | [d1, d2, d3] => { results := [.lit (.bool true)], args := [d1, d2, d3] }
  | _ => none }
def absSemRow : OpenClaim := { program := "ytobkonbpcnmgpaadoor", sum := "f69c7060ef872ec40cd69efe95865ebb91778d3808127ec8fae233625d7d8e7b", func := "deadlatch/deadlatchlaw25.AbsSem", spec := "absSem", unfollowed := true, recurses := true, named := ["deadlatch/obj.names"], apart := false, laid := [("deadlatch/obj.names", laid_deadlatch_obj_names)] }
def AbsSemSaid : Prop := absSemRow.holds Tryd.pinned (OpenSpec.ofChange absSemSpec)

/-- ITS FALSE NEIGHBOUR: 'it returns false'. Refute it at one input. -/
def absSemWrong : ChangeSpec := { name := "absSem", fn := fun _ => fun
  | [d1, d2, d3] => { results := [.lit (.bool false)], args := [d1, d2, d3] }
  | _ => none }
def AbsSemWrongFalsely : Prop := absSemRow.holds Tryd.pinned (OpenSpec.ofChange absSemWrong)

/-- 'deadlatchlaw25.AbsMany': WHATEVER THE INPUT: true; the input reads as it did. -/
def absManySpec : ChangeSpec := { name := "absMany", fn := fun _ => fun
  | [d] => { results := [.lit (.bool true)], args := [d] }
  | _ => none }
def absManyRow : OpenClaim := { program := "ytobkonbpcnmgpaadoor", sum := "f69c7060ef872ec40cd69efe95865ebb91778d3808127ec8fae233625d7d8e7b", func := "deadlatch/deadlatchlaw25.AbsMany", spec := "absMany", unfollowed := true, recurses := true, named := ["deadlatch/obj.names"], apart := false, laid := [("deadlatch/obj.names", laid_deadlatch_obj_names)] }
def AbsManySaid : Prop := absManyRow.holds Tryd.pinned (OpenSpec.ofChange absManySpec)

/-- ITS FALSE NEIGHBOUR: 'it returns false'. Refute it at one input. -/
def absManyWrong : ChangeSpec := { name := "absMany", fn := fun _ => fun
  | [d] => { results := [.lit (.bool false)], args := [d] }
  | _ => none }
def AbsManyWrongFalsely : Prop := absManyRow.holds Tryd.pinned (OpenSpec.ofChange absManyWrong)

/-- 'deadlatchlaw25.AbsOnce': WHATEVER THE INPUT: true; the input reads as it did. -/
def absOnceSpec : ChangeSpec := { name := "absOnce", fn := fun _ => fun
  | [d] => { results := [.lit (.bool true)], args := [d] }
  | _ => none }
def absOnceRow : OpenClaim := { program := "ytobkonbpcnmgpaadoor", sum := "f69c7060ef872ec40cd69efe95865ebb91778d3808127ec8fae233625d7d8e7b", func := "deadlatch/deadlatchlaw25.AbsOnce", spec := "absOnce", unfollowed := true, recurses := true, named := ["deadlatch/obj.names"], apart := false, laid := [("deadlatch/obj.names", laid_deadlatch_obj_names)] }
def AbsOnceSaid : Prop := absOnceRow.holds Tryd.pinned (OpenSpec.ofChange absOnceSpec)

/-- ITS FALSE NEIGHBOUR: 'it returns false'. Refute it at one input. -/
def absOnceWrong : ChangeSpec := { name := "absOnce", fn := fun _ => fun
  | [d] => { results := [.lit (.bool false)], args := [d] }
  | _ => none }
def AbsOnceWrongFalsely : Prop := absOnceRow.holds Tryd.pinned (OpenSpec.ofChange absOnceWrong)

/-- 'deadlatchlaw25.AbsMeets': WHATEVER THE INPUT: true; the input reads as it did. -/
def absMeetsSpec : ChangeSpec := { name := "absMeets", fn := fun _ => fun
  | [d1, d2] => { results := [.lit (.bool true)], args := [d1, d2] }
  | _ => none }
def absMeetsRow : OpenClaim := { program := "ytobkonbpcnmgpaadoor", sum := "f69c7060ef872ec40cd69efe95865ebb91778d3808127ec8fae233625d7d8e7b", func := "deadlatch/deadlatchlaw25.AbsMeets", spec := "absMeets", unfollowed := true, recurses := true, named := ["deadlatch/obj.names"], apart := false, laid := [("deadlatch/obj.names", laid_deadlatch_obj_names)] }
def AbsMeetsSaid : Prop := absMeetsRow.holds Tryd.pinned (OpenSpec.ofChange absMeetsSpec)

/-- ITS FALSE NEIGHBOUR: 'it returns false'. Refute it at one input. -/
def absMeetsWrong : ChangeSpec := { name := "absMeets", fn := fun _ => fun
  | [d1, d2] => { results := [.lit (.bool false)], args := [d1, d2] }
  | _ => none }
def AbsMeetsWrongFalsely : Prop := absMeetsRow.holds Tryd.pinned (OpenSpec.ofChange absMeetsWrong)

/- THE SECOND FORM. 'bulk': how many values and letters a reading holds, each counted each time it is reached (what is shared counts as often as it is met; a slice's spare places count too). A statement '..UptoSaid' is the law's where the arguments, and the package variables that the reading takes, are together of bulk at most 1048576: NARROWER than '..Said'. Prove '..Said' where nothing that the law and all that it calls make is longer than what came in: it says more and counts as full. Else prove '..UptoSaid'. A law counts once. -/
mutual
def uptoBulk {H : Type} : DataW H → Nat
  | .lit (.string bytes) => bytes.length + 1
  | .lit _ => 1
  | .nil => 1
  | .ptr d => uptoBulk d + 1
  | .slice elems spare => uptoBulkAll elems + uptoBulkAll spare + 1
  | .agg parts => uptoBulkAll parts + 1
  | .iface _ d => uptoBulk d + 1
  | .map entries => uptoBulkEntries entries + 1
  | .held _ => 1
def uptoBulkAll {H : Type} : List (DataW H) → Nat
  | [] => 0
  | d :: r => uptoBulk d + uptoBulkAll r
def uptoBulkEntries {H : Type} : List (Lit × DataW H) → Nat
  | [] => 0
  | x :: r => uptoBulkEntry x + uptoBulkEntries r
def uptoBulkEntry {H : Type} : Lit × DataW H → Nat
  | (.string bytes, d) => bytes.length + uptoBulk d + 1
  | (_, d) => uptoBulk d + 1
 end
def uptoSmall : (H : Type) → List (DataW H) → Bool := fun _ ds => decide (uptoBulkAll ds ≤ 1048576)
def OpenSpec.upto (s : _root_.Go.ChangeSpec) : _root_.Go.OpenSpec := { _root_.Go.OpenSpec.ofChange s with cond := some uptoSmall }

/-- 'deadlatchlaw25.AbsPlays', WHERE WHAT IT READS IS OF BULK AT MOST 1048576: true; the input reads as it did. -/
def absPlaysUptoRow : OpenClaim := { program := "ytobkonbpcnmgpaadoor", sum := "f69c7060ef872ec40cd69efe95865ebb91778d3808127ec8fae233625d7d8e7b", func := "deadlatch/deadlatchlaw25.AbsPlays", spec := "absPlays", unfollowed := true, recurses := true, named := ["deadlatch/obj.names"], apart := false, laid := [("deadlatch/obj.names", laid_deadlatch_obj_names)], narrowed := true }
def AbsPlaysUptoSaid : Prop := absPlaysUptoRow.holds Tryd.pinned (OpenSpec.upto absPlaysSpec)

/-- 'deadlatchlaw25.AbsOne', WHERE WHAT IT READS IS OF BULK AT MOST 1048576: true; the input reads as it did. -/
def absOneUptoRow : OpenClaim := { program := "ytobkonbpcnmgpaadoor", sum := "f69c7060ef872ec40cd69efe95865ebb91778d3808127ec8fae233625d7d8e7b", func := "deadlatch/deadlatchlaw25.AbsOne", spec := "absOne", unfollowed := true, recurses := true, named := ["deadlatch/obj.names"], apart := false, laid := [("deadlatch/obj.names", laid_deadlatch_obj_names)], narrowed := true }
def AbsOneUptoSaid : Prop := absOneUptoRow.holds Tryd.pinned (OpenSpec.upto absOneSpec)

/-- 'deadlatchlaw25.AbsIdle', WHERE WHAT IT READS IS OF BULK AT MOST 1048576: true; the input reads as it did. -/
def absIdleUptoRow : OpenClaim := { program := "ytobkonbpcnmgpaadoor", sum := "f69c7060ef872ec40cd69efe95865ebb91778d3808127ec8fae233625d7d8e7b", func := "deadlatch/deadlatchlaw25.AbsIdle", spec := "absIdle", unfollowed := true, recurses := true, named := ["deadlatch/obj.names"], apart := false, laid := [("deadlatch/obj.names", laid_deadlatch_obj_names)], narrowed := true }
def AbsIdleUptoSaid : Prop := absIdleUptoRow.holds Tryd.pinned (OpenSpec.upto absIdleSpec)

/-- 'deadlatchlaw25.AbsSem', WHERE WHAT IT READS IS OF BULK AT MOST 1048576: true; the input reads as it did. -/
def absSemUptoRow : OpenClaim := { program := "ytobkonbpcnmgpaadoor", sum := "f69c7060ef872ec40cd69efe95865ebb91778d3808127ec8fae233625d7d8e7b", func := "deadlatch/deadlatchlaw25.AbsSem", spec := "absSem", unfollowed := true, recurses := true, named := ["deadlatch/obj.names"], apart := false, laid := [("deadlatch/obj.names", laid_deadlatch_obj_names)], narrowed := true }
def AbsSemUptoSaid : Prop := absSemUptoRow.holds Tryd.pinned (OpenSpec.upto absSemSpec)

/-- 'deadlatchlaw25.AbsMany', WHERE WHAT IT READS IS OF BULK AT MOST 1048576: true; the input reads as it did. -/
def absManyUptoRow : OpenClaim := { program := "ytobkonbpcnmgpaadoor", sum := "f69c7060ef872ec40cd69efe95865ebb91778d3808127ec8fae233625d7d8e7b", func := "deadlatch/deadlatchlaw25.AbsMany", spec := "absMany", unfollowed := true, recurses := true, named := ["deadlatch/obj.names"], apart := false, laid := [("deadlatch/obj.names", laid_deadlatch_obj_names)], narrowed := true }
def AbsManyUptoSaid : Prop := absManyUptoRow.holds Tryd.pinned (OpenSpec.upto absManySpec)

/-- 'deadlatchlaw25.AbsOnce', WHERE WHAT IT READS IS OF BULK AT MOST 1048576: true; the input reads as it did. -/
def absOnceUptoRow : OpenClaim := { program := "ytobkonbpcnmgpaadoor", sum := "f69c7060ef872ec40cd69efe95865ebb91778d3808127ec8fae233625d7d8e7b", func := "deadlatch/deadlatchlaw25.AbsOnce", spec := "absOnce", unfollowed := true, recurses := true, named := ["deadlatch/obj.names"], apart := false, laid := [("deadlatch/obj.names", laid_deadlatch_obj_names)], narrowed := true }
def AbsOnceUptoSaid : Prop := absOnceUptoRow.holds Tryd.pinned (OpenSpec.upto absOnceSpec)

/-- 'deadlatchlaw25.AbsMeets', WHERE WHAT IT READS IS OF BULK AT MOST 1048576: true; the input reads as it did. -/
def absMeetsUptoRow : OpenClaim := { program := "ytobkonbpcnmgpaadoor", sum := "f69c7060ef872ec40cd69efe95865ebb91778d3808127ec8fae233625d7d8e7b", func := "deadlatch/deadlatchlaw25.AbsMeets", spec := "absMeets", unfollowed := true, recurses := true, named := ["deadlatch/obj.names"], apart := false, laid := [("deadlatch/obj.names", laid_deadlatch_obj_names)], narrowed := true }
def AbsMeetsUptoSaid : Prop := absMeetsUptoRow.holds Tryd.pinned (OpenSpec.upto absMeetsSpec)

end Rows
end Go.Proofs.YtobkonbpcnmgpaaDoor
