/-
  NARROWER THAN 'FOR EVERY INPUT', by the rows' own cells (each row's printed sentence says how): ObjBases: laid · ObjRights: laid · ObjNames: laid.
  DERIVED. THE GIVEN ROWS OF THIS SEAT. 3 by the template 'for every input the law returns true; each argument reads behind the call as it read before'; 0 by the template 'total and deterministic' (their statements: YtemhcdlhhpckmaaDoorTotals.lean).
  GIVEN WITH THE SEED: the statements are not yours to turn. If you find one false, say at which input.
  Laid BY PROGRAM, IN A SANDBOX (cutbox-rows.mjs): the forced cells as the released guide's own fill.sh prints them over the translation 698e3c50615671bb… (all of the seat's roots in one cut). By AI agents, Wed Nov 11 2026. No macro, syntax, notation, axiom, sorry.
-/
import Derived.Test.YtemhcdlhhpckmaaDoorChecked
import GoSem.Claim
import GoSem.ClaimJoined
import GoSem.ClaimMapViews
import Derived.JoinedTies
import Derived.KernelRfl
namespace Go.Proofs.YtemhcdlhhpckmaaDoor
/- THE CELL 'sum', in the pinned program and in every row, IS THE sha256 OF THE DUMP (.gsa) THAT YtemhcdlhhpckmaaDoorProg.lean LOADS. Nothing in Lean hashes anything: it is a label: what it is worth is what the hold of that sum in a sandbox is worth. -/
noncomputable def Tryd.pinned : Pinned := { name := "ytemhcdlhhpckmaadoor", sum := "698e3c50615671bb76b94ed8ca0521067d21bcc20500e85245f98b01d0069e67", checked := Tryd.checked }
namespace Rows
def none {H : Type} : Left H := { results := [], args := [] }

/- WHAT THE LISTED PACKAGE-LEVEL VARIABLES READ AS WHEN THE CALL BEGINS. Each datum BY PROGRAM (the guide's laid-datum.mjs) off the statement by which the dump's own 'gosem.cut.vars' lays the variable. In a bare row this is a premise. The card (YtemhcdlhhpckmaaDoorCards.lean) ties it to the program's text. -/
def laid_deadlatch_obj_names {H : Type} : DataW H := .agg [.lit (.string []), .lit (.string [116, 97, 115]), .lit (.string [116, 116, 97, 115]), .lit (.string [116, 105, 99, 107, 101, 116]), .lit (.string [109, 99, 115]), .lit (.string [99, 108, 104]), .lit (.string [112, 101, 116, 101, 114, 115, 111, 110]), .lit (.string [100, 101, 107, 107, 101, 114]), .lit (.string [98, 105, 97, 115]), .lit (.string [115, 101, 113]), .lit (.string [109, 117, 116, 101, 120]), .lit (.string [115, 101, 109]), .lit (.string [99, 111, 110, 100]), .lit (.string [98, 97, 114, 114, 105, 101, 114]), .lit (.string [114, 119]), .lit (.string [111, 110, 99, 101])]
def laid_deadlatch_obj_callNames {H : Type} : DataW H := .agg [.lit (.string []), .lit (.string [97, 99, 113, 117, 105, 114, 101]), .lit (.string [114, 101, 108, 101, 97, 115, 101]), .lit (.string [114, 101, 97, 100]), .lit (.string [112, 117, 116]), .lit (.string [116, 105, 99, 107, 101, 116]), .lit (.string [115, 108, 101, 101, 112]), .lit (.string [115, 105, 103, 110, 97, 108]), .lit (.string [98, 114, 111, 97, 100, 99, 97, 115, 116]), .lit (.string [101, 110, 116, 101, 114]), .lit (.string [100, 111, 110, 101])]

/-- 'deadlatchlaw14.ObjBases': WHATEVER THE INPUT: true; the input reads as it did. -/
def objBasesSpec : ChangeSpec := { name := "objBases", fn := fun _ => fun
  | [d1, d2, d3] => { results := [.lit (.bool true)], args := [d1, d2, d3] }
  | _ => none }
def objBasesRow : OpenClaim := { program := "ytemhcdlhhpckmaadoor", sum := "698e3c50615671bb76b94ed8ca0521067d21bcc20500e85245f98b01d0069e67", func := "deadlatch/deadlatchlaw14.ObjBases", spec := "objBases", unfollowed := true, recurses := true, named := ["deadlatch/obj.names"], apart := false, laid := [("deadlatch/obj.names", laid_deadlatch_obj_names)] }
def ObjBasesSaid : Prop := objBasesRow.holds Tryd.pinned (OpenSpec.ofChange objBasesSpec)

/-- ITS FALSE NEIGHBOUR: 'it returns false'. Refute it at one input. -/
def objBasesWrong : ChangeSpec := { name := "objBases", fn := fun _ => fun
  | [d1, d2, d3] => { results := [.lit (.bool false)], args := [d1, d2, d3] }
  | _ => none }
def ObjBasesWrongFalsely : Prop := objBasesRow.holds Tryd.pinned (OpenSpec.ofChange objBasesWrong)

/-- 'deadlatchlaw14.ObjRights': WHATEVER THE INPUT: true; the input reads as it did. -/
def objRightsSpec : ChangeSpec := { name := "objRights", fn := fun _ => fun
  | [d1, d2] => { results := [.lit (.bool true)], args := [d1, d2] }
  | _ => none }
def objRightsRow : OpenClaim := { program := "ytemhcdlhhpckmaadoor", sum := "698e3c50615671bb76b94ed8ca0521067d21bcc20500e85245f98b01d0069e67", func := "deadlatch/deadlatchlaw14.ObjRights", spec := "objRights", unfollowed := true, recurses := true, named := ["deadlatch/obj.names"], apart := false, laid := [("deadlatch/obj.names", laid_deadlatch_obj_names)] }
def ObjRightsSaid : Prop := objRightsRow.holds Tryd.pinned (OpenSpec.ofChange objRightsSpec)

/-- ITS FALSE NEIGHBOUR: 'it returns false'. Refute it at one input. -/
def objRightsWrong : ChangeSpec := { name := "objRights", fn := fun _ => fun
  | [d1, d2] => { results := [.lit (.bool false)], args := [d1, d2] }
  | _ => none }
def ObjRightsWrongFalsely : Prop := objRightsRow.holds Tryd.pinned (OpenSpec.ofChange objRightsWrong)

/-- 'deadlatchlaw14.ObjNames': WHATEVER THE INPUT: true; the input reads as it did. -/
def objNamesSpec : ChangeSpec := { name := "objNames", fn := fun _ => fun
  | [d1, d2] => { results := [.lit (.bool true)], args := [d1, d2] }
  | _ => none }
def objNamesRow : OpenClaim := { program := "ytemhcdlhhpckmaadoor", sum := "698e3c50615671bb76b94ed8ca0521067d21bcc20500e85245f98b01d0069e67", func := "deadlatch/deadlatchlaw14.ObjNames", spec := "objNames", unfollowed := true, recurses := true, named := ["deadlatch/obj.names", "deadlatch/obj.callNames"], apart := false, laid := [("deadlatch/obj.names", laid_deadlatch_obj_names), ("deadlatch/obj.callNames", laid_deadlatch_obj_callNames)] }
def ObjNamesSaid : Prop := objNamesRow.holds Tryd.pinned (OpenSpec.ofChange objNamesSpec)

/-- ITS FALSE NEIGHBOUR: 'it returns false'. Refute it at one input. -/
def objNamesWrong : ChangeSpec := { name := "objNames", fn := fun _ => fun
  | [d1, d2] => { results := [.lit (.bool false)], args := [d1, d2] }
  | _ => none }
def ObjNamesWrongFalsely : Prop := objNamesRow.holds Tryd.pinned (OpenSpec.ofChange objNamesWrong)

/- THE SECOND FORM. 'bulk': how many values and letters a reading holds, each counted each time it is reached (what is shared counts as often as it is met; a slice's spare places count too). A statement '..UptoSaid' is the law's where the arguments, and the package variables that the reading takes, are together of bulk at most 1048576: NARROWER than '..Said'. Prove '..Said' where nothing that the law and all that it calls make is longer than what came in: it says more and counts as full. Else prove '..UptoSaid'. A law counts once. -/
mutual
def uptoBulk {H : Type} : DataW H → Nat
  | .lit (.string bytes) => bytes.length + 1
  | .lit _ => 1
  | .nil => 1
  | .ptr d => uptoBulk d + 1
  | .slice elems spare => uptoBulkAll elems + uptoBulkAll spare + 1
  | .agg parts => uptoBulkAll parts + 1
  | .iface _ d => uptoBulk d + 1
  | .map entries => uptoBulkEntries entries + 1
  | .held _ => 1
def uptoBulkAll {H : Type} : List (DataW H) → Nat
  | [] => 0
  | d :: r => uptoBulk d + uptoBulkAll r
def uptoBulkEntries {H : Type} : List (Lit × DataW H) → Nat
  | [] => 0
  | x :: r => uptoBulkEntry x + uptoBulkEntries r
def uptoBulkEntry {H : Type} : Lit × DataW H → Nat
  | (.string bytes, d) => bytes.length + uptoBulk d + 1
  | (_, d) => uptoBulk d + 1
 end
def uptoSmall : (H : Type) → List (DataW H) → Bool := fun _ ds => decide (uptoBulkAll ds ≤ 1048576)
def OpenSpec.upto (s : _root_.Go.ChangeSpec) : _root_.Go.OpenSpec := { _root_.Go.OpenSpec.ofChange s with cond := some uptoSmall }

/-- 'deadlatchlaw14.ObjBases', WHERE WHAT IT READS IS OF BULK AT MOST 1048576: true; the input reads as it did. -/
def objBasesUptoRow : OpenClaim := { program := "ytemhcdlhhpckmaadoor", sum := "698e3c50615671bb76b94ed8ca0521067d21bcc20500e85245f98b01d0069e67", func := "deadlatch/deadlatchlaw14.ObjBases", spec := "objBases", unfollowed := true, recurses := true, named := ["deadlatch/obj.names"], apart := false, laid := [("deadlatch/obj.names", laid_deadlatch_obj_names)], narrowed := true }
def ObjBasesUptoSaid : Prop := objBasesUptoRow.holds Tryd.pinned (OpenSpec.upto objBasesSpec)

/-- 'deadlatchlaw14.ObjRights', WHERE WHAT IT READS IS OF BULK AT MOST 1048576: true; the input reads as it did. -/
def objRightsUptoRow : OpenClaim := { program := "ytemhcdlhhpckmaadoor", sum := "698e3c50615671bb76b94ed8ca0521067d21bcc20500e85245f98b01d0069e67", func := "deadlatch/deadlatchlaw14.ObjRights", spec := "objRights", unfollowed := true, recurses := true, named := ["deadlatch/obj.names"], apart := false, laid := [("deadlatch/obj.names", laid_deadlatch_obj_names)], narrowed := true }
def ObjRightsUptoSaid : Prop := objRightsUptoRow.holds Tryd.pinned (OpenSpec.upto objRightsSpec)

/-- 'deadlatchlaw14.ObjNames', WHERE WHAT IT READS IS OF BULK AT MOST 1048576: true; the input reads as it did. -/
def objNamesUptoRow : OpenClaim := { program := "ytemhcdlhhpckmaadoor", sum := "698e3c50615671bb76b94ed8ca0521067d21bcc20500e85245f98b01d0069e67", func := "deadlatch/deadlatchlaw14.ObjNames", spec := "objNames", unfollowed := true, recurses := true, named := ["deadlatch/obj.names", "deadlatch/obj.callNames"], apart := false, laid := [("deadlatch/obj.names", laid_deadlatch_obj_names), ("deadlatch/obj.callNames", laid_deadlatch_obj_callNames)], narrowed := true }
def ObjNamesUptoSaid : Prop := objNamesUptoRow.holds Tryd.pinned (OpenSpec.upto objNamesSpec)

end Rows
end Go.Proofs.YtemhcdlhhpckmaaDoor
