/-
  NARROWER THAN 'FOR EVERY INPUT', by the rows' own cells (each row's printed sentence says how): ClientChecks: laid · ClientRights: laid · ClientKeeps: laid · ClientFront: laid · ClientRises: laid.
  DERIVED. THE GIVEN ROWS OF THIS SEAT. 5 by the template 'for every input the law returns true; each argument reads behind the call as it read before'; 0 by the template 'total and deterministic' (their statements: YtlcoealfnlakhaaDoorTotals.lean).
  GIVEN WITH THE SEED: the statements are not yours to turn. If you find one false, say at which input.
  Laid BY PROGRAM, IN A SANDBOX (cutbox-rows.mjs): the forced cells as the released guide's own fill.sh prints them over the translation 7f0a476cc6a2fe50… (all of the seat's roots in one cut). By AI agents, Wed Nov 11 2026. No macro, syntax, notation, axiom, sorry.
-/
import Derived.Test.YtlcoealfnlakhaaDoorChecked
import GoSem.Claim
import GoSem.ClaimJoined
import GoSem.ClaimMapViews
import Derived.JoinedTies
import Derived.KernelRfl
namespace Go.Proofs.YtlcoealfnlakhaaDoor
/- THE CELL 'sum', in the pinned program and in every row, IS THE sha256 OF THE DUMP (.gsa) THAT YtlcoealfnlakhaaDoorProg.lean LOADS. Nothing in Lean hashes anything: it is a label: what it is worth is what the hold of that sum in a sandbox is worth. -/
noncomputable def Tryd.pinned : Pinned := { name := "ytlcoealfnlakhaadoor", sum := "7f0a476cc6a2fe502edb4637a9c5ca3acf5e15cdd0d2a5277ee155a68713bc9a", checked := Tryd.checked }
namespace Rows
def none {H : Type} : Left H := { results := [], args := [] }

/- WHAT THE LISTED PACKAGE-LEVEL VARIABLES READ AS WHEN THE CALL BEGINS. Each datum BY PROGRAM (the guide's laid-datum.mjs) off the statement by which the dump's own 'gosem.cut.vars' lays the variable. In a bare row this is a premise. The card (YtlcoealfnlakhaaDoorCards.lean) ties it to the program's text. -/
def laid_deadlatch_obj_names {H : Type} : DataW H := .agg [.lit (.string []), .lit (.string [116, 97, 115]), .lit (.string [116, 116, 97, 115]), .lit (.string [116, 105, 99, 107, 101, 116]), .lit (.string [109, 99, 115]), .lit (.string [99, 108, 104]), .lit (.string [112, 101, 116, 101, 114, 115, 111, 110]), .lit (.string [100, 101, 107, 107, 101, 114]), .lit (.string [98, 105, 97, 115]), .lit (.string [115, 101, 113]), .lit (.string [109, 117, 116, 101, 120]), .lit (.string [115, 101, 109]), .lit (.string [99, 111, 110, 100]), .lit (.string [98, 97, 114, 114, 105, 101, 114]), .lit (.string [114, 119]), .lit (.string [111, 110, 99, 101])]

/-- 'deadlatchlaw23.ClientChecks': WHATEVER THE INPUT: true; the input reads as it did. -/
def clientChecksSpec : ChangeSpec := { name := "clientChecks", fn := fun _ => fun
  | [d] => { results := [.lit (.bool true)], args := [d] }
  | _ => none }
def clientChecksRow : OpenClaim := { program := "ytlcoealfnlakhaadoor", sum := "7f0a476cc6a2fe502edb4637a9c5ca3acf5e15cdd0d2a5277ee155a68713bc9a", func := "deadlatch/deadlatchlaw23.ClientChecks", spec := "clientChecks", unfollowed := true, recurses := true, named := ["deadlatch/obj.names"], apart := false, laid := [("deadlatch/obj.names", laid_deadlatch_obj_names)] }
def ClientChecksSaid : Prop := clientChecksRow.holds Tryd.pinned (OpenSpec.ofChange clientChecksSpec)

/-- ITS FALSE NEIGHBOUR: 'it returns false'. Refute it at one input. -/
def clientChecksWrong : ChangeSpec := { name := "clientChecks", fn := fun _ => fun
  | [d] => { results := [.lit (.bool false)], args := [d] }
  | _ => none }
def ClientChecksWrongFalsely : Prop := clientChecksRow.holds Tryd.pinned (OpenSpec.ofChange clientChecksWrong)

/-- 'deadlatchlaw23.ClientRights': WHATEVER THE INPUT: true; the input reads as it did. -/
def clientRightsSpec : ChangeSpec := { name := "clientRights", fn := fun _ => fun
  | [d1, d2] => { results := [.lit (.bool true)], args := [d1, d2] }
  | _ => none }
def clientRightsRow : OpenClaim := { program := "ytlcoealfnlakhaadoor", sum := "7f0a476cc6a2fe502edb4637a9c5ca3acf5e15cdd0d2a5277ee155a68713bc9a", func := "deadlatch/deadlatchlaw23.ClientRights", spec := "clientRights", unfollowed := true, recurses := true, named := ["deadlatch/obj.names"], apart := false, laid := [("deadlatch/obj.names", laid_deadlatch_obj_names)] }
def ClientRightsSaid : Prop := clientRightsRow.holds Tryd.pinned (OpenSpec.ofChange clientRightsSpec)

/-- ITS FALSE NEIGHBOUR: 'it returns false'. Refute it at one input. -/
def clientRightsWrong : ChangeSpec := { name := "clientRights", fn := fun _ => fun
  | [d1, d2] => { results := [.lit (.bool false)], args := [d1, d2] }
  | _ => none }
def ClientRightsWrongFalsely : Prop := clientRightsRow.holds Tryd.pinned (OpenSpec.ofChange clientRightsWrong)

/-- 'deadlatchlaw23.ClientKeeps': WHATEVER THE INPUT: true; the input reads as it did. -/
def clientKeepsSpec : ChangeSpec := { name := "clientKeeps", fn := fun _ => fun
  | [d] => { results := [.lit (.bool true)], args := [d] }
  | _ => none }
def clientKeepsRow : OpenClaim := { program := "ytlcoealfnlakhaadoor", sum := "7f0a476cc6a2fe502edb4637a9c5ca3acf5e15cdd0d2a5277ee155a68713bc9a", func := "deadlatch/deadlatchlaw23.ClientKeeps", spec := "clientKeeps", unfollowed := true, recurses := true, named := ["deadlatch/obj.names"], apart := false, laid := [("deadlatch/obj.names", laid_deadlatch_obj_names)] }
def ClientKeepsSaid : Prop := clientKeepsRow.holds Tryd.pinned (OpenSpec.ofChange clientKeepsSpec)

/-- ITS FALSE NEIGHBOUR: 'it returns false'. Refute it at one input. -/
def clientKeepsWrong : ChangeSpec := { name := "clientKeeps", fn := fun _ => fun
  | [d] => { results := [.lit (.bool false)], args := [d] }
  | _ => none }
def ClientKeepsWrongFalsely : Prop := clientKeepsRow.holds Tryd.pinned (OpenSpec.ofChange clientKeepsWrong)

/-- 'deadlatchlaw23.ClientFront': WHATEVER THE INPUT: true; the input reads as it did. -/
def clientFrontSpec : ChangeSpec := { name := "clientFront", fn := fun _ => fun
  | [d1, d2, d3] => { results := [.lit (.bool true)], args := [d1, d2, d3] }
  | _ => none }
def clientFrontRow : OpenClaim := { program := "ytlcoealfnlakhaadoor", sum := "7f0a476cc6a2fe502edb4637a9c5ca3acf5e15cdd0d2a5277ee155a68713bc9a", func := "deadlatch/deadlatchlaw23.ClientFront", spec := "clientFront", unfollowed := true, recurses := true, named := ["deadlatch/obj.names"], apart := false, laid := [("deadlatch/obj.names", laid_deadlatch_obj_names)] }
def ClientFrontSaid : Prop := clientFrontRow.holds Tryd.pinned (OpenSpec.ofChange clientFrontSpec)

/-- ITS FALSE NEIGHBOUR: 'it returns false'. Refute it at one input. -/
def clientFrontWrong : ChangeSpec := { name := "clientFront", fn := fun _ => fun
  | [d1, d2, d3] => { results := [.lit (.bool false)], args := [d1, d2, d3] }
  | _ => none }
def ClientFrontWrongFalsely : Prop := clientFrontRow.holds Tryd.pinned (OpenSpec.ofChange clientFrontWrong)

/-- 'deadlatchlaw23.ClientRises': WHATEVER THE INPUT: true; the input reads as it did. -/
def clientRisesSpec : ChangeSpec := { name := "clientRises", fn := fun _ => fun
  | [d] => { results := [.lit (.bool true)], args := [d] }
  | _ => none }
def clientRisesRow : OpenClaim := { program := "ytlcoealfnlakhaadoor", sum := "7f0a476cc6a2fe502edb4637a9c5ca3acf5e15cdd0d2a5277ee155a68713bc9a", func := "deadlatch/deadlatchlaw23.ClientRises", spec := "clientRises", unfollowed := true, recurses := true, named := ["deadlatch/obj.names"], apart := false, laid := [("deadlatch/obj.names", laid_deadlatch_obj_names)] }
def ClientRisesSaid : Prop := clientRisesRow.holds Tryd.pinned (OpenSpec.ofChange clientRisesSpec)

/-- ITS FALSE NEIGHBOUR: 'it returns false'. Refute it at one input. -/
def clientRisesWrong : ChangeSpec := { name := "clientRises", fn := fun _ => fun
  | [d] => { results := [.lit (.bool false)], args := [d] }
  | _ => none }
def ClientRisesWrongFalsely : Prop := clientRisesRow.holds Tryd.pinned (OpenSpec.ofChange clientRisesWrong)

/- THE SECOND FORM. 'bulk': how many values and letters a reading holds, each counted each time it is reached (what is shared counts as often as it is met; a slice's spare places count too). A statement '..UptoSaid' is the law's where the arguments, and the package variables that the reading takes, are together of bulk at most 1048576: NARROWER than '..Said'. Prove '..Said' where nothing that the law and all that it calls make is longer than what came in: it says more and counts as full. Else prove '..UptoSaid'. A law counts once. -/
mutual
def uptoBulk {H : Type} : DataW H → Nat
  | .lit (.string bytes) => bytes.length + 1
  | .lit _ => 1
  | .nil => 1
  | .ptr d => uptoBulk d + 1
  | .slice elems spare => uptoBulkAll elems + uptoBulkAll spare + 1
  | .agg parts => uptoBulkAll parts + 1
  | .iface _ d => uptoBulk d + 1
  | .map entries => uptoBulkEntries entries + 1
  | .held _ => 1
def uptoBulkAll {H : Type} : List (DataW H) → Nat
  | [] => 0
  | d :: r => uptoBulk d + uptoBulkAll r
def uptoBulkEntries {H : Type} : List (Lit × DataW H) → Nat
  | [] => 0
  | x :: r => uptoBulkEntry x + uptoBulkEntries r
def uptoBulkEntry {H : Type} : Lit × DataW H → Nat
  | (.string bytes, d) => bytes.length + uptoBulk d + 1
  | (_, d) => uptoBulk d + 1
 end
def uptoSmall : (H : Type) → List (DataW H) → Bool := fun _ ds => decide (uptoBulkAll ds ≤ 1048576)
def OpenSpec.upto (s : _root_.Go.ChangeSpec) : _root_.Go.OpenSpec := { _root_.Go.OpenSpec.ofChange s with cond := some uptoSmall }

/-- 'deadlatchlaw23.ClientChecks', WHERE WHAT IT READS IS OF BULK AT MOST 1048576: true; the input reads as it did. -/
def clientChecksUptoRow : OpenClaim := { program := "ytlcoealfnlakhaadoor", sum := "7f0a476cc6a2fe502edb4637a9c5ca3acf5e15cdd0d2a5277ee155a68713bc9a", func := "deadlatch/deadlatchlaw23.ClientChecks", spec := "clientChecks", unfollowed := true, recurses := true, named := ["deadlatch/obj.names"], apart := false, laid := [("deadlatch/obj.names", laid_deadlatch_obj_names)], narrowed := true }
def ClientChecksUptoSaid : Prop := clientChecksUptoRow.holds Tryd.pinned (OpenSpec.upto clientChecksSpec)

/-- 'deadlatchlaw23.ClientRights', WHERE WHAT IT READS IS OF BULK AT MOST 1048576: true; the input reads as it did. -/
def clientRightsUptoRow : OpenClaim := { program := "ytlcoealfnlakhaadoor", sum := "7f0a476cc6a2fe502edb4637a9c5ca3acf5e15cdd0d2a5277ee155a68713bc9a", func := "deadlatch/deadlatchlaw23.ClientRights", spec := "clientRights", unfollowed := true, recurses := true, named := ["deadlatch/obj.names"], apart := false, laid := [("deadlatch/obj.names", laid_deadlatch_obj_names)], narrowed := true }
def ClientRightsUptoSaid : Prop := clientRightsUptoRow.holds Tryd.pinned (OpenSpec.upto clientRightsSpec)

/-- 'deadlatchlaw23.ClientKeeps', WHERE WHAT IT READS IS OF BULK AT MOST 1048576: true; the input reads as it did. -/
def clientKeepsUptoRow : OpenClaim := { program := "ytlcoealfnlakhaadoor", sum := "7f0a476cc6a2fe502edb4637a9c5ca3acf5e15cdd0d2a5277ee155a68713bc9a", func := "deadlatch/deadlatchlaw23.ClientKeeps", spec := "clientKeeps", unfollowed := true, recurses := true, named := ["deadlatch/obj.names"], apart := false, laid := [("deadlatch/obj.names", laid_deadlatch_obj_names)], narrowed := true }
def ClientKeepsUptoSaid : Prop := clientKeepsUptoRow.holds Tryd.pinned (OpenSpec.upto clientKeepsSpec)

/-- 'deadlatchlaw23.ClientFront', WHERE WHAT IT READS IS OF BULK AT MOST 1048576: true; the input reads as it did. -/
def clientFrontUptoRow : OpenClaim := { program := "ytlcoealfnlakhaadoor", sum := "7f0a476cc6a2fe502edb4637a9c5ca3acf5e15cdd0d2a5277ee155a68713bc9a", func := "deadlatch/deadlatchlaw23.ClientFront", spec := "clientFront", unfollowed := true, recurses := true, named := ["deadlatch/obj.names"], apart := false, laid := [("deadlatch/obj.names", laid_deadlatch_obj_names)], narrowed := true }
def ClientFrontUptoSaid : Prop := clientFrontUptoRow.holds Tryd.pinned (OpenSpec.upto clientFrontSpec)

/-- 'deadlatchlaw23.ClientRises', WHERE WHAT IT READS IS OF BULK AT MOST 1048576: true; the input reads as it did. -/
def clientRisesUptoRow : OpenClaim := { program := "ytlcoealfnlakhaadoor", sum := "7f0a476cc6a2fe502edb4637a9c5ca3acf5e15cdd0d2a5277ee155a68713bc9a", func := "deadlatch/deadlatchlaw23.ClientRises", spec := "clientRises", unfollowed := true, recurses := true, named := ["deadlatch/obj.names"], apart := false, laid := [("deadlatch/obj.names", laid_deadlatch_obj_names)], narrowed := true }
def ClientRisesUptoSaid : Prop := clientRisesUptoRow.holds Tryd.pinned (OpenSpec.upto clientRisesSpec)

end Rows
end Go.Proofs.YtlcoealfnlakhaaDoor
