/-
  NARROWER THAN 'FOR EVERY INPUT', by the rows' own cells (each row's printed sentence says how): TopFifo: laid.
  DERIVED. THE GIVEN ROWS OF THIS SEAT. 1 by the template 'for every input the law returns true; each argument reads behind the call as it read before'; 0 by the template 'total and deterministic' (their statements: YtldlcnaphednnaaGreatDoorTotals.lean).
  GIVEN WITH THE SEED: the statements are not yours to turn. If you find one false, say at which input.
  Laid BY PROGRAM, IN A SANDBOX (cutbox-rows.mjs): the forced cells as the released guide's own fill.sh prints them over the translation 0dba95eff5da0129… (all of the seat's roots in one cut). By AI agents, Wed Nov 11 2026. No macro, syntax, notation, axiom, sorry.
-/
import Derived.Test.YtldlcnaphednnaaGreatDoorChecked
import GoSem.Claim
import GoSem.ClaimJoined
import GoSem.ClaimMapViews
import Derived.JoinedTies
import Derived.KernelRfl
namespace Go.Proofs.YtldlcnaphednnaaGreatDoor
/- THE CELL 'sum', in the pinned program and in every row, IS THE sha256 OF THE DUMP (.gsa) THAT YtldlcnaphednnaaGreatDoorProg.lean LOADS. Nothing in Lean hashes anything: it is a label: what it is worth is what the hold of that sum in a sandbox is worth. -/
noncomputable def Tryz.pinned : Pinned := { name := "ytldlcnaphednnaagreatdoor", sum := "0dba95eff5da01296cdbb3b6378715c22a54f9cef56baf204ca63e370419d601", checked := Tryz.checked }
namespace Rows
def none {H : Type} : Left H := { results := [], args := [] }

/- WHAT THE LISTED PACKAGE-LEVEL VARIABLES READ AS WHEN THE CALL BEGINS. Each datum BY PROGRAM (the guide's laid-datum.mjs) off the statement by which the dump's own 'gosem.cut.vars' lays the variable. In a bare row this is a premise. The card (YtldlcnaphednnaaGreatDoorCards.lean) ties it to the program's text. -/
def laid_deadlatch_isa_uses {H : Type} : DataW H := .agg [.lit (.int .i64 0), .lit (.int .i64 17), .lit (.int .i64 3), .lit (.int .i64 7), .lit (.int .i64 7), .lit (.int .i64 7), .lit (.int .i64 7), .lit (.int .i64 7), .lit (.int .i64 7), .lit (.int .i64 7), .lit (.int .i64 7), .lit (.int .i64 7), .lit (.int .i64 7), .lit (.int .i64 32), .lit (.int .i64 33), .lit (.int .i64 33), .lit (.int .i64 25), .lit (.int .i64 25), .lit (.int .i64 0), .lit (.int .i64 25), .lit (.int .i64 25), .lit (.int .i64 29), .lit (.int .i64 1), .lit (.int .i64 25), .lit (.int .i64 25), .lit (.int .i64 0), .lit (.int .i64 0), .lit (.int .i64 17)]
def laid_deadlatch_isa_names {H : Type} : DataW H := .agg [.lit (.string [104, 97, 108, 116]), .lit (.string [115, 101, 116]), .lit (.string [109, 111, 118, 101]), .lit (.string [97, 100, 100]), .lit (.string [115, 117, 98]), .lit (.string [109, 117, 108]), .lit (.string [97, 110, 100]), .lit (.string [111, 114]), .lit (.string [120, 111, 114]), .lit (.string [115, 104, 108]), .lit (.string [115, 104, 114]), .lit (.string [108, 101, 115, 115]), .lit (.string [115, 97, 109, 101]), .lit (.string [106, 117, 109, 112]), .lit (.string [122, 101, 114, 111]), .lit (.string [115, 111, 109, 101]), .lit (.string [108, 111, 97, 100]), .lit (.string [115, 116, 111, 114, 101]), .lit (.string [102, 101, 110, 99, 101]), .lit (.string [115, 119, 97, 112]), .lit (.string [102, 101, 116, 99, 104]), .lit (.string [99, 97, 115]), .lit (.string [111, 117, 116]), .lit (.string [119, 97, 105, 116]), .lit (.string [119, 97, 107, 101]), .lit (.string [114, 101, 109, 111, 116, 101]), .lit (.string [121, 105, 101, 108, 100]), .lit (.string [109, 97, 114, 107])]
def laid_deadlatch_obj_names {H : Type} : DataW H := .agg [.lit (.string []), .lit (.string [116, 97, 115]), .lit (.string [116, 116, 97, 115]), .lit (.string [116, 105, 99, 107, 101, 116]), .lit (.string [109, 99, 115]), .lit (.string [99, 108, 104]), .lit (.string [112, 101, 116, 101, 114, 115, 111, 110]), .lit (.string [100, 101, 107, 107, 101, 114]), .lit (.string [98, 105, 97, 115]), .lit (.string [115, 101, 113]), .lit (.string [109, 117, 116, 101, 120]), .lit (.string [115, 101, 109]), .lit (.string [99, 111, 110, 100]), .lit (.string [98, 97, 114, 114, 105, 101, 114]), .lit (.string [114, 119]), .lit (.string [111, 110, 99, 101])]

/-- 'deadlatchtop.TopFifo': WHATEVER THE INPUT: true; the input reads as it did. -/
def topFifoSpec : ChangeSpec := { name := "topFifo", fn := fun _ => fun
  | [d1, d2] => { results := [.lit (.bool true)], args := [d1, d2] }
  | _ => none }
def topFifoRow : OpenClaim := { program := "ytldlcnaphednnaagreatdoor", sum := "0dba95eff5da01296cdbb3b6378715c22a54f9cef56baf204ca63e370419d601", func := "deadlatch/deadlatchtop.TopFifo", spec := "topFifo", unfollowed := true, recurses := true, named := ["deadlatch/obj.names", "deadlatch/isa.uses", "deadlatch/isa.names"], apart := false, laid := [("deadlatch/isa.uses", laid_deadlatch_isa_uses), ("deadlatch/isa.names", laid_deadlatch_isa_names), ("deadlatch/obj.names", laid_deadlatch_obj_names)] }
def TopFifoSaid : Prop := topFifoRow.holds Tryz.pinned (OpenSpec.ofChange topFifoSpec)

/-- ITS FALSE NEIGHBOUR: 'it returns false'. Refute it at one input. -/
def topFifoWrong : ChangeSpec := { name := "topFifo", fn := fun _ => fun
  | [d1, d2] => { results := [.lit (.bool false)], args := [d1, d2] }
  | _ => none }
def TopFifoWrongFalsely : Prop := topFifoRow.holds Tryz.pinned (OpenSpec.ofChange topFifoWrong)

/- THE SECOND FORM. 'bulk': how many values and letters a reading holds, each counted each time it is reached (what is shared counts as often as it is met; a slice's spare places count too). A statement '..UptoSaid' is the law's where the arguments, and the package variables that the reading takes, are together of bulk at most 1048576: NARROWER than '..Said'. Prove '..Said' where nothing that the law and all that it calls make is longer than what came in: it says more and counts as full. Else prove '..UptoSaid'. A law counts once. -/
mutual
def uptoBulk {H : Type} : DataW H → Nat
  | .lit (.string bytes) => bytes.length + 1
  | .lit _ => 1
  | .nil => 1
  | .ptr d => uptoBulk d + 1
  | .slice elems spare => uptoBulkAll elems + uptoBulkAll spare + 1
  | .agg parts => uptoBulkAll parts + 1
  | .iface _ d => uptoBulk d + 1
  | .map entries => uptoBulkEntries entries + 1
  | .held _ => 1
def uptoBulkAll {H : Type} : List (DataW H) → Nat
  | [] => 0
  | d :: r => uptoBulk d + uptoBulkAll r
def uptoBulkEntries {H : Type} : List (Lit × DataW H) → Nat
  | [] => 0
  | x :: r => uptoBulkEntry x + uptoBulkEntries r
def uptoBulkEntry {H : Type} : Lit × DataW H → Nat
  | (.string bytes, d) => bytes.length + uptoBulk d + 1
  | (_, d) => uptoBulk d + 1
 end
def uptoSmall : (H : Type) → List (DataW H) → Bool := fun _ ds => decide (uptoBulkAll ds ≤ 1048576)
def OpenSpec.upto (s : _root_.Go.ChangeSpec) : _root_.Go.OpenSpec := { _root_.Go.OpenSpec.ofChange s with cond := some uptoSmall }

/-- 'deadlatchtop.TopFifo', WHERE WHAT IT READS IS OF BULK AT MOST 1048576: true; the input reads as it did. -/
def topFifoUptoRow : OpenClaim := { program := "ytldlcnaphednnaagreatdoor", sum := "0dba95eff5da01296cdbb3b6378715c22a54f9cef56baf204ca63e370419d601", func := "deadlatch/deadlatchtop.TopFifo", spec := "topFifo", unfollowed := true, recurses := true, named := ["deadlatch/obj.names", "deadlatch/isa.uses", "deadlatch/isa.names"], apart := false, laid := [("deadlatch/isa.uses", laid_deadlatch_isa_uses), ("deadlatch/isa.names", laid_deadlatch_isa_names), ("deadlatch/obj.names", laid_deadlatch_obj_names)], narrowed := true }
def TopFifoUptoSaid : Prop := topFifoUptoRow.holds Tryz.pinned (OpenSpec.upto topFifoSpec)

end Rows
end Go.Proofs.YtldlcnaphednnaaGreatDoor
