/- awake: the document's example. -/
import Derived.Test.YtemhcdlhhpckmaaDoorOBase
namespace Go.Proofs.YtemhcdlhhpckmaaDoor
open Go.RowKit
set_option linter.unusedVariables false
set_option linter.unusedSimpArgs false
def awp (i : Nat) : Int := if i = 0 then 2 else if i = 6 then 1 else 0
theorem awF : (firstL ⟨5, 0, 0, 0⟩ 2).length = 9 ∧ ∀ i, i < 9 → pt (firstL ⟨5, 0, 0, 0⟩ 2) i = awp i := by decide +kernel
set_option maxRecDepth 100000 in
theorem awake (w : World) (h : NmW w) : Calls Tryd.prog 6 #[] w fun e w' => e = .returned (.bool true) ∧ Below w.heap.size w w' := by
  have hF := objFirst ⟨5, 0, 0, 0⟩ 2 (by decide)
  rw [awF.1] at hF
  unfold ov at hF
  go_enter Tryd.func6, Tryd.ntmps6
  go_wp2_with fail
  refine (hF w h).mono ?_
  rintro e w1 ⟨V, c, rfl, hW, hb1⟩
  clear hF
  go_wp2_with fail
  have hu : urow 9 awp = #[Value.int IntKind.u32 2, Value.int IntKind.u32 0, Value.int IntKind.u32 0, Value.int IntKind.u32 0, Value.int IntKind.u32 0, Value.int IntKind.u32 0, Value.int IntKind.u32 1, Value.int IntKind.u32 0, Value.int IntKind.u32 0] := rfl
  rw [← hu]
  have hb2 : Below w1.heap.size w1 (w1.alloc (.cells (urow 9 awp) 45)) := (Below.refl _ _).alloc (Nat.le_refl _) _
  refine (same V _ 9 c 9 (by omega) awp _ ((hW.congr awF.2).below hb2) (Wd.row (heap_alloc_new w1 _))).mono ?_
  rintro e w2 ⟨rfl, hb3⟩
  clear hu hW
  have hB : Below w.heap.size w w2 := (hb1.trans (hb2.mono hb1.size)).trans (hb3.mono (Nat.le_trans hb1.size hb2.size))
  clear hb1 hb2 hb3
  go_wp2_with fail
  refine (objName 1 _ (h.below hB)).mono ?_
  rintro e w3 ⟨rfl, rfl⟩
  have hn : nmOf 1 = ⟨#[116, 97, 115]⟩ := by decide +kernel
  rw [hn]
  go_wp2
  go_ret
  exact ⟨rfl, hB⟩
end Go.Proofs.YtemhcdlhhpckmaaDoor
