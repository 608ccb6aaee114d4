/- awake: the document's example. -/
import Derived.Test.YtnchafbaipeagaaOrdered
namespace Go.Proofs.Ytnchafbaipeagaa
open Go.RowKit
set_option linter.unusedVariables false
set_option linter.unusedSimpArgs false
def aw1 (i : Nat) : Plain.A := if i = 0 then ⟨2, 0, 5⟩ else ⟨1, 1, 5⟩
def aw2 (i : Nat) : Plain.A := if i = 0 then ⟨2, 0, 5⟩ else if i = 1 then ⟨3, 0, 1⟩ else if i = 2 then ⟨4, 1, 1⟩ else ⟨1, 1, 5⟩
theorem found1 : Plain.findR (Plain.raceC aw1) 2 = some (0, 1) := by decide +kernel
theorem found2 : Plain.findR (Plain.raceC aw2) 4 = none := by decide +kernel
theorem acts_row {w : World} {b : Nat} {cs : Array Value} {t : TypeId} {n : Nat} {f : Nat → Plain.A} (h : w.heap[b]? = some (.cells cs t (0, 0))) (hc : ∀ i, i < n → cs[0 + i * 3]? = some (.int .i64 (f i).kind) ∧ cs[0 + i * 3 + 1]? = some (.int .i64 (f i).who) ∧ cs[0 + i * 3 + 2]? = some (.int .i64 (f i).place)) :
    Acts w (some ⟨b, 0, none⟩) n f := fun _ => ⟨b, 0, rfl, blk_lt h, fun i hi => by
  obtain ⟨c0, c1, c2⟩ := hc i hi
  exact ⟨(cell_of_row w b _ cs t _ h).trans c0, (cell_of_row w b _ cs t _ h).trans c1, (cell_of_row w b _ cs t _ h).trans c2⟩⟩
set_option maxRecDepth 100000 in
theorem awake (w : World) : Calls Try.prog 8 #[] w fun e w' => e = .returned (.bool true) ∧ Below w.heap.size w w' := by
  go_enter Try.func8, Try.ntmps8
  go_wp2_with fail
  have hA : Acts (w.alloc (Obj.cells #[Value.int IntKind.i64 2, Value.int IntKind.i64 0, Value.int IntKind.i64 5, Value.int IntKind.i64 1, Value.int IntKind.i64 1, Value.int IntKind.i64 5] 34)) (some ⟨w.heap.size, 0, none⟩) 2 aw1 :=
    acts_row (heap_alloc_new w _) fun i hi => by
      have : i = 0 ∨ i = 1 := by omega
      rcases this with rfl | rfl <;> exact ⟨rfl, rfl, rfl⟩
  refine (Find _ 2 2 aw1 (by omega) _ hA).mono ?_
  rintro e w1 ⟨rfl, hb1⟩
  rw [found1]
  unfold foundV
  clear hA
  have hB : Below w.heap.size w w1 := ((Below.refl _ _).alloc (Nat.le_refl _) _).trans (hb1.mono (by simp))
  clear hb1
  go_wp2_with fail
  have hA : Acts (w1.alloc (Obj.cells #[Value.int IntKind.i64 2, Value.int IntKind.i64 0, Value.int IntKind.i64 5, Value.int IntKind.i64 3, Value.int IntKind.i64 0, Value.int IntKind.i64 1, Value.int IntKind.i64 4, Value.int IntKind.i64 1, Value.int IntKind.i64 1, Value.int IntKind.i64 1, Value.int IntKind.i64 1, Value.int IntKind.i64 5] 34)) (some ⟨w1.heap.size, 0, none⟩) 4 aw2 :=
    acts_row (heap_alloc_new w1 _) fun i hi => by
      have : i = 0 ∨ i = 1 ∨ i = 2 ∨ i = 3 := by omega
      rcases this with rfl | rfl | rfl | rfl <;> exact ⟨rfl, rfl, rfl⟩
  refine (Find _ 4 4 aw2 (by omega) _ hA).mono ?_
  rintro e w2 ⟨rfl, hb2⟩
  rw [found2]
  unfold foundV
  clear hA
  replace hB : Below w.heap.size w w2 := hB.trans ((((Below.refl _ _).alloc (Nat.le_refl _) _).trans (hb2.mono (by simp))).mono hB.size)
  clear hb2
  go_wp2
  go_ret
  exact ⟨rfl, hB⟩
end Go.Proofs.Ytnchafbaipeagaa
