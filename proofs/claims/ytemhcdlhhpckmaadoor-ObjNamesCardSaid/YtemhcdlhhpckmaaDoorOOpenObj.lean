/- An object by value, a string: arguments opened. -/
import Derived.Test.YtemhcdlhhpckmaaDoorOOpen
import Derived.Lib.SmallJoins
import Derived.ChangeMaps5
namespace Go.Proofs.YtemhcdlhhpckmaaDoor
open Go.Joins Go.ChangeMaps Go.ChangeShapes Go.WideShapes Go.ChangeAt Go.RowKit Go.Deep
set_option linter.unusedVariables false
section
variable {H : Type} {enc : TypeId × Value → H} {w : World} {base : Nat} {spare : Nat → Bool} {held : Bool}
theorem open_obj {r : Reach} {b0 : Nat} {v : Value} {d : DataW H} {ps : List MemPlace} (hv : Value.okWide Tryd.prog w r b0 27 v) (h : DataW.Trod enc Tryd.prog w base spare held 27 v d ps) : ∃ x : O, v = ov x := by
  obtain ⟨v0, v1, v2, v3, y0, y1, y2, y3, n, rfl, _, _, t0, t1, t2, t3⟩ := open_agg4 Tryd.underlying27 (by kernel_rfl) (by kernel_rfl) hv h
  obtain ⟨k0, e0⟩ := trod_i64 t0
  obtain ⟨k1, e1⟩ := trod_i64 t1
  obtain ⟨k2, e2⟩ := trod_i64 t2
  obtain ⟨k3, e3⟩ := trod_i64 t3
  simp only [List.cons.injEq, and_true] at e0 e1 e2 e3
  subst e0 e1 e2 e3
  exact ⟨⟨k0, k1, k2, k3⟩, rfl⟩
theorem open_str {r : Reach} {b0 : Nat} {v : Value} {d : DataW H} {ps : List MemPlace} (hv : Value.okWide Tryd.prog w r b0 9 v) (h : DataW.Trod enc Tryd.prog w base spare held 9 v d ps) : ∃ s : ByteArray, v = .string s := by
  obtain ⟨s, h1, _, _, _⟩ := open_string Tryd.underlying9 hv h
  exact ⟨s, h1⟩
end
end Go.Proofs.YtemhcdlhhpckmaaDoor
