/- What the two listed variables give. -/
import Derived.Test.YtemhcdlhhpckmaaDoorOOpenObj
import Derived.Test.YtemhcdlhhpckmaaDoorONames
namespace Go.Proofs.YtemhcdlhhpckmaaDoor
open Go.ChangeShapes Go.WideShapes Go.ChangeAt Go.RowKit Go.Deep
set_option linter.unusedVariables false
set_option linter.unusedSimpArgs false
theorem gCalls : Tryd.prog.globalNamed "deadlatch/obj.callNames" = some 1 := by kernel_rfl
theorem tCalls : (Tryd.prog.globals[1]?).map (·.type) = some 49 := by kernel_rfl
def laidNC : List (String × DataW Unit) := [("deadlatch/obj.names", Rows.laid_deadlatch_obj_names), ("deadlatch/obj.callNames", Rows.laid_deadlatch_obj_callNames)]
def cmL : List (List UInt8) := [[], [97, 99, 113, 117, 105, 114, 101], [114, 101, 108, 101, 97, 115, 101], [114, 101, 97, 100], [112, 117, 116], [116, 105, 99, 107, 101, 116], [115, 108, 101, 101, 112], [115, 105, 103, 110, 97, 108], [98, 114, 111, 97, 100, 99, 97, 115, 116], [101, 110, 116, 101, 114], [100, 111, 110, 101]]
theorem cmL_at : ∀ i, i < 11 → (cmB i).data.toList = cmL.getD i [] := by decide +kernel
theorem cm_of_vars {W : World} {g0 : Nat} {cs0 : Array Value} {f0 : Nat} {p0 : List MemPlace} (hg0 : Tryd.prog.globalNamed "deadlatch/obj.callNames" = some g0) (hv0 : W.var? Tryd.prog "deadlatch/obj.callNames" = some cs0) (hd0 : DataW.trod (H := Unit) (fun _ => ()) Tryd.prog W 0 (fun _ => true) false f0 49 cs0.toList = some (Rows.laid_deadlatch_obj_callNames, p0)) : CmW W := by
  obtain ⟨xs, m1, _, hx1, hlen, hn, hel⟩ := DataW.trod_array Tryd.underlying49 hd0
  have hC9 : Tryd.prog.cellsOf 9 = 1 := by kernel_rfl
  have hC49 : Tryd.prog.cellsOf 49 = 11 := by kernel_rfl
  have hxs : xs.map (·.1) = cmL.map fun b => (.lit (.string b) : DataW Unit) := by
    have h1 := (Prod.mk.inj hx1).1
    have h2 : (Rows.laid_deadlatch_obj_callNames (H := Unit)) = .agg (cmL.map fun b => .lit (.string b)) := rfl
    rw [h2] at h1
    injection h1 with h1
    exact h1.symm
  intro i hi
  have h1 := hel i hi
  rw [hC9, Nat.mul_one] at h1
  have hil : i < cs0.toList.length := by rw [hlen, hC49]; exact hi
  have hone : (cs0.toList.drop i).take 1 = [cs0.toList[i]] := by
    rw [List.drop_eq_getElem_cons hil]; rfl
  rw [hone, List.getElem?_eq_getElem (by omega)] at h1
  obtain ⟨s, hs1, hs2, _⟩ := DataW.trod_string Tryd.underlying9 h1
  have hxi : (xs.map (·.1))[i]? = some (.lit (.string s.data.toList)) := by
    rw [List.getElem?_map, List.getElem?_eq_getElem (by omega)]; simp [hs2]
  rw [hxs, List.getElem?_map, List.getElem?_eq_getElem (show i < cmL.length from hi)] at hxi
  have hb : s.data.toList = cmL[i]'(show i < cmL.length from hi) := by simpa [eq_comm] using hxi
  have hcell := World.var?_cell hg0 hv0 i
  obtain rfl := Option.some.inj (gCalls.symm.trans hg0)
  have hc : cs0[i]? = some (.string s) := by
    rw [← Array.getElem?_toList, List.getElem?_eq_getElem hil]
    have : cs0.toList[i] = .string s := by simpa using hs1
    rw [this]
  rw [hcell, hc]
  have he : s = cmB i := by
    have h2 := cmL_at i hi
    have h3 : cmL.getD i [] = cmL[i]'(show i < cmL.length from hi) := by simp [List.getD, List.getElem?_eq_getElem (show i < cmL.length from hi)]
    rw [h3, ← hb] at h2
    obtain ⟨⟨l⟩⟩ := s
    generalize cmB i = b at *
    obtain ⟨⟨l'⟩⟩ := b
    simp at h2
    rw [h2]
  rw [he]
theorem nc_of_laid {W : World} (h : laidMetH Tryd.prog laidNC W) : NmW W ∧ CmW W := by
  rw [MakeChecks.laidMetH_plain _ _ _ (by kernel_rfl)] at h
  obtain ⟨ps, ⟨g0, t0, cs0, f0, p0, q0, hg0, ht0, hv0, hd0, ⟨g1, t1, cs1, f1, p1, q1, hg1, ht1, hv1, hd1, _, _⟩, _⟩, _, _⟩ := h
  have hgg := Option.some.inj (gNames.symm.trans hg0)
  subst hgg
  obtain rfl := Option.some.inj (tNames.symm.trans ht0)
  have hgg := Option.some.inj (gCalls.symm.trans hg1)
  subst hgg
  obtain rfl := Option.some.inj (tCalls.symm.trans ht1)
  exact ⟨nm_of_vars hg0 hv0 hd0, cm_of_vars hg1 hv1 hd1⟩
theorem door_met2 (os : Os) (args : Array Value) : laidMetH Tryd.prog laidNC ((World.doorLaid Tryd.prog 400 os).forCall (fun _ _ => 0) ⟨#[], args, []⟩).memory :=
  laidMetH_of_parts3 (fuel := 8) (laidMet_of_run' 8 (by kernel_rfl) (by kernel_rfl)) (by kernel_rfl) (by kernel_rfl)
end Go.Proofs.YtemhcdlhhpckmaaDoor
