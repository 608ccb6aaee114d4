/- Small functions of obj: the interval, the names; the table of names in memory. -/
import Derived.Test.YtobkonbpcnmgpaaDoorChecked
import Derived.Test.YtobkonbpcnmgpaaDoorBase
import Derived.StillTactics
import Derived.DeepKeys
import Derived.Deep.DeepCutAuto
namespace Go.Proofs.YtobkonbpcnmgpaaDoor
open Go.RowKit
set_option linter.unusedVariables false
set_option linter.unusedSimpArgs false
/-- the kinds' names -/
def nmB : Nat → ByteArray
  | 0 => ⟨#[]⟩
  | 1 => ⟨#[116, 97, 115]⟩
  | 2 => ⟨#[116, 116, 97, 115]⟩
  | 3 => ⟨#[116, 105, 99, 107, 101, 116]⟩
  | 4 => ⟨#[109, 99, 115]⟩
  | 5 => ⟨#[99, 108, 104]⟩
  | 6 => ⟨#[112, 101, 116, 101, 114, 115, 111, 110]⟩
  | 7 => ⟨#[100, 101, 107, 107, 101, 114]⟩
  | 8 => ⟨#[98, 105, 97, 115]⟩
  | 9 => ⟨#[115, 101, 113]⟩
  | 10 => ⟨#[109, 117, 116, 101, 120]⟩
  | 11 => ⟨#[115, 101, 109]⟩
  | 12 => ⟨#[99, 111, 110, 100]⟩
  | 13 => ⟨#[98, 97, 114, 114, 105, 101, 114]⟩
  | 14 => ⟨#[114, 119]⟩
  | 15 => ⟨#[111, 110, 99, 101]⟩
  | _ => ⟨#[]⟩
/-- what the variable holds -/
def NmW (w : World) : Prop := ∀ i : Nat, i < 16 → w.cell? ⟨0, i, none⟩ = some (.string (nmB i))
theorem NmW.pos {w : World} (h : NmW w) : 0 < w.heap.size := by
  have := h 0 (by omega)
  unfold World.cell? at this
  split at this
  · rename_i h'; exact (Array.getElem?_eq_some_iff.1 h').1
  · cases this
theorem NmW.below {w w' : World} (h : NmW w) (hb : Below w.heap.size w w') : NmW w' := fun i hi => (hb.cell (p := ⟨0, i, none⟩) h.pos).trans (h i hi)
def nmOf (k : Int) : ByteArray := if 1 ≤ k ∧ k ≤ 15 then nmB k.toNat else ⟨#[]⟩
theorem inC (n l h : Int) (w : World) : Calls Tryd.prog 35 #[.int .i64 n, .int .i64 l, .int .i64 h] w fun e w' => e = .returned (.bool (decide (l ≤ n ∧ n ≤ h))) ∧ w' = w := by
  by_cases h1 : l ≤ n
  · by_cases h2 : n ≤ h
    · rw [decide_eq_true (⟨h1, h2⟩ : l ≤ n ∧ n ≤ h)]
      go_enter Tryd.func35, Tryd.ntmps35
      go_wp2
      go_ret
      exact ⟨rfl, rfl⟩
    · rw [decide_eq_false (fun h => h2 h.2 : ¬ (l ≤ n ∧ n ≤ h))]
      go_enter Tryd.func35, Tryd.ntmps35
      go_wp2
      go_ret
      exact ⟨rfl, rfl⟩
  · rw [decide_eq_false (fun h => h1 h.1 : ¬ (l ≤ n ∧ n ≤ h))]
    go_enter Tryd.func35, Tryd.ntmps35
    go_wp2
    go_ret
    exact ⟨rfl, rfl⟩
theorem objName (k : Int) (w : World) (h : NmW w) : Calls Tryd.prog 36 #[.int .i64 k] w fun e w' => e = .returned (.string (nmOf k)) ∧ w' = w := by
  unfold nmOf
  by_cases h1 : k < 1
  · rw [if_neg (by omega)]
    go_enter Tryd.func36, Tryd.ntmps36
    go_wp2
    go_ret
    exact ⟨rfl, rfl⟩
  by_cases h2 : k ≥ 16
  · rw [if_neg (by omega)]
    go_enter Tryd.func36, Tryd.ntmps36
    go_wp2
    go_ret
    exact ⟨rfl, rfl⟩
  rw [if_pos (by omega)]
  obtain ⟨k, rfl⟩ : ∃ j : Nat, k = j := ⟨k.toNat, by omega⟩
  have hl0 : (0 : Int) ≤ k := by omega
  have hl1 : (k : Int) < 16 := by omega
  have c := h k (by omega)
  go_enter Tryd.func36, Tryd.ntmps36
  go_wp2
  go_ret
  exact ⟨rfl, rfl⟩
end Go.Proofs.YtobkonbpcnmgpaaDoor
