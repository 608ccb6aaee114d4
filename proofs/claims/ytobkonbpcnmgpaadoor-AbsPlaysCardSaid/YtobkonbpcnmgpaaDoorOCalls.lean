/- What may be asked of a kind: the program's list, and the document's answer. -/
import Derived.Test.YtobkonbpcnmgpaaDoorORefRight
namespace Go.Proofs.YtobkonbpcnmgpaaDoor
open Go.RowKit
set_option linter.unusedVariables false
set_option linter.unusedSimpArgs false
def kdN (n : Int) : Nat := if 1 ≤ n ∧ n ≤ 15 then n.toNat else 0
def callsN : Nat → List Nat
  | 0 => []
  | 1 => [1, 2]
  | 2 => [1, 2]
  | 3 => [1, 2]
  | 4 => [1, 2]
  | 5 => [1, 2]
  | 6 => [1, 2]
  | 7 => [1, 2]
  | 8 => [1, 2]
  | 9 => [1, 2, 3, 4]
  | 10 => [1, 2]
  | 11 => [1, 2]
  | 12 => [5, 6, 7, 8]
  | 13 => [9]
  | 14 => [1, 2, 3]
  | 15 => [9, 10]
  | _ => []
def mayN (k c : Nat) : Bool := (callsN k).contains c
def cntN (k c : Nat) : Nat := ((List.range c).filter fun j => decide (1 ≤ j) && mayN k j).length
theorem cnt_in : ∀ k, k < 16 → ∀ c, c ≤ 10 → mayN k c = true → cntN k c < (callsN k).length ∧ (callsN k).getD (cntN k c) 0 = c := by decide +kernel
theorem cnt_step : ∀ k, k < 16 → ∀ c, c ≤ 10 → 1 ≤ c → cntN k (c + 1) = if mayN k c then cntN k c + 1 else cntN k c := by decide +kernel
theorem cnt_all : ∀ k, k < 16 → cntN k 11 = (callsN k).length ∧ cntN k 1 = 0 := by decide +kernel
theorem kdN_lt (n : Int) : kdN n < 16 := by unfold kdN; split <;> omega
def Ints (w : World) (V : Option Addr) (n : Nat) (l : List Nat) : Prop :=
  0 < n → ∃ b off, V = some ⟨b, off, none⟩ ∧ b < w.heap.size ∧ ∀ i, i < n → w.cell? ⟨b, off + i, none⟩ = some (.int .i64 (l.getD i 0))
theorem Ints.below {w w' : World} {V : Option Addr} {n : Nat} {l : List Nat} (h : Ints w V n l) (hb : Below w.heap.size w w') : Ints w' V n l := fun hn => by
  obtain ⟨b, off, e, hlt, hc⟩ := h hn
  exact ⟨b, off, e, Nat.lt_of_lt_of_le hlt hb.size, fun i hi => (hb.cell (p := ⟨b, off + i, none⟩) hlt).trans (hc i hi)⟩
theorem ints_row {w : World} {b : Nat} {t : TypeId} {cs : Array Value} (l : List Nat) (h : w.heap[b]? = some (.cells cs t (0, 0))) (hcs : cs = (l.map fun x : Nat => Value.int .i64 (x : Int)).toArray) : Ints w (some ⟨b, 0, none⟩) l.length l := fun _ => ⟨b, 0, rfl, blk_lt h, fun i hi => by
  rw [cell_of_row w b _ cs t _ h, hcs, Nat.zero_add]; simp [hi]⟩
set_option maxRecDepth 100000 in
theorem objCalls (n : Int) (w : World) (h : NmW w) : Calls Tryd.prog 37 #[.int .i64 n] w fun e w' => ∃ V c, e = .returned (.slice V (callsN (kdN n)).length c) ∧ Ints w' V (callsN (kdN n)).length (callsN (kdN n)) ∧ Below w.heap.size w w' := by
  obtain ⟨L, hL⟩ : ∃ L, Hid (callsN (kdN n) = L) := ⟨_, rfl⟩
  rw [hL.out]
  by_cases e9 : n = 9
  · subst e9
    obtain rfl : L = [1, 2, 3, 4] := hL.out.symm
    go_enter Tryd.func37, Tryd.ntmps37
    go_wp2
    go_ret
    first | exact ⟨_, _, rfl, ints_row [1, 2, 3, 4] (heap_alloc_new w _) rfl, (Below.refl _ _).alloc (Nat.le_refl _) _⟩ | exact ⟨_, ⟨_, rfl⟩, ints_row [1, 2, 3, 4] (heap_alloc_new w _) rfl, (Below.refl _ _).alloc (Nat.le_refl _) _⟩
  by_cases e12 : n = 12
  · subst e12
    obtain rfl : L = [5, 6, 7, 8] := hL.out.symm
    go_enter Tryd.func37, Tryd.ntmps37
    go_wp2
    go_ret
    first | exact ⟨_, _, rfl, ints_row [5, 6, 7, 8] (heap_alloc_new w _) rfl, (Below.refl _ _).alloc (Nat.le_refl _) _⟩ | exact ⟨_, ⟨_, rfl⟩, ints_row [5, 6, 7, 8] (heap_alloc_new w _) rfl, (Below.refl _ _).alloc (Nat.le_refl _) _⟩
  by_cases e13 : n = 13
  · subst e13
    obtain rfl : L = [9] := hL.out.symm
    go_enter Tryd.func37, Tryd.ntmps37
    go_wp2
    go_ret
    first | exact ⟨_, _, rfl, ints_row [9] (heap_alloc_new w _) rfl, (Below.refl _ _).alloc (Nat.le_refl _) _⟩ | exact ⟨_, ⟨_, rfl⟩, ints_row [9] (heap_alloc_new w _) rfl, (Below.refl _ _).alloc (Nat.le_refl _) _⟩
  by_cases e14 : n = 14
  · subst e14
    obtain rfl : L = [1, 2, 3] := hL.out.symm
    go_enter Tryd.func37, Tryd.ntmps37
    go_wp2
    go_ret
    first | exact ⟨_, _, rfl, ints_row [1, 2, 3] (heap_alloc_new w _) rfl, (Below.refl _ _).alloc (Nat.le_refl _) _⟩ | exact ⟨_, ⟨_, rfl⟩, ints_row [1, 2, 3] (heap_alloc_new w _) rfl, (Below.refl _ _).alloc (Nat.le_refl _) _⟩
  by_cases e15 : n = 15
  · subst e15
    obtain rfl : L = [9, 10] := hL.out.symm
    go_enter Tryd.func37, Tryd.ntmps37
    go_wp2
    go_ret
    first | exact ⟨_, _, rfl, ints_row [9, 10] (heap_alloc_new w _) rfl, (Below.refl _ _).alloc (Nat.le_refl _) _⟩ | exact ⟨_, ⟨_, rfl⟩, ints_row [9, 10] (heap_alloc_new w _) rfl, (Below.refl _ _).alloc (Nat.le_refl _) _⟩
  have q9 : (n == 9) = false := by simp [e9]
  have q12 : (n == 12) = false := by simp [e12]
  have q13 : (n == 13) = false := by simp [e13]
  have q14 : (n == 14) = false := by simp [e14]
  have q15 : (n == 15) = false := by simp [e15]
  by_cases hk : 1 ≤ n ∧ n ≤ 15
  · obtain rfl : L = [1, 2] := hL.out.symm.trans (by
      unfold kdN; rw [if_pos hk]
      obtain ⟨j, rfl⟩ : ∃ j : Nat, n = j := ⟨n.toNat, by omega⟩
      have : j = 1 ∨ j = 2 ∨ j = 3 ∨ j = 4 ∨ j = 5 ∨ j = 6 ∨ j = 7 ∨ j = 8 ∨ j = 10 ∨ j = 11 := by omega
      rcases this with rfl | rfl | rfl | rfl | rfl | rfl | rfl | rfl | rfl | rfl <;> rfl)
    have hne : (nmOf n).toList.isEmpty = false := nm_ne hk
    clear e9 e12 e13 e14 e15
    go_enter Tryd.func37, Tryd.ntmps37
    go_wp2_with fail
    refine (objName n _ h).mono ?_
    rintro e w1 ⟨rfl, hw1⟩
    subst hw1
    go_wp2
    go_ret
    first | exact ⟨_, _, rfl, ints_row [1, 2] (heap_alloc_new w1 _) rfl, (Below.refl _ _).alloc (Nat.le_refl _) _⟩ | exact ⟨_, ⟨_, rfl⟩, ints_row [1, 2] (heap_alloc_new w1 _) rfl, (Below.refl _ _).alloc (Nat.le_refl _) _⟩
  · obtain rfl : L = [] := hL.out.symm.trans (by unfold kdN; rw [if_neg hk]; rfl)
    have hne : (nmOf n).toList.isEmpty = true := nm_eq hk
    clear e9 e12 e13 e14 e15
    go_enter Tryd.func37, Tryd.ntmps37
    go_wp2_with fail
    refine (objName n _ h).mono ?_
    rintro e w1 ⟨rfl, hw1⟩
    subst hw1
    go_wp2
    go_ret
    first | exact ⟨_, _, rfl, fun h0 => absurd h0 (by simp), Below.refl _ _⟩ | exact ⟨_, ⟨_, rfl⟩, fun h0 => absurd h0 (by simp), Below.refl _ _⟩
set_option maxRecDepth 100000 in
set_option maxHeartbeats 4000000 in
theorem refMay (n : Int) (c : Nat) (hc : 1 ≤ c ∧ c ≤ 10) (w : World) : Calls Tryd.prog 40 #[.int .i64 n, .int .i64 c] w fun e w' => e = .returned (.bool (mayN (kdN n) c)) ∧ Below w.heap.size w w' := by
  obtain ⟨B, hB⟩ : ∃ B, Hid (mayN (kdN n) c = B) := ⟨_, rfl⟩
  rw [hB.out]
  have h10 : c = 1 ∨ c = 2 ∨ c = 3 ∨ c = 4 ∨ c = 5 ∨ c = 6 ∨ c = 7 ∨ c = 8 ∨ c = 9 ∨ c = 10 := by omega
  by_cases e9 : n = 9
  · subst e9
    rcases h10 with rfl | rfl | rfl | rfl | rfl | rfl | rfl | rfl | rfl | rfl <;>
    · obtain rfl := hB.out
      go_enter Tryd.func40, Tryd.ntmps40
      go_wp2
      go_ret
      exact ⟨rfl, Below.refl _ _⟩
  by_cases e12 : n = 12
  · subst e12
    rcases h10 with rfl | rfl | rfl | rfl | rfl | rfl | rfl | rfl | rfl | rfl <;>
    · obtain rfl := hB.out
      go_enter Tryd.func40, Tryd.ntmps40
      go_wp2
      go_ret
      exact ⟨rfl, Below.refl _ _⟩
  by_cases e13 : n = 13
  · subst e13
    rcases h10 with rfl | rfl | rfl | rfl | rfl | rfl | rfl | rfl | rfl | rfl <;>
    · obtain rfl := hB.out
      go_enter Tryd.func40, Tryd.ntmps40
      go_wp2
      go_ret
      exact ⟨rfl, Below.refl _ _⟩
  by_cases e14 : n = 14
  · subst e14
    rcases h10 with rfl | rfl | rfl | rfl | rfl | rfl | rfl | rfl | rfl | rfl <;>
    · obtain rfl := hB.out
      go_enter Tryd.func40, Tryd.ntmps40
      go_wp2
      go_ret
      exact ⟨rfl, Below.refl _ _⟩
  by_cases e15 : n = 15
  · subst e15
    rcases h10 with rfl | rfl | rfl | rfl | rfl | rfl | rfl | rfl | rfl | rfl <;>
    · obtain rfl := hB.out
      go_enter Tryd.func40, Tryd.ntmps40
      go_wp2
      go_ret
      exact ⟨rfl, Below.refl _ _⟩
  have q9 : (n == 9) = false := by simp [e9]
  have q12 : (n == 12) = false := by simp [e12]
  have q13 : (n == 13) = false := by simp [e13]
  have q14 : (n == 14) = false := by simp [e14]
  have q15 : (n == 15) = false := by simp [e15]
  by_cases h1 : 1 ≤ n
  · by_cases h2 : n ≤ 11
    · have hm : ∀ c, mayN (kdN n) c = ([1, 2] : List Nat).contains c := fun c => by
        have hk : callsN (kdN n) = [1, 2] := by
          unfold kdN; rw [if_pos (by omega)]
          obtain ⟨j, rfl⟩ : ∃ j : Nat, n = j := ⟨n.toNat, by omega⟩
          have : j = 1 ∨ j = 2 ∨ j = 3 ∨ j = 4 ∨ j = 5 ∨ j = 6 ∨ j = 7 ∨ j = 8 ∨ j = 10 ∨ j = 11 := by omega
          rcases this with rfl | rfl | rfl | rfl | rfl | rfl | rfl | rfl | rfl | rfl <;> rfl
        unfold mayN; rw [hk]
      have hB' := hB.out
      rw [hm] at hB'
      clear hm hB e9 e12 e13 e14 e15
      rcases h10 with rfl | rfl | rfl | rfl | rfl | rfl | rfl | rfl | rfl | rfl <;>
      · subst hB'
        go_enter Tryd.func40, Tryd.ntmps40
        go_wp2
        go_ret
        exact ⟨rfl, Below.refl _ _⟩
    · obtain rfl : B = false := hB.out.symm.trans (by unfold kdN; rw [if_neg (by omega)]; rfl)
      clear e9 e12 e13 e14 e15 hB
      go_enter Tryd.func40, Tryd.ntmps40
      go_wp2
      go_ret
      exact ⟨rfl, Below.refl _ _⟩
  · obtain rfl : B = false := hB.out.symm.trans (by unfold kdN; rw [if_neg (by omega)]; rfl)
    clear e9 e12 e13 e14 e15 hB
    go_enter Tryd.func40, Tryd.ntmps40
    go_wp2
    go_ret
    exact ⟨rfl, Below.refl _ _⟩
end Go.Proofs.YtobkonbpcnmgpaaDoor
