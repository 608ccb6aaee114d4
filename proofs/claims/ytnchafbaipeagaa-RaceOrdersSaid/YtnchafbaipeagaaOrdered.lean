/- Ordered: which act is known at which, as the program asks it. -/
import Derived.Test.YtnchafbaipeagaaFind
namespace Go.Proofs.Ytnchafbaipeagaa
open Go.RowKit
set_option linter.unusedVariables false
set_option linter.unusedSimpArgs false
set_option maxRecDepth 100000 in
theorem Ordered (A : Option Addr) (n cn : Nat) (f : Nat → Plain.A) (hn : n ≤ 4000) (i k : Int) (w : World) (hA : Acts w A n f) :
    Calls Try.prog 15 #[.slice A n cn, .int .i64 i, .int .i64 k] w fun e w' => e = .returned (.bool (Plain.ordC f n i k)) ∧ Below w.heap.size w w' := by
  by_cases h1 : i < 0
  · rw [show Plain.ordC f n i k = false by simp [Plain.ordC, show ¬ (0 ≤ i) by omega]]
    go_enter Try.func15, Try.ntmps15
    go_wp2
    go_ret
    exact ⟨rfl, Below.refl _ _⟩
  by_cases h2 : k < 0
  · rw [show Plain.ordC f n i k = false by simp [Plain.ordC, show ¬ (0 ≤ k) by omega]]
    go_enter Try.func15, Try.ntmps15
    go_wp2
    go_ret
    exact ⟨rfl, Below.refl _ _⟩
  by_cases h3 : i ≥ n
  · rw [show Plain.ordC f n i k = false by simp [Plain.ordC, show ¬ (i < n) by omega]]
    go_enter Try.func15, Try.ntmps15
    go_wp2
    go_ret
    exact ⟨rfl, Below.refl _ _⟩
  by_cases h4 : k ≥ n
  · rw [show Plain.ordC f n i k = false by simp [Plain.ordC, show ¬ (k < n) by omega]]
    go_enter Try.func15, Try.ntmps15
    go_wp2
    go_ret
    exact ⟨rfl, Below.refl _ _⟩
  by_cases h5 : i ≥ k
  · rw [show Plain.ordC f n i k = false by simp [Plain.ordC, show ¬ (i < k) by omega]]
    go_enter Try.func15, Try.ntmps15
    go_wp2
    go_ret
    exact ⟨rfl, Below.refl _ _⟩
  obtain ⟨i, rfl⟩ : ∃ j : Nat, i = j := ⟨i.toNat, by omega⟩
  obtain ⟨k, rfl⟩ : ∃ j : Nat, k = j := ⟨k.toNat, by omega⟩
  have hi : i < n := by omega
  have hk : k < n := by omega
  have hl1 : (0 : Int) ≤ i := by omega
  have hl2 : (0 : Int) ≤ k := by omega
  have hl3 : (i : Int) < n := by omega
  have hl4 : (k : Int) < n := by omega
  have hl5 : (i : Int) < k := by omega
  rw [show Plain.ordC f n i k = (Plain.right (f i) && Plain.right (f k) && Plain.knownC f i k) by simp [Plain.ordC, hi, hk, show i < k by omega]]
  have hA0 := hA
  obtain ⟨b, off, rfl, hb, ha⟩ := hA (by omega)
  obtain ⟨a0, a1, a2⟩ := ha i hi
  obtain ⟨c0, c1, c2⟩ := ha k hk
  clear ha hA
  have hr1 := Right (f i)
  have hr2 := Right (f k)
  unfold act at *
  cases e1 : Plain.right (f i)
  · rw [e1] at hr1
    simp only [Bool.false_and]
    go_enter Try.func15, Try.ntmps15
    go_wp2_with fail
    refine (hr1 _).mono ?_
    rintro e w1 ⟨rfl, hb1⟩
    obtain ⟨hc1, hf1⟩ := bcell hb1
    go_wp2
    go_ret
    exact ⟨rfl, hb1⟩
  · rw [e1] at hr1
    cases e2 : Plain.right (f k)
    · rw [e2] at hr2
      simp only [Bool.false_and, Bool.and_false]
      go_enter Try.func15, Try.ntmps15
      go_wp2_with fail
      refine (hr1 _).mono ?_
      rintro e w1 ⟨rfl, hb1⟩
      obtain ⟨hc1, hf1⟩ := bcell hb1
      go_wp2_with fail
      refine (hr2 _).mono ?_
      rintro e w2 ⟨rfl, hb2⟩
      obtain ⟨hc2, hf2⟩ := bcell hb2
      go_wp2
      go_ret
      exact ⟨rfl, hb1.trans (hb2.mono hb1.size)⟩
    · rw [e2] at hr2
      simp only [Bool.true_and]
      go_enter Try.func15, Try.ntmps15
      go_wp2_with fail
      refine (hr1 _).mono ?_
      rintro e w1 ⟨rfl, hb1⟩
      obtain ⟨hc1, hf1⟩ := bcell hb1
      go_wp2_with fail
      refine (hr2 _).mono ?_
      rintro e w2 ⟨rfl, hb2⟩
      go_wp2_with fail
      have hA2 := (hA0.below hb1).below hb2
      refine (clocks _ n cn f hn _ hA2).mono ?_
      rintro e w3 ⟨V, cv, rfl, hV, hb3⟩
      go_wp2_with fail
      have hA3 := hA2.below hb3
      refine (known_c _ V n cn cv f i k hi hk hn e1 _ hA3 hV).mono ?_
      rintro e w4 ⟨rfl, hb4⟩
      go_wp2
      go_ret
      exact ⟨rfl, ((hb1.trans (hb2.mono hb1.size)).trans (hb3.mono (Nat.le_trans hb1.size hb2.size))).trans (hb4.mono (Nat.le_trans (Nat.le_trans hb1.size hb2.size) hb3.size))⟩
end Go.Proofs.Ytnchafbaipeagaa
