/- The reference's May. -/
import Derived.Test.YtobkonbpcnmgpaaDoorRMany
namespace Go.Proofs.YtobkonbpcnmgpaaDoor
open Go.RowKit
set_option linter.unusedVariables false
set_option linter.unusedSimpArgs false
theorem may_nat (k : Int) (j : Nat) : may k j = mayN (kdN k) j := by
  unfold may mayN
  rw [Bool.eq_iff_iff, List.any_eq_true, List.contains_iff_mem]
  constructor
  · rintro ⟨x, hx, e⟩
    have e' : (x : Int) = j := by simpa using e
    obtain rfl : x = j := by omega
    exact hx
  · intro h
    exact ⟨j, h, by simp⟩
theorem may_out (k c : Int) (h : c < 1 ∨ 10 < c) : may k c = false := by
  cases e : may k c with
  | false => rfl
  | true => have := may_tab e; omega
set_option maxHeartbeats 4000000 in
theorem refMayG (k c : Int) (w : World) : Calls Tryd.prog 40 #[.int .i64 k, .int .i64 c] w fun e w' => e = .returned (.bool (may k c)) ∧ Below w.heap.size w w' := by
  by_cases h : 1 ≤ c ∧ c ≤ 10
  · obtain ⟨j, rfl⟩ : ∃ j : Nat, c = j := ⟨c.toNat, by omega⟩
    rw [may_nat]
    exact refMay k j (by omega) w
  by_cases hc : c < 1
  · rw [may_out k c (.inl hc)]
    clear h
    have q1 : (c == 1) = false := by simp; omega
    have q2 : (c == 2) = false := by simp; omega
    have q9 : (c == 9) = false := by simp; omega
    have q10 : (c == 10) = false := by simp; omega
    by_cases e9 : k = 9
    · subst e9
      go_enter Tryd.func40, Tryd.ntmps40
      go_wp2
      go_ret
      exact ⟨rfl, Below.refl _ _⟩
    by_cases e12 : k = 12
    · subst e12
      go_enter Tryd.func40, Tryd.ntmps40
      go_wp2
      go_ret
      exact ⟨rfl, Below.refl _ _⟩
    by_cases e13 : k = 13
    · subst e13
      go_enter Tryd.func40, Tryd.ntmps40
      go_wp2
      go_ret
      exact ⟨rfl, Below.refl _ _⟩
    by_cases e14 : k = 14
    · subst e14
      go_enter Tryd.func40, Tryd.ntmps40
      go_wp2
      go_ret
      exact ⟨rfl, Below.refl _ _⟩
    by_cases e15 : k = 15
    · subst e15
      go_enter Tryd.func40, Tryd.ntmps40
      go_wp2
      go_ret
      exact ⟨rfl, Below.refl _ _⟩
    have p9 : (k == 9) = false := by simp [e9]
    have p12 : (k == 12) = false := by simp [e12]
    have p13 : (k == 13) = false := by simp [e13]
    have p14 : (k == 14) = false := by simp [e14]
    have p15 : (k == 15) = false := by simp [e15]
    clear e9 e12 e13 e14 e15
    by_cases k1 : k < 1
    · go_enter Tryd.func40, Tryd.ntmps40
      go_wp2
      go_ret
      exact ⟨rfl, Below.refl _ _⟩
    · by_cases k2 : 11 < k
      · go_enter Tryd.func40, Tryd.ntmps40
        go_wp2
        go_ret
        exact ⟨rfl, Below.refl _ _⟩
      · go_enter Tryd.func40, Tryd.ntmps40
        go_wp2
        go_ret
        exact ⟨rfl, Below.refl _ _⟩
  have hd : 10 < c := by omega
  rw [may_out k c (.inr hd)]
  clear h hc
  have q1 : (c == 1) = false := by simp; omega
  have q2 : (c == 2) = false := by simp; omega
  have q9 : (c == 9) = false := by simp; omega
  have q10 : (c == 10) = false := by simp; omega
  have r3 : decide (c ≤ 3) = false := by simp; omega
  have r4 : decide (c ≤ 4) = false := by simp; omega
  have r8 : decide (c ≤ 8) = false := by simp; omega
  by_cases e9 : k = 9
  · subst e9
    go_enter Tryd.func40, Tryd.ntmps40
    go_wp2
    go_ret
    exact ⟨rfl, Below.refl _ _⟩
  by_cases e12 : k = 12
  · subst e12
    go_enter Tryd.func40, Tryd.ntmps40
    go_wp2
    go_ret
    exact ⟨rfl, Below.refl _ _⟩
  by_cases e13 : k = 13
  · subst e13
    go_enter Tryd.func40, Tryd.ntmps40
    go_wp2
    go_ret
    exact ⟨rfl, Below.refl _ _⟩
  by_cases e14 : k = 14
  · subst e14
    go_enter Tryd.func40, Tryd.ntmps40
    go_wp2
    go_ret
    exact ⟨rfl, Below.refl _ _⟩
  by_cases e15 : k = 15
  · subst e15
    go_enter Tryd.func40, Tryd.ntmps40
    go_wp2
    go_ret
    exact ⟨rfl, Below.refl _ _⟩
  have p9 : (k == 9) = false := by simp [e9]
  have p12 : (k == 12) = false := by simp [e12]
  have p13 : (k == 13) = false := by simp [e13]
  have p14 : (k == 14) = false := by simp [e14]
  have p15 : (k == 15) = false := by simp [e15]
  clear e9 e12 e13 e14 e15
  by_cases k1 : k < 1
  · go_enter Tryd.func40, Tryd.ntmps40
    go_wp2
    go_ret
    exact ⟨rfl, Below.refl _ _⟩
  · by_cases k2 : 11 < k
    · go_enter Tryd.func40, Tryd.ntmps40
      go_wp2
      go_ret
      exact ⟨rfl, Below.refl _ _⟩
    · go_enter Tryd.func40, Tryd.ntmps40
      go_wp2
      go_ret
      exact ⟨rfl, Below.refl _ _⟩
set_option maxHeartbeats 4000000 in
theorem rmayC (o : O) (call threads who : Int) (w : World) : Calls Tryd.prog 28 #[ov o, .int .i64 call, .int .i64 threads, .int .i64 who] w fun e w' => e = .returned (.bool (mayS o call threads who)) ∧ Below w.heap.size w w' := by
  obtain ⟨B, hB⟩ : ∃ B, Hid (mayS o call threads who = B) := ⟨_, rfl⟩
  rw [hB.out]
  have hR := fun w' => refRight o threads w'
  obtain ⟨ok, on, oa, ob⟩ := o
  have hB : Hid (B = if 0 ≤ who ∧ who < threads ∧ rb ⟨ok, on, oa, ob⟩ threads = true then may ok call else false) := by
    show B = _
    rw [← hB.out]; rfl
  generalize rb ⟨ok, on, oa, ob⟩ threads = rbv at *
  unfold ov at *
  go_enter Tryd.func28, Tryd.ntmps28
  go_upto_region 1 with (fail)
  obtain ⟨W, b1, e0, e1, X1, hal⟩ := box1 w #[.int .i64 ok, .int .i64 on, .int .i64 oa, .int .i64 ob] 48
  rw [e0, e1]
  clear e0 e1
  have y0 := cell_of_row W b1 0 _ 48 _ X1
  have y1 := cell_of_row W b1 1 _ 48 _ X1
  have y2 := cell_of_row W b1 2 _ 48 _ X1
  have y3 := cell_of_row W b1 3 _ 48 _ X1
  go_wp2_with fail
  refine (hR W).mono ?_
  rintro e w1 ⟨rfl, hb1⟩
  clear y0 y1 y2 y3 hR
  replace X1 := keep X1 hb1
  replace hal := hal.trans (hb1.mono hal.size)
  have y0 := cell_of_row w1 b1 0 _ 48 _ X1
  cases rbv
  · obtain rfl : B = false := hB.out.trans (if_neg (fun h => by cases h.2.2))
    clear hB
    go_wp2
    go_ret
    exact ⟨rfl, hal⟩
  by_cases h0 : who < 0
  · obtain rfl : B = false := hB.out.trans (if_neg (by omega))
    clear hB
    go_wp2
    go_ret
    exact ⟨rfl, hal⟩
  by_cases h1 : threads ≤ who
  · obtain rfl : B = false := hB.out.trans (if_neg (by omega))
    clear hB
    go_wp2
    go_ret
    exact ⟨rfl, hal⟩
  obtain rfl : B = may ok call := hB.out.trans (if_pos ⟨by omega, by omega, rfl⟩)
  clear hB
  go_wp2_with fail
  refine (refMayG ok call w1).mono ?_
  rintro e w6 ⟨rfl, hb6⟩
  have hal6 := hal.trans (hb6.mono hal.size)
  go_wp2
  go_ret
  exact ⟨rfl, hal6⟩
end Go.Proofs.YtobkonbpcnmgpaaDoor
