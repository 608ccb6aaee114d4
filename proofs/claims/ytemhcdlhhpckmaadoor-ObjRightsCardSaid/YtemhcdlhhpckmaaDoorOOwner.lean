/- Who tells the owner; which kinds are locks. -/
import Derived.Test.YtemhcdlhhpckmaaDoorOAwake
namespace Go.Proofs.YtemhcdlhhpckmaaDoor
open Go.RowKit
set_option linter.unusedVariables false
set_option linter.unusedSimpArgs false
def ownV (k : Int) : Int := if k = 1 ∨ k = 2 then 0 else if k = 4 ∨ k = 5 ∨ k = 9 ∨ k = 10 ∨ k = 15 then 1 else if k = 3 ∨ k = 7 then 2 else if k = 6 ∨ k = 8 then 3 else -1
set_option maxRecDepth 100000 in
theorem objOwner (x : O) (w : World) : Calls Tryd.prog 12 #[ov x] w fun e w' => e = .returned (.int .i64 (ownV x.k)) ∧ Below w.heap.size w w' := by
  obtain ⟨k, n, a, b⟩ := x
  obtain ⟨V, hV⟩ : ∃ V, Hid (ownV k = V) := ⟨_, rfl⟩
  show Calls _ _ _ _ fun e w' => e = .returned (.int .i64 (ownV k)) ∧ _
  rw [hV.out]
  unfold ov
  by_cases e1 : k = 1
  · subst e1
    obtain rfl : V = 0 := hV.out.symm
    go_enter Tryd.func12, Tryd.ntmps12
    go_wp2
    go_ret
    exact ⟨rfl, (Below.refl _ _).alloc (Nat.le_refl _) _⟩
  by_cases e2 : k = 2
  · subst e2
    obtain rfl : V = 0 := hV.out.symm
    go_enter Tryd.func12, Tryd.ntmps12
    go_wp2
    go_ret
    exact ⟨rfl, (Below.refl _ _).alloc (Nat.le_refl _) _⟩
  by_cases e3 : k = 3
  · subst e3
    obtain rfl : V = 2 := hV.out.symm
    go_enter Tryd.func12, Tryd.ntmps12
    go_wp2
    go_ret
    exact ⟨rfl, (Below.refl _ _).alloc (Nat.le_refl _) _⟩
  by_cases e4 : k = 4
  · subst e4
    obtain rfl : V = 1 := hV.out.symm
    go_enter Tryd.func12, Tryd.ntmps12
    go_wp2
    go_ret
    exact ⟨rfl, (Below.refl _ _).alloc (Nat.le_refl _) _⟩
  by_cases e5 : k = 5
  · subst e5
    obtain rfl : V = 1 := hV.out.symm
    go_enter Tryd.func12, Tryd.ntmps12
    go_wp2
    go_ret
    exact ⟨rfl, (Below.refl _ _).alloc (Nat.le_refl _) _⟩
  by_cases e6 : k = 6
  · subst e6
    obtain rfl : V = 3 := hV.out.symm
    go_enter Tryd.func12, Tryd.ntmps12
    go_wp2
    go_ret
    exact ⟨rfl, (Below.refl _ _).alloc (Nat.le_refl _) _⟩
  by_cases e7 : k = 7
  · subst e7
    obtain rfl : V = 2 := hV.out.symm
    go_enter Tryd.func12, Tryd.ntmps12
    go_wp2
    go_ret
    exact ⟨rfl, (Below.refl _ _).alloc (Nat.le_refl _) _⟩
  by_cases e8 : k = 8
  · subst e8
    obtain rfl : V = 3 := hV.out.symm
    go_enter Tryd.func12, Tryd.ntmps12
    go_wp2
    go_ret
    exact ⟨rfl, (Below.refl _ _).alloc (Nat.le_refl _) _⟩
  by_cases e9 : k = 9
  · subst e9
    obtain rfl : V = 1 := hV.out.symm
    go_enter Tryd.func12, Tryd.ntmps12
    go_wp2
    go_ret
    exact ⟨rfl, (Below.refl _ _).alloc (Nat.le_refl _) _⟩
  by_cases e10 : k = 10
  · subst e10
    obtain rfl : V = 1 := hV.out.symm
    go_enter Tryd.func12, Tryd.ntmps12
    go_wp2
    go_ret
    exact ⟨rfl, (Below.refl _ _).alloc (Nat.le_refl _) _⟩
  by_cases e15 : k = 15
  · subst e15
    obtain rfl : V = 1 := hV.out.symm
    go_enter Tryd.func12, Tryd.ntmps12
    go_wp2
    go_ret
    exact ⟨rfl, (Below.refl _ _).alloc (Nat.le_refl _) _⟩
  obtain rfl : V = -1 := hV.out.symm.trans (by unfold ownV; repeat rw [if_neg (by omega)])
  have q1 : (k == 1) = false := by simp [e1]
  have q2 : (k == 2) = false := by simp [e2]
  have q3 : (k == 3) = false := by simp [e3]
  have q4 : (k == 4) = false := by simp [e4]
  have q5 : (k == 5) = false := by simp [e5]
  have q6 : (k == 6) = false := by simp [e6]
  have q7 : (k == 7) = false := by simp [e7]
  have q8 : (k == 8) = false := by simp [e8]
  have q9 : (k == 9) = false := by simp [e9]
  have q10 : (k == 10) = false := by simp [e10]
  have q15 : (k == 15) = false := by simp [e15]
  go_enter Tryd.func12, Tryd.ntmps12
  go_wp2
  go_ret
  exact ⟨rfl, (Below.refl _ _).alloc (Nat.le_refl _) _⟩
theorem lockOf (k : Int) (w : World) : Calls Tryd.prog 14 #[.int .i64 k] w fun e w' => e = .returned (.bool (decide (1 ≤ k) && decide (k ≤ 10))) ∧ Below w.heap.size w w' := by
  by_cases h1 : 1 ≤ k
  · by_cases h2 : k ≤ 10
    · rw [decide_eq_true h1, decide_eq_true h2]
      go_enter Tryd.func14, Tryd.ntmps14
      go_wp2
      go_ret
      exact ⟨rfl, Below.refl _ _⟩
    · rw [decide_eq_true h1, decide_eq_false h2]
      go_enter Tryd.func14, Tryd.ntmps14
      go_wp2
      go_ret
      exact ⟨rfl, Below.refl _ _⟩
  · rw [decide_eq_false h1]
    go_enter Tryd.func14, Tryd.ntmps14
    go_wp2
    go_ret
    exact ⟨rfl, Below.refl _ _⟩
set_option maxRecDepth 100000 in
set_option maxHeartbeats 4000000 in
theorem refOwner (k : Int) (w : World) : Calls Tryd.prog 13 #[.int .i64 k] w fun e w' => e = .returned (.int .i64 (ownV k)) ∧ Below w.heap.size w w' := by
  obtain ⟨V, hV⟩ : ∃ V, Hid (ownV k = V) := ⟨_, rfl⟩
  rw [hV.out]
  by_cases hk : k < 1
  · obtain rfl : V = -1 := hV.out.symm.trans (by unfold ownV; repeat rw [if_neg (by omega)])
    go_enter Tryd.func13, Tryd.ntmps13
    go_wp2
    go_ret
    exact ⟨rfl, Below.refl _ _⟩
  by_cases h1 : 15 < k
  · obtain rfl : V = -1 := hV.out.symm.trans (by unfold ownV; repeat rw [if_neg (by omega)])
    go_enter Tryd.func13, Tryd.ntmps13
    go_wp2
    go_ret
    exact ⟨rfl, Below.refl _ _⟩
  by_cases e9 : k = 9
  · subst e9
    obtain rfl : V = 1 := hV.out.symm
    go_enter Tryd.func13, Tryd.ntmps13
    go_wp2
    go_ret
    exact ⟨rfl, Below.refl _ _⟩
  by_cases e10 : k = 10
  · subst e10
    obtain rfl : V = 1 := hV.out.symm
    go_enter Tryd.func13, Tryd.ntmps13
    go_wp2
    go_ret
    exact ⟨rfl, Below.refl _ _⟩
  by_cases e15 : k = 15
  · subst e15
    obtain rfl : V = 1 := hV.out.symm
    go_enter Tryd.func13, Tryd.ntmps13
    go_wp2
    go_ret
    exact ⟨rfl, Below.refl _ _⟩
  by_cases e1 : k = 1
  · subst e1
    obtain rfl : V = 0 := hV.out.symm
    have hw : wsB 1 = ⟨#[111]⟩ := rfl
    have hr := refWords 1 (by omega)
    rw [hw] at hr
    clear hw
    go_enter Tryd.func13, Tryd.ntmps13
    go_wp2_with fail
    refine (hr w).mono ?_
    rintro e w1 ⟨rfl, hb1⟩
    clear hr
    go_wp2_with (fail)
    refine wp_loop_rounds 2 ?_
    iterate 1
      rw [rounds_succ]
      go_wp2_with (fail)
    go_ret
    exact ⟨rfl, hb1⟩
  by_cases e2 : k = 2
  · subst e2
    obtain rfl : V = 0 := hV.out.symm
    have hw : wsB 2 = ⟨#[111]⟩ := rfl
    have hr := refWords 2 (by omega)
    rw [hw] at hr
    clear hw
    go_enter Tryd.func13, Tryd.ntmps13
    go_wp2_with fail
    refine (hr w).mono ?_
    rintro e w1 ⟨rfl, hb1⟩
    clear hr
    go_wp2_with (fail)
    refine wp_loop_rounds 2 ?_
    iterate 1
      rw [rounds_succ]
      go_wp2_with (fail)
    go_ret
    exact ⟨rfl, hb1⟩
  by_cases e3 : k = 3
  · subst e3
    obtain rfl : V = 2 := hV.out.symm
    have hw : wsB 3 = ⟨#[110, 115, 111]⟩ := rfl
    have hr := refWords 3 (by omega)
    rw [hw] at hr
    clear hw
    go_enter Tryd.func13, Tryd.ntmps13
    go_wp2_with fail
    refine (hr w).mono ?_
    rintro e w1 ⟨rfl, hb1⟩
    clear hr
    go_wp2_with (fail)
    refine wp_loop_rounds 4 ?_
    iterate 3
      rw [rounds_succ]
      go_wp2_with (fail)
    go_ret
    exact ⟨rfl, hb1⟩
  by_cases e4 : k = 4
  · subst e4
    obtain rfl : V = 1 := hV.out.symm
    have hw : wsB 4 = ⟨#[116, 111, 78, 87]⟩ := rfl
    have hr := refWords 4 (by omega)
    rw [hw] at hr
    clear hw
    go_enter Tryd.func13, Tryd.ntmps13
    go_wp2_with fail
    refine (hr w).mono ?_
    rintro e w1 ⟨rfl, hb1⟩
    clear hr
    go_wp2_with (fail)
    refine wp_loop_rounds 5 ?_
    iterate 2
      rw [rounds_succ]
      go_wp2_with (fail)
    go_ret
    exact ⟨rfl, hb1⟩
  by_cases e5 : k = 5
  · subst e5
    obtain rfl : V = 1 := hV.out.symm
    have hw : wsB 5 = ⟨#[116, 111, 70, 102, 77, 80]⟩ := rfl
    have hr := refWords 5 (by omega)
    rw [hw] at hr
    clear hw
    go_enter Tryd.func13, Tryd.ntmps13
    go_wp2_with fail
    refine (hr w).mono ?_
    rintro e w1 ⟨rfl, hb1⟩
    clear hr
    go_wp2_with (fail)
    refine wp_loop_rounds 7 ?_
    iterate 2
      rw [rounds_succ]
      go_wp2_with (fail)
    go_ret
    exact ⟨rfl, hb1⟩
  by_cases e6 : k = 6
  · subst e6
    obtain rfl : V = 3 := hV.out.symm
    have hw : wsB 6 = ⟨#[97, 98, 117, 111]⟩ := rfl
    have hr := refWords 6 (by omega)
    rw [hw] at hr
    clear hw
    go_enter Tryd.func13, Tryd.ntmps13
    go_wp2_with fail
    refine (hr w).mono ?_
    rintro e w1 ⟨rfl, hb1⟩
    clear hr
    go_wp2_with (fail)
    refine wp_loop_rounds 5 ?_
    iterate 4
      rw [rounds_succ]
      go_wp2_with (fail)
    go_ret
    exact ⟨rfl, hb1⟩
  by_cases e7 : k = 7
  · subst e7
    obtain rfl : V = 2 := hV.out.symm
    have hw : wsB 7 = ⟨#[102, 115, 111]⟩ := rfl
    have hr := refWords 7 (by omega)
    rw [hw] at hr
    clear hw
    go_enter Tryd.func13, Tryd.ntmps13
    go_wp2_with fail
    refine (hr w).mono ?_
    rintro e w1 ⟨rfl, hb1⟩
    clear hr
    go_wp2_with (fail)
    refine wp_loop_rounds 4 ?_
    iterate 3
      rw [rounds_succ]
      go_wp2_with (fail)
    go_ret
    exact ⟨rfl, hb1⟩
  by_cases e8 : k = 8
  · subst e8
    obtain rfl : V = 3 := hV.out.symm
    have hw : wsB 8 = ⟨#[98, 114, 108, 111]⟩ := rfl
    have hr := refWords 8 (by omega)
    rw [hw] at hr
    clear hw
    go_enter Tryd.func13, Tryd.ntmps13
    go_wp2_with fail
    refine (hr w).mono ?_
    rintro e w1 ⟨rfl, hb1⟩
    clear hr
    go_wp2_with (fail)
    refine wp_loop_rounds 5 ?_
    iterate 4
      rw [rounds_succ]
      go_wp2_with (fail)
    go_ret
    exact ⟨rfl, hb1⟩
  by_cases e11 : k = 11
  · subst e11
    obtain rfl : V = -1 := hV.out.symm
    have hw : wsB 11 = ⟨#[99]⟩ := rfl
    have hr := refWords 11 (by omega)
    rw [hw] at hr
    clear hw
    go_enter Tryd.func13, Tryd.ntmps13
    go_wp2_with fail
    refine (hr w).mono ?_
    rintro e w1 ⟨rfl, hb1⟩
    clear hr
    go_wp2_with (fail)
    refine wp_loop_rounds 2 ?_
    iterate 2
      rw [rounds_succ]
      go_wp2_with (fail)
    go_ret
    exact ⟨rfl, hb1⟩
  by_cases e12 : k = 12
  · subst e12
    obtain rfl : V = -1 := hV.out.symm
    have hw : wsB 12 = ⟨#[115, 78]⟩ := rfl
    have hr := refWords 12 (by omega)
    rw [hw] at hr
    clear hw
    go_enter Tryd.func13, Tryd.ntmps13
    go_wp2_with fail
    refine (hr w).mono ?_
    rintro e w1 ⟨rfl, hb1⟩
    clear hr
    go_wp2_with (fail)
    refine wp_loop_rounds 3 ?_
    iterate 3
      rw [rounds_succ]
      go_wp2_with (fail)
    go_ret
    exact ⟨rfl, hb1⟩
  by_cases e13 : k = 13
  · subst e13
    obtain rfl : V = -1 := hV.out.symm
    have hw : wsB 13 = ⟨#[99, 112]⟩ := rfl
    have hr := refWords 13 (by omega)
    rw [hw] at hr
    clear hw
    go_enter Tryd.func13, Tryd.ntmps13
    go_wp2_with fail
    refine (hr w).mono ?_
    rintro e w1 ⟨rfl, hb1⟩
    clear hr
    go_wp2_with (fail)
    refine wp_loop_rounds 3 ?_
    iterate 3
      rw [rounds_succ]
      go_wp2_with (fail)
    go_ret
    exact ⟨rfl, hb1⟩
  by_cases e14 : k = 14
  · subst e14
    obtain rfl : V = -1 := hV.out.symm
    have hw : wsB 14 = ⟨#[115, 77]⟩ := rfl
    have hr := refWords 14 (by omega)
    rw [hw] at hr
    clear hw
    go_enter Tryd.func13, Tryd.ntmps13
    go_wp2_with fail
    refine (hr w).mono ?_
    rintro e w1 ⟨rfl, hb1⟩
    clear hr
    go_wp2_with (fail)
    refine wp_loop_rounds 3 ?_
    iterate 3
      rw [rounds_succ]
      go_wp2_with (fail)
    go_ret
    exact ⟨rfl, hb1⟩
  omega
end Go.Proofs.YtemhcdlhhpckmaaDoor
