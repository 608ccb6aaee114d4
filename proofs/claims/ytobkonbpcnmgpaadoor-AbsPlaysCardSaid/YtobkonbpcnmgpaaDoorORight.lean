/- obj.Right: whatever the object. -/
import Derived.Test.YtobkonbpcnmgpaaDoorSmall
namespace Go.Proofs.YtobkonbpcnmgpaaDoor
open Go.RowKit
set_option linter.unusedVariables false
set_option linter.unusedSimpArgs false
/-! ### which objects may be -/
structure O where
  k : Int
  n : Int
  a : Int
  b : Int
def ov (x : O) : Value := .agg #[.int .i64 x.k, .int .i64 x.n, .int .i64 x.a, .int .i64 x.b]
def RP (x : O) (t : Int) : Prop := 1 ≤ t ∧ t ≤ 8 ∧ (
  ((x.k = 6 ∨ x.k = 7) ∧ x.n = 0 ∧ 0 ≤ x.a ∧ x.a ≤ t - 1 ∧ 0 ≤ x.b ∧ x.b ≤ t - 1 ∧ x.a ≠ x.b) ∨
  (x.k = 8 ∧ x.n = 0 ∧ 0 ≤ x.a ∧ x.a ≤ t - 1 ∧ x.b = 0) ∨
  (x.k = 9 ∧ 1 ≤ x.n ∧ x.n ≤ 3 ∧ x.a = 0 ∧ x.b = 0) ∨
  (x.k = 11 ∧ 1 ≤ x.a ∧ x.a ≤ 1000 ∧ 0 ≤ x.n ∧ x.n ≤ x.a ∧ x.b = 0) ∨
  (x.k = 13 ∧ 1 ≤ x.n ∧ x.n ≤ t ∧ x.a = 0 ∧ x.b = 0) ∨
  ((1 ≤ x.k ∧ x.k ≤ 5 ∨ x.k = 10 ∨ x.k = 12 ∨ x.k = 14 ∨ x.k = 15) ∧ x.n = 0 ∧ x.a = 0 ∧ x.b = 0))
instance (x : O) (t : Int) : Decidable (RP x t) := by unfold RP; infer_instance
def rb (x : O) (t : Int) : Bool := decide (RP x t)
theorem rb_t {x : O} {t : Int} (h : RP x t) : rb x t = true := decide_eq_true h
theorem rb_f {x : O} {t : Int} (h : ¬ RP x t) : rb x t = false := decide_eq_false h
theorem nm_ne {k : Int} (h : 1 ≤ k ∧ k ≤ 15) : (nmOf k).toList.isEmpty = false := by
  unfold nmOf; rw [if_pos h]
  obtain ⟨j, rfl⟩ : ∃ j : Nat, k = j := ⟨k.toNat, by omega⟩
  have : j = 1 ∨ j = 2 ∨ j = 3 ∨ j = 4 ∨ j = 5 ∨ j = 6 ∨ j = 7 ∨ j = 8 ∨ j = 9 ∨ j = 10 ∨ j = 11 ∨ j = 12 ∨ j = 13 ∨ j = 14 ∨ j = 15 := by omega
  rcases this with rfl | rfl | rfl | rfl | rfl | rfl | rfl | rfl | rfl | rfl | rfl | rfl | rfl | rfl | rfl <;> decide +kernel
theorem nm_eq {k : Int} (h : ¬ (1 ≤ k ∧ k ≤ 15)) : (nmOf k).toList.isEmpty = true := by
  unfold nmOf; rw [if_neg h]; decide +kernel
set_option maxRecDepth 100000 in
set_option maxHeartbeats 2000000 in
theorem right_kind6 (n a b t : Int) (ht1 : 1 ≤ t) (ht8 : t ≤ 8) (w : World) (h : NmW w) : Calls Tryd.prog 16 #[ov ⟨6, n, a, b⟩, .int .i64 t] w fun e w' => e = .returned (.bool (rb ⟨6, n, a, b⟩ t)) ∧ Below w.heap.size w w' := by
  have hst : IntKind.i64.wrap (t - 1) = t - 1 := by rw [IntKind.wrap_i64]; omega
  unfold ov
  by_cases c0 : n = 0
  · have q0 : (n == 0) = true := by simp [c0]
    by_cases c1 : 0 ≤ a ∧ a ≤ t - 1
    · by_cases c2 : 0 ≤ b ∧ b ≤ t - 1
      · by_cases c3 : a ≠ b
        · have q3 : (a != b) = true := by simp [c3]
          rw [rb_t (show RP ⟨6, n, a, b⟩ t from ⟨ht1, ht8, .inl ⟨.inl rfl, c0, c1.1, c1.2, c2.1, c2.2, c3⟩⟩)]
          go_enter Tryd.func16, Tryd.ntmps16
          go_wp2_with fail
          refine (inC _ _ _ _).mono ?_
          rintro e w1 ⟨rfl, rfl⟩
          rw [decide_eq_true c1]
          go_wp2_with fail
          refine (inC _ _ _ _).mono ?_
          rintro e w1 ⟨rfl, rfl⟩
          rw [decide_eq_true c2]
          go_wp2
          go_ret
          exact ⟨rfl, (Below.refl _ _).alloc (Nat.le_refl _) _⟩
        · have q3 : (a != b) = false := by simp at c3; simp [c3]
          rw [rb_f (show ¬ RP ⟨6, n, a, b⟩ t by simp only [RP]; omega)]
          go_enter Tryd.func16, Tryd.ntmps16
          go_wp2_with fail
          refine (inC _ _ _ _).mono ?_
          rintro e w1 ⟨rfl, rfl⟩
          rw [decide_eq_true c1]
          go_wp2_with fail
          refine (inC _ _ _ _).mono ?_
          rintro e w1 ⟨rfl, rfl⟩
          rw [decide_eq_true c2]
          go_wp2
          go_ret
          exact ⟨rfl, (Below.refl _ _).alloc (Nat.le_refl _) _⟩
      · rw [rb_f (show ¬ RP ⟨6, n, a, b⟩ t by simp only [RP]; omega)]
        go_enter Tryd.func16, Tryd.ntmps16
        go_wp2_with fail
        refine (inC _ _ _ _).mono ?_
        rintro e w1 ⟨rfl, rfl⟩
        rw [decide_eq_true c1]
        go_wp2_with fail
        refine (inC _ _ _ _).mono ?_
        rintro e w1 ⟨rfl, rfl⟩
        rw [decide_eq_false c2]
        go_wp2
        go_ret
        exact ⟨rfl, (Below.refl _ _).alloc (Nat.le_refl _) _⟩
    · rw [rb_f (show ¬ RP ⟨6, n, a, b⟩ t by simp only [RP]; omega)]
      go_enter Tryd.func16, Tryd.ntmps16
      go_wp2_with fail
      refine (inC _ _ _ _).mono ?_
      rintro e w1 ⟨rfl, rfl⟩
      rw [decide_eq_false c1]
      go_wp2
      go_ret
      exact ⟨rfl, (Below.refl _ _).alloc (Nat.le_refl _) _⟩
  · have q0 : (n == 0) = false := by simp [c0]
    rw [rb_f (show ¬ RP ⟨6, n, a, b⟩ t by simp only [RP]; omega)]
    go_enter Tryd.func16, Tryd.ntmps16
    go_wp2
    go_ret
    exact ⟨rfl, (Below.refl _ _).alloc (Nat.le_refl _) _⟩
set_option maxRecDepth 100000 in
set_option maxHeartbeats 2000000 in
theorem right_kind7 (n a b t : Int) (ht1 : 1 ≤ t) (ht8 : t ≤ 8) (w : World) (h : NmW w) : Calls Tryd.prog 16 #[ov ⟨7, n, a, b⟩, .int .i64 t] w fun e w' => e = .returned (.bool (rb ⟨7, n, a, b⟩ t)) ∧ Below w.heap.size w w' := by
  have hst : IntKind.i64.wrap (t - 1) = t - 1 := by rw [IntKind.wrap_i64]; omega
  unfold ov
  by_cases c0 : n = 0
  · have q0 : (n == 0) = true := by simp [c0]
    by_cases c1 : 0 ≤ a ∧ a ≤ t - 1
    · by_cases c2 : 0 ≤ b ∧ b ≤ t - 1
      · by_cases c3 : a ≠ b
        · have q3 : (a != b) = true := by simp [c3]
          rw [rb_t (show RP ⟨7, n, a, b⟩ t from ⟨ht1, ht8, .inl ⟨.inr rfl, c0, c1.1, c1.2, c2.1, c2.2, c3⟩⟩)]
          go_enter Tryd.func16, Tryd.ntmps16
          go_wp2_with fail
          refine (inC _ _ _ _).mono ?_
          rintro e w1 ⟨rfl, rfl⟩
          rw [decide_eq_true c1]
          go_wp2_with fail
          refine (inC _ _ _ _).mono ?_
          rintro e w1 ⟨rfl, rfl⟩
          rw [decide_eq_true c2]
          go_wp2
          go_ret
          exact ⟨rfl, (Below.refl _ _).alloc (Nat.le_refl _) _⟩
        · have q3 : (a != b) = false := by simp at c3; simp [c3]
          rw [rb_f (show ¬ RP ⟨7, n, a, b⟩ t by simp only [RP]; omega)]
          go_enter Tryd.func16, Tryd.ntmps16
          go_wp2_with fail
          refine (inC _ _ _ _).mono ?_
          rintro e w1 ⟨rfl, rfl⟩
          rw [decide_eq_true c1]
          go_wp2_with fail
          refine (inC _ _ _ _).mono ?_
          rintro e w1 ⟨rfl, rfl⟩
          rw [decide_eq_true c2]
          go_wp2
          go_ret
          exact ⟨rfl, (Below.refl _ _).alloc (Nat.le_refl _) _⟩
      · rw [rb_f (show ¬ RP ⟨7, n, a, b⟩ t by simp only [RP]; omega)]
        go_enter Tryd.func16, Tryd.ntmps16
        go_wp2_with fail
        refine (inC _ _ _ _).mono ?_
        rintro e w1 ⟨rfl, rfl⟩
        rw [decide_eq_true c1]
        go_wp2_with fail
        refine (inC _ _ _ _).mono ?_
        rintro e w1 ⟨rfl, rfl⟩
        rw [decide_eq_false c2]
        go_wp2
        go_ret
        exact ⟨rfl, (Below.refl _ _).alloc (Nat.le_refl _) _⟩
    · rw [rb_f (show ¬ RP ⟨7, n, a, b⟩ t by simp only [RP]; omega)]
      go_enter Tryd.func16, Tryd.ntmps16
      go_wp2_with fail
      refine (inC _ _ _ _).mono ?_
      rintro e w1 ⟨rfl, rfl⟩
      rw [decide_eq_false c1]
      go_wp2
      go_ret
      exact ⟨rfl, (Below.refl _ _).alloc (Nat.le_refl _) _⟩
  · have q0 : (n == 0) = false := by simp [c0]
    rw [rb_f (show ¬ RP ⟨7, n, a, b⟩ t by simp only [RP]; omega)]
    go_enter Tryd.func16, Tryd.ntmps16
    go_wp2
    go_ret
    exact ⟨rfl, (Below.refl _ _).alloc (Nat.le_refl _) _⟩
set_option maxRecDepth 100000 in
set_option maxHeartbeats 2000000 in
theorem right_kind8 (n a b t : Int) (ht1 : 1 ≤ t) (ht8 : t ≤ 8) (w : World) (h : NmW w) : Calls Tryd.prog 16 #[ov ⟨8, n, a, b⟩, .int .i64 t] w fun e w' => e = .returned (.bool (rb ⟨8, n, a, b⟩ t)) ∧ Below w.heap.size w w' := by
  have hst : IntKind.i64.wrap (t - 1) = t - 1 := by rw [IntKind.wrap_i64]; omega
  unfold ov
  by_cases c0 : n = 0
  · have q0 : (n == 0) = true := by simp [c0]
    by_cases c1 : 0 ≤ a ∧ a ≤ t - 1
    · by_cases c2 : b = 0
      · have q2 : (b == 0) = true := by simp [c2]
        rw [rb_t (show RP ⟨8, n, a, b⟩ t from ⟨ht1, ht8, .inr (.inl ⟨rfl, c0, c1.1, c1.2, c2⟩)⟩)]
        go_enter Tryd.func16, Tryd.ntmps16
        go_wp2_with fail
        refine (inC _ _ _ _).mono ?_
        rintro e w1 ⟨rfl, rfl⟩
        rw [decide_eq_true c1]
        go_wp2
        go_ret
        exact ⟨rfl, (Below.refl _ _).alloc (Nat.le_refl _) _⟩
      · have q2 : (b == 0) = false := by simp [c2]
        rw [rb_f (show ¬ RP ⟨8, n, a, b⟩ t by simp only [RP]; omega)]
        go_enter Tryd.func16, Tryd.ntmps16
        go_wp2_with fail
        refine (inC _ _ _ _).mono ?_
        rintro e w1 ⟨rfl, rfl⟩
        rw [decide_eq_true c1]
        go_wp2
        go_ret
        exact ⟨rfl, (Below.refl _ _).alloc (Nat.le_refl _) _⟩
    · rw [rb_f (show ¬ RP ⟨8, n, a, b⟩ t by simp only [RP]; omega)]
      go_enter Tryd.func16, Tryd.ntmps16
      go_wp2_with fail
      refine (inC _ _ _ _).mono ?_
      rintro e w1 ⟨rfl, rfl⟩
      rw [decide_eq_false c1]
      go_wp2
      go_ret
      exact ⟨rfl, (Below.refl _ _).alloc (Nat.le_refl _) _⟩
  · have q0 : (n == 0) = false := by simp [c0]
    rw [rb_f (show ¬ RP ⟨8, n, a, b⟩ t by simp only [RP]; omega)]
    go_enter Tryd.func16, Tryd.ntmps16
    go_wp2
    go_ret
    exact ⟨rfl, (Below.refl _ _).alloc (Nat.le_refl _) _⟩
set_option maxRecDepth 100000 in
set_option maxHeartbeats 2000000 in
theorem right_kind9 (n a b t : Int) (ht1 : 1 ≤ t) (ht8 : t ≤ 8) (w : World) (h : NmW w) : Calls Tryd.prog 16 #[ov ⟨9, n, a, b⟩, .int .i64 t] w fun e w' => e = .returned (.bool (rb ⟨9, n, a, b⟩ t)) ∧ Below w.heap.size w w' := by
  have hst : IntKind.i64.wrap (t - 1) = t - 1 := by rw [IntKind.wrap_i64]; omega
  unfold ov
  by_cases c0 : 1 ≤ n ∧ n ≤ 3
  · by_cases c1 : a = 0
    · have q1 : (a == 0) = true := by simp [c1]
      by_cases c2 : b = 0
      · have q2 : (b == 0) = true := by simp [c2]
        rw [rb_t (show RP ⟨9, n, a, b⟩ t from ⟨ht1, ht8, .inr (.inr (.inl ⟨rfl, c0.1, c0.2, c1, c2⟩))⟩)]
        go_enter Tryd.func16, Tryd.ntmps16
        go_wp2_with fail
        refine (inC _ _ _ _).mono ?_
        rintro e w1 ⟨rfl, rfl⟩
        rw [decide_eq_true c0]
        go_wp2
        go_ret
        exact ⟨rfl, (Below.refl _ _).alloc (Nat.le_refl _) _⟩
      · have q2 : (b == 0) = false := by simp [c2]
        rw [rb_f (show ¬ RP ⟨9, n, a, b⟩ t by simp only [RP]; omega)]
        go_enter Tryd.func16, Tryd.ntmps16
        go_wp2_with fail
        refine (inC _ _ _ _).mono ?_
        rintro e w1 ⟨rfl, rfl⟩
        rw [decide_eq_true c0]
        go_wp2
        go_ret
        exact ⟨rfl, (Below.refl _ _).alloc (Nat.le_refl _) _⟩
    · have q1 : (a == 0) = false := by simp [c1]
      rw [rb_f (show ¬ RP ⟨9, n, a, b⟩ t by simp only [RP]; omega)]
      go_enter Tryd.func16, Tryd.ntmps16
      go_wp2_with fail
      refine (inC _ _ _ _).mono ?_
      rintro e w1 ⟨rfl, rfl⟩
      rw [decide_eq_true c0]
      go_wp2
      go_ret
      exact ⟨rfl, (Below.refl _ _).alloc (Nat.le_refl _) _⟩
  · rw [rb_f (show ¬ RP ⟨9, n, a, b⟩ t by simp only [RP]; omega)]
    go_enter Tryd.func16, Tryd.ntmps16
    go_wp2_with fail
    refine (inC _ _ _ _).mono ?_
    rintro e w1 ⟨rfl, rfl⟩
    rw [decide_eq_false c0]
    go_wp2
    go_ret
    exact ⟨rfl, (Below.refl _ _).alloc (Nat.le_refl _) _⟩
set_option maxRecDepth 100000 in
set_option maxHeartbeats 2000000 in
theorem right_kind11 (n a b t : Int) (ht1 : 1 ≤ t) (ht8 : t ≤ 8) (w : World) (h : NmW w) : Calls Tryd.prog 16 #[ov ⟨11, n, a, b⟩, .int .i64 t] w fun e w' => e = .returned (.bool (rb ⟨11, n, a, b⟩ t)) ∧ Below w.heap.size w w' := by
  have hst : IntKind.i64.wrap (t - 1) = t - 1 := by rw [IntKind.wrap_i64]; omega
  unfold ov
  by_cases c0 : 1 ≤ a ∧ a ≤ 1000
  · by_cases c1 : 0 ≤ n ∧ n ≤ a
    · by_cases c2 : b = 0
      · have q2 : (b == 0) = true := by simp [c2]
        rw [rb_t (show RP ⟨11, n, a, b⟩ t from ⟨ht1, ht8, .inr (.inr (.inr (.inl ⟨rfl, c0.1, c0.2, c1.1, c1.2, c2⟩)))⟩)]
        go_enter Tryd.func16, Tryd.ntmps16
        go_wp2_with fail
        refine (inC _ _ _ _).mono ?_
        rintro e w1 ⟨rfl, rfl⟩
        rw [decide_eq_true c0]
        go_wp2_with fail
        refine (inC _ _ _ _).mono ?_
        rintro e w1 ⟨rfl, rfl⟩
        rw [decide_eq_true c1]
        go_wp2
        go_ret
        exact ⟨rfl, (Below.refl _ _).alloc (Nat.le_refl _) _⟩
      · have q2 : (b == 0) = false := by simp [c2]
        rw [rb_f (show ¬ RP ⟨11, n, a, b⟩ t by simp only [RP]; omega)]
        go_enter Tryd.func16, Tryd.ntmps16
        go_wp2_with fail
        refine (inC _ _ _ _).mono ?_
        rintro e w1 ⟨rfl, rfl⟩
        rw [decide_eq_true c0]
        go_wp2_with fail
        refine (inC _ _ _ _).mono ?_
        rintro e w1 ⟨rfl, rfl⟩
        rw [decide_eq_true c1]
        go_wp2
        go_ret
        exact ⟨rfl, (Below.refl _ _).alloc (Nat.le_refl _) _⟩
    · rw [rb_f (show ¬ RP ⟨11, n, a, b⟩ t by simp only [RP]; omega)]
      go_enter Tryd.func16, Tryd.ntmps16
      go_wp2_with fail
      refine (inC _ _ _ _).mono ?_
      rintro e w1 ⟨rfl, rfl⟩
      rw [decide_eq_true c0]
      go_wp2_with fail
      refine (inC _ _ _ _).mono ?_
      rintro e w1 ⟨rfl, rfl⟩
      rw [decide_eq_false c1]
      go_wp2
      go_ret
      exact ⟨rfl, (Below.refl _ _).alloc (Nat.le_refl _) _⟩
  · rw [rb_f (show ¬ RP ⟨11, n, a, b⟩ t by simp only [RP]; omega)]
    go_enter Tryd.func16, Tryd.ntmps16
    go_wp2_with fail
    refine (inC _ _ _ _).mono ?_
    rintro e w1 ⟨rfl, rfl⟩
    rw [decide_eq_false c0]
    go_wp2
    go_ret
    exact ⟨rfl, (Below.refl _ _).alloc (Nat.le_refl _) _⟩
set_option maxRecDepth 100000 in
set_option maxHeartbeats 2000000 in
theorem right_kind13 (n a b t : Int) (ht1 : 1 ≤ t) (ht8 : t ≤ 8) (w : World) (h : NmW w) : Calls Tryd.prog 16 #[ov ⟨13, n, a, b⟩, .int .i64 t] w fun e w' => e = .returned (.bool (rb ⟨13, n, a, b⟩ t)) ∧ Below w.heap.size w w' := by
  have hst : IntKind.i64.wrap (t - 1) = t - 1 := by rw [IntKind.wrap_i64]; omega
  unfold ov
  by_cases c0 : 1 ≤ n ∧ n ≤ t
  · by_cases c1 : a = 0
    · have q1 : (a == 0) = true := by simp [c1]
      by_cases c2 : b = 0
      · have q2 : (b == 0) = true := by simp [c2]
        rw [rb_t (show RP ⟨13, n, a, b⟩ t from ⟨ht1, ht8, .inr (.inr (.inr (.inr (.inl ⟨rfl, c0.1, c0.2, c1, c2⟩))))⟩)]
        go_enter Tryd.func16, Tryd.ntmps16
        go_wp2_with fail
        refine (inC _ _ _ _).mono ?_
        rintro e w1 ⟨rfl, rfl⟩
        rw [decide_eq_true c0]
        go_wp2
        go_ret
        exact ⟨rfl, (Below.refl _ _).alloc (Nat.le_refl _) _⟩
      · have q2 : (b == 0) = false := by simp [c2]
        rw [rb_f (show ¬ RP ⟨13, n, a, b⟩ t by simp only [RP]; omega)]
        go_enter Tryd.func16, Tryd.ntmps16
        go_wp2_with fail
        refine (inC _ _ _ _).mono ?_
        rintro e w1 ⟨rfl, rfl⟩
        rw [decide_eq_true c0]
        go_wp2
        go_ret
        exact ⟨rfl, (Below.refl _ _).alloc (Nat.le_refl _) _⟩
    · have q1 : (a == 0) = false := by simp [c1]
      rw [rb_f (show ¬ RP ⟨13, n, a, b⟩ t by simp only [RP]; omega)]
      go_enter Tryd.func16, Tryd.ntmps16
      go_wp2_with fail
      refine (inC _ _ _ _).mono ?_
      rintro e w1 ⟨rfl, rfl⟩
      rw [decide_eq_true c0]
      go_wp2
      go_ret
      exact ⟨rfl, (Below.refl _ _).alloc (Nat.le_refl _) _⟩
  · rw [rb_f (show ¬ RP ⟨13, n, a, b⟩ t by simp only [RP]; omega)]
    go_enter Tryd.func16, Tryd.ntmps16
    go_wp2_with fail
    refine (inC _ _ _ _).mono ?_
    rintro e w1 ⟨rfl, rfl⟩
    rw [decide_eq_false c0]
    go_wp2
    go_ret
    exact ⟨rfl, (Below.refl _ _).alloc (Nat.le_refl _) _⟩
set_option maxRecDepth 100000 in
set_option maxHeartbeats 2000000 in
theorem right_kindelse (k n a b t : Int) (hk : k ≠ 6 ∧ k ≠ 7 ∧ k ≠ 8 ∧ k ≠ 9 ∧ k ≠ 11 ∧ k ≠ 13) (ht1 : 1 ≤ t) (ht8 : t ≤ 8) (w : World) (h : NmW w) : Calls Tryd.prog 16 #[ov ⟨k, n, a, b⟩, .int .i64 t] w fun e w' => e = .returned (.bool (rb ⟨k, n, a, b⟩ t)) ∧ Below w.heap.size w w' := by
  have hst : IntKind.i64.wrap (t - 1) = t - 1 := by rw [IntKind.wrap_i64]; omega
  unfold ov
  have k6 : (k == 6) = false := by simp; omega
  have k7 : (k == 7) = false := by simp; omega
  have k8 : (k == 8) = false := by simp; omega
  have k9 : (k == 9) = false := by simp; omega
  have k11 : (k == 11) = false := by simp; omega
  have k13 : (k == 13) = false := by simp; omega
  by_cases c0 : 1 ≤ k ∧ k ≤ 15
  · have q0 : (nmOf k).toList.isEmpty = false := nm_ne c0
    by_cases c1 : n = 0
    · have q1 : (n == 0) = true := by simp [c1]
      by_cases c2 : a = 0
      · have q2 : (a == 0) = true := by simp [c2]
        by_cases c3 : b = 0
        · have q3 : (b == 0) = true := by simp [c3]
          rw [rb_t (show RP ⟨k, n, a, b⟩ t from ⟨ht1, ht8, .inr (.inr (.inr (.inr (.inr ⟨by simp only; omega, c1, c2, c3⟩))))⟩)]
          go_enter Tryd.func16, Tryd.ntmps16
          go_wp2_with fail
          refine (objName _ _ (h.below ((Below.refl _ _).alloc (Nat.le_refl _) _))).mono ?_
          rintro e w1 ⟨rfl, rfl⟩
          go_wp2
          go_ret
          exact ⟨rfl, (Below.refl _ _).alloc (Nat.le_refl _) _⟩
        · have q3 : (b == 0) = false := by simp [c3]
          rw [rb_f (show ¬ RP ⟨k, n, a, b⟩ t by simp only [RP]; omega)]
          go_enter Tryd.func16, Tryd.ntmps16
          go_wp2_with fail
          refine (objName _ _ (h.below ((Below.refl _ _).alloc (Nat.le_refl _) _))).mono ?_
          rintro e w1 ⟨rfl, rfl⟩
          go_wp2
          go_ret
          exact ⟨rfl, (Below.refl _ _).alloc (Nat.le_refl _) _⟩
      · have q2 : (a == 0) = false := by simp [c2]
        rw [rb_f (show ¬ RP ⟨k, n, a, b⟩ t by simp only [RP]; omega)]
        go_enter Tryd.func16, Tryd.ntmps16
        go_wp2_with fail
        refine (objName _ _ (h.below ((Below.refl _ _).alloc (Nat.le_refl _) _))).mono ?_
        rintro e w1 ⟨rfl, rfl⟩
        go_wp2
        go_ret
        exact ⟨rfl, (Below.refl _ _).alloc (Nat.le_refl _) _⟩
    · have q1 : (n == 0) = false := by simp [c1]
      rw [rb_f (show ¬ RP ⟨k, n, a, b⟩ t by simp only [RP]; omega)]
      go_enter Tryd.func16, Tryd.ntmps16
      go_wp2_with fail
      refine (objName _ _ (h.below ((Below.refl _ _).alloc (Nat.le_refl _) _))).mono ?_
      rintro e w1 ⟨rfl, rfl⟩
      go_wp2
      go_ret
      exact ⟨rfl, (Below.refl _ _).alloc (Nat.le_refl _) _⟩
  · have q0 : (nmOf k).toList.isEmpty = true := nm_eq c0
    rw [rb_f (show ¬ RP ⟨k, n, a, b⟩ t by simp only [RP]; omega)]
    go_enter Tryd.func16, Tryd.ntmps16
    go_wp2_with fail
    refine (objName _ _ (h.below ((Below.refl _ _).alloc (Nat.le_refl _) _))).mono ?_
    rintro e w1 ⟨rfl, rfl⟩
    go_wp2
    go_ret
    exact ⟨rfl, (Below.refl _ _).alloc (Nat.le_refl _) _⟩
theorem objRight (x : O) (t : Int) (w : World) (h : NmW w) : Calls Tryd.prog 16 #[ov x, .int .i64 t] w fun e w' => e = .returned (.bool (rb x t)) ∧ Below w.heap.size w w' := by
  obtain ⟨k, n, a, b⟩ := x
  have hal := (Below.refl w.heap.size w).alloc (Nat.le_refl _) (.cells #[.int .i64 k, .int .i64 n, .int .i64 a, .int .i64 b] 48)
  by_cases h1 : t < 1
  · rw [rb_f (show ¬ RP ⟨k, n, a, b⟩ t by simp only [RP]; omega)]
    unfold ov
    go_enter Tryd.func16, Tryd.ntmps16
    go_wp2
    go_ret
    exact ⟨rfl, hal⟩
  by_cases h2 : 8 < t
  · rw [rb_f (show ¬ RP ⟨k, n, a, b⟩ t by simp only [RP]; omega)]
    unfold ov
    go_enter Tryd.func16, Tryd.ntmps16
    go_wp2
    go_ret
    exact ⟨rfl, hal⟩
  have ht1 : 1 ≤ t := by omega
  have ht8 : t ≤ 8 := by omega
  by_cases e6 : k = 6
  · subst e6; exact right_kind6 n a b t ht1 ht8 w h
  by_cases e7 : k = 7
  · subst e7; exact right_kind7 n a b t ht1 ht8 w h
  by_cases e8 : k = 8
  · subst e8; exact right_kind8 n a b t ht1 ht8 w h
  by_cases e9 : k = 9
  · subst e9; exact right_kind9 n a b t ht1 ht8 w h
  by_cases e11 : k = 11
  · subst e11; exact right_kind11 n a b t ht1 ht8 w h
  by_cases e13 : k = 13
  · subst e13; exact right_kind13 n a b t ht1 ht8 w h
  exact right_kindelse k n a b t ⟨e6, e7, e8, e9, e11, e13⟩ ht1 ht8 w h
end Go.Proofs.YtobkonbpcnmgpaaDoor
