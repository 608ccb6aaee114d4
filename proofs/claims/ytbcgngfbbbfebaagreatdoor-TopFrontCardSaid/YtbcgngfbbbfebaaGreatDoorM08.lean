/- obj.Right: whatever the object. Rows of words: made, stored into, appended to. -/
import Derived.Test.YtbcgngfbbbfebaaGreatDoorM07
import Derived.Test.YtbcgngfbbbfebaaGreatDoorM02
import Derived.Maps.AppendAt
import Derived.Carry
namespace Go.Proofs.YtbcgngfbbbfebaaGreatDoor
open Go.RowKit
set_option maxRecDepth 100000
set_option maxHeartbeats 32000000
set_option linter.unusedVariables false
set_option linter.unusedSimpArgs false
structure O where
 k : Int
 n : Int
 a : Int
 b : Int
def ov (x : O) : Value := .agg #[.int .i64 x.k, .int .i64 x.n, .int .i64 x.a, .int .i64 x.b]
def RP (x : O) (t : Int) : Prop := 1 ≤ t ∧ t ≤ 8 ∧ (
 ((x.k = 6 ∨ x.k = 7) ∧ x.n = 0 ∧ 0 ≤ x.a ∧ x.a ≤ t - 1 ∧ 0 ≤ x.b ∧ x.b ≤ t - 1 ∧ x.a ≠ x.b) ∨
 (x.k = 8 ∧ x.n = 0 ∧ 0 ≤ x.a ∧ x.a ≤ t - 1 ∧ x.b = 0) ∨
 (x.k = 9 ∧ 1 ≤ x.n ∧ x.n ≤ 3 ∧ x.a = 0 ∧ x.b = 0) ∨
 (x.k = 11 ∧ 1 ≤ x.a ∧ x.a ≤ 1000 ∧ 0 ≤ x.n ∧ x.n ≤ x.a ∧ x.b = 0) ∨
 (x.k = 13 ∧ 1 ≤ x.n ∧ x.n ≤ t ∧ x.a = 0 ∧ x.b = 0) ∨
 ((1 ≤ x.k ∧ x.k ≤ 5 ∨ x.k = 10 ∨ x.k = 12 ∨ x.k = 14 ∨ x.k = 15) ∧ x.n = 0 ∧ x.a = 0 ∧ x.b = 0))
instance (x : O) (t : Int) : Decidable (RP x t) := by unfold RP; infer_instance
def rb (x : O) (t : Int) : Bool := decide (RP x t)
theorem rb_t {x : O} {t : Int} (h : RP x t) : rb x t = true := decide_eq_true h
theorem rb_f {x : O} {t : Int} (h : ¬ RP x t) : rb x t = false := decide_eq_false h
theorem nm_ne {k : Int} (h : 1 ≤ k ∧ k ≤ 15) : (nmOf k).toList.isEmpty = false := by
 unfold nmOf; rw [if_pos h]; obtain ⟨j, rfl⟩ : ∃ j : Nat, k = j := ⟨k.toNat, by omega⟩
 have : j = 1 ∨ j = 2 ∨ j = 3 ∨ j = 4 ∨ j = 5 ∨ j = 6 ∨ j = 7 ∨ j = 8 ∨ j = 9 ∨ j = 10 ∨ j = 11 ∨ j = 12 ∨ j = 13 ∨ j = 14 ∨ j = 15 := by omega
 rcases this with rfl | rfl | rfl | rfl | rfl | rfl | rfl | rfl | rfl | rfl | rfl | rfl | rfl | rfl | rfl <;> decide +kernel
theorem nm_eq {k : Int} (h : ¬ (1 ≤ k ∧ k ≤ 15)) : (nmOf k).toList.isEmpty = true := by
 unfold nmOf; rw [if_neg h]; decide +kernel
theorem right_kind6 (n a b t : Int) (ht1 : 1 ≤ t) (ht8 : t ≤ 8) (w : World) (h : NmW w) : Calls Tryz.prog 35 #[ov ⟨6, n, a, b⟩, .int .i64 t] w fun e w' => e = .returned (.bool (rb ⟨6, n, a, b⟩ t)) ∧ Below w.heap.size w w' := by
 have hst : IntKind.i64.wrap (t - 1) = t - 1 := by rw [IntKind.wrap_i64]; omega
 unfold ov
 by_cases c0 : n = 0
 ·have q0 : (n == 0) = true := by simp [c0]
  by_cases c1 : 0 ≤ a ∧ a ≤ t - 1
  ·by_cases c2 : 0 ≤ b ∧ b ≤ t - 1
   ·by_cases c3 : a ≠ b
    ·have q3 : (a != b) = true := by simp [c3]
     rw [rb_t (show RP ⟨6, n, a, b⟩ t from ⟨ht1, ht8, .inl ⟨.inl rfl, c0, c1.1, c1.2, c2.1, c2.2, c3⟩⟩)]; go_enter Tryz.func35, Tryz.ntmps35; go_wp2_with fail; refine (inC _ _ _ _).mono ?_; rintro e w1 ⟨rfl, rfl⟩; rw [decide_eq_true c1]; go_wp2_with fail; refine (inC _ _ _ _).mono ?_; rintro e w1 ⟨rfl, rfl⟩; rw [decide_eq_true c2]; go_wp2; go_ret; exact ⟨rfl, (Below.refl _ _).alloc (Nat.le_refl _) _⟩
    ·have q3 : (a != b) = false := by simp at c3; simp [c3]
     rw [rb_f (show ¬ RP ⟨6, n, a, b⟩ t by simp only [RP]; omega)]; go_enter Tryz.func35, Tryz.ntmps35; go_wp2_with fail; refine (inC _ _ _ _).mono ?_; rintro e w1 ⟨rfl, rfl⟩; rw [decide_eq_true c1]; go_wp2_with fail; refine (inC _ _ _ _).mono ?_; rintro e w1 ⟨rfl, rfl⟩; rw [decide_eq_true c2]; go_wp2; go_ret; exact ⟨rfl, (Below.refl _ _).alloc (Nat.le_refl _) _⟩
   ·rw [rb_f (show ¬ RP ⟨6, n, a, b⟩ t by simp only [RP]; omega)]
    go_enter Tryz.func35, Tryz.ntmps35; go_wp2_with fail; refine (inC _ _ _ _).mono ?_; rintro e w1 ⟨rfl, rfl⟩; rw [decide_eq_true c1]; go_wp2_with fail; refine (inC _ _ _ _).mono ?_; rintro e w1 ⟨rfl, rfl⟩; rw [decide_eq_false c2]; go_wp2; go_ret; exact ⟨rfl, (Below.refl _ _).alloc (Nat.le_refl _) _⟩
  ·rw [rb_f (show ¬ RP ⟨6, n, a, b⟩ t by simp only [RP]; omega)]
   go_enter Tryz.func35, Tryz.ntmps35; go_wp2_with fail; refine (inC _ _ _ _).mono ?_; rintro e w1 ⟨rfl, rfl⟩; rw [decide_eq_false c1]; go_wp2; go_ret; exact ⟨rfl, (Below.refl _ _).alloc (Nat.le_refl _) _⟩
 ·have q0 : (n == 0) = false := by simp [c0]
  rw [rb_f (show ¬ RP ⟨6, n, a, b⟩ t by simp only [RP]; omega)]; go_enter Tryz.func35, Tryz.ntmps35; go_wp2; go_ret; exact ⟨rfl, (Below.refl _ _).alloc (Nat.le_refl _) _⟩
theorem right_kind7 (n a b t : Int) (ht1 : 1 ≤ t) (ht8 : t ≤ 8) (w : World) (h : NmW w) : Calls Tryz.prog 35 #[ov ⟨7, n, a, b⟩, .int .i64 t] w fun e w' => e = .returned (.bool (rb ⟨7, n, a, b⟩ t)) ∧ Below w.heap.size w w' := by
 have hst : IntKind.i64.wrap (t - 1) = t - 1 := by rw [IntKind.wrap_i64]; omega
 unfold ov
 by_cases c0 : n = 0
 ·have q0 : (n == 0) = true := by simp [c0]
  by_cases c1 : 0 ≤ a ∧ a ≤ t - 1
  ·by_cases c2 : 0 ≤ b ∧ b ≤ t - 1
   ·by_cases c3 : a ≠ b
    ·have q3 : (a != b) = true := by simp [c3]
     rw [rb_t (show RP ⟨7, n, a, b⟩ t from ⟨ht1, ht8, .inl ⟨.inr rfl, c0, c1.1, c1.2, c2.1, c2.2, c3⟩⟩)]; go_enter Tryz.func35, Tryz.ntmps35; go_wp2_with fail; refine (inC _ _ _ _).mono ?_; rintro e w1 ⟨rfl, rfl⟩; rw [decide_eq_true c1]; go_wp2_with fail; refine (inC _ _ _ _).mono ?_; rintro e w1 ⟨rfl, rfl⟩; rw [decide_eq_true c2]; go_wp2; go_ret; exact ⟨rfl, (Below.refl _ _).alloc (Nat.le_refl _) _⟩
    ·have q3 : (a != b) = false := by simp at c3; simp [c3]
     rw [rb_f (show ¬ RP ⟨7, n, a, b⟩ t by simp only [RP]; omega)]; go_enter Tryz.func35, Tryz.ntmps35; go_wp2_with fail; refine (inC _ _ _ _).mono ?_; rintro e w1 ⟨rfl, rfl⟩; rw [decide_eq_true c1]; go_wp2_with fail; refine (inC _ _ _ _).mono ?_; rintro e w1 ⟨rfl, rfl⟩; rw [decide_eq_true c2]; go_wp2; go_ret; exact ⟨rfl, (Below.refl _ _).alloc (Nat.le_refl _) _⟩
   ·rw [rb_f (show ¬ RP ⟨7, n, a, b⟩ t by simp only [RP]; omega)]
    go_enter Tryz.func35, Tryz.ntmps35; go_wp2_with fail; refine (inC _ _ _ _).mono ?_; rintro e w1 ⟨rfl, rfl⟩; rw [decide_eq_true c1]; go_wp2_with fail; refine (inC _ _ _ _).mono ?_; rintro e w1 ⟨rfl, rfl⟩; rw [decide_eq_false c2]; go_wp2; go_ret; exact ⟨rfl, (Below.refl _ _).alloc (Nat.le_refl _) _⟩
  ·rw [rb_f (show ¬ RP ⟨7, n, a, b⟩ t by simp only [RP]; omega)]
   go_enter Tryz.func35, Tryz.ntmps35; go_wp2_with fail; refine (inC _ _ _ _).mono ?_; rintro e w1 ⟨rfl, rfl⟩; rw [decide_eq_false c1]; go_wp2; go_ret; exact ⟨rfl, (Below.refl _ _).alloc (Nat.le_refl _) _⟩
 ·have q0 : (n == 0) = false := by simp [c0]
  rw [rb_f (show ¬ RP ⟨7, n, a, b⟩ t by simp only [RP]; omega)]; go_enter Tryz.func35, Tryz.ntmps35; go_wp2; go_ret; exact ⟨rfl, (Below.refl _ _).alloc (Nat.le_refl _) _⟩
theorem right_kind8 (n a b t : Int) (ht1 : 1 ≤ t) (ht8 : t ≤ 8) (w : World) (h : NmW w) : Calls Tryz.prog 35 #[ov ⟨8, n, a, b⟩, .int .i64 t] w fun e w' => e = .returned (.bool (rb ⟨8, n, a, b⟩ t)) ∧ Below w.heap.size w w' := by
 have hst : IntKind.i64.wrap (t - 1) = t - 1 := by rw [IntKind.wrap_i64]; omega
 unfold ov
 by_cases c0 : n = 0
 ·have q0 : (n == 0) = true := by simp [c0]
  by_cases c1 : 0 ≤ a ∧ a ≤ t - 1
  ·by_cases c2 : b = 0
   ·have q2 : (b == 0) = true := by simp [c2]
    rw [rb_t (show RP ⟨8, n, a, b⟩ t from ⟨ht1, ht8, .inr (.inl ⟨rfl, c0, c1.1, c1.2, c2⟩)⟩)]; go_enter Tryz.func35, Tryz.ntmps35; go_wp2_with fail; refine (inC _ _ _ _).mono ?_; rintro e w1 ⟨rfl, rfl⟩; rw [decide_eq_true c1]; go_wp2; go_ret; exact ⟨rfl, (Below.refl _ _).alloc (Nat.le_refl _) _⟩
   ·have q2 : (b == 0) = false := by simp [c2]
    rw [rb_f (show ¬ RP ⟨8, n, a, b⟩ t by simp only [RP]; omega)]; go_enter Tryz.func35, Tryz.ntmps35; go_wp2_with fail; refine (inC _ _ _ _).mono ?_; rintro e w1 ⟨rfl, rfl⟩; rw [decide_eq_true c1]; go_wp2; go_ret; exact ⟨rfl, (Below.refl _ _).alloc (Nat.le_refl _) _⟩
  ·rw [rb_f (show ¬ RP ⟨8, n, a, b⟩ t by simp only [RP]; omega)]
   go_enter Tryz.func35, Tryz.ntmps35; go_wp2_with fail; refine (inC _ _ _ _).mono ?_; rintro e w1 ⟨rfl, rfl⟩; rw [decide_eq_false c1]; go_wp2; go_ret; exact ⟨rfl, (Below.refl _ _).alloc (Nat.le_refl _) _⟩
 ·have q0 : (n == 0) = false := by simp [c0]
  rw [rb_f (show ¬ RP ⟨8, n, a, b⟩ t by simp only [RP]; omega)]; go_enter Tryz.func35, Tryz.ntmps35; go_wp2; go_ret; exact ⟨rfl, (Below.refl _ _).alloc (Nat.le_refl _) _⟩
theorem right_kind9 (n a b t : Int) (ht1 : 1 ≤ t) (ht8 : t ≤ 8) (w : World) (h : NmW w) : Calls Tryz.prog 35 #[ov ⟨9, n, a, b⟩, .int .i64 t] w fun e w' => e = .returned (.bool (rb ⟨9, n, a, b⟩ t)) ∧ Below w.heap.size w w' := by
 have hst : IntKind.i64.wrap (t - 1) = t - 1 := by rw [IntKind.wrap_i64]; omega
 unfold ov
 by_cases c0 : 1 ≤ n ∧ n ≤ 3
 ·by_cases c1 : a = 0
  ·have q1 : (a == 0) = true := by simp [c1]
   by_cases c2 : b = 0
   ·have q2 : (b == 0) = true := by simp [c2]
    rw [rb_t (show RP ⟨9, n, a, b⟩ t from ⟨ht1, ht8, .inr (.inr (.inl ⟨rfl, c0.1, c0.2, c1, c2⟩))⟩)]; go_enter Tryz.func35, Tryz.ntmps35; go_wp2_with fail; refine (inC _ _ _ _).mono ?_; rintro e w1 ⟨rfl, rfl⟩; rw [decide_eq_true c0]; go_wp2; go_ret; exact ⟨rfl, (Below.refl _ _).alloc (Nat.le_refl _) _⟩
   ·have q2 : (b == 0) = false := by simp [c2]
    rw [rb_f (show ¬ RP ⟨9, n, a, b⟩ t by simp only [RP]; omega)]; go_enter Tryz.func35, Tryz.ntmps35; go_wp2_with fail; refine (inC _ _ _ _).mono ?_; rintro e w1 ⟨rfl, rfl⟩; rw [decide_eq_true c0]; go_wp2; go_ret; exact ⟨rfl, (Below.refl _ _).alloc (Nat.le_refl _) _⟩
  ·have q1 : (a == 0) = false := by simp [c1]
   rw [rb_f (show ¬ RP ⟨9, n, a, b⟩ t by simp only [RP]; omega)]; go_enter Tryz.func35, Tryz.ntmps35; go_wp2_with fail; refine (inC _ _ _ _).mono ?_; rintro e w1 ⟨rfl, rfl⟩; rw [decide_eq_true c0]; go_wp2; go_ret; exact ⟨rfl, (Below.refl _ _).alloc (Nat.le_refl _) _⟩
 ·rw [rb_f (show ¬ RP ⟨9, n, a, b⟩ t by simp only [RP]; omega)]
  go_enter Tryz.func35, Tryz.ntmps35; go_wp2_with fail; refine (inC _ _ _ _).mono ?_; rintro e w1 ⟨rfl, rfl⟩; rw [decide_eq_false c0]; go_wp2; go_ret; exact ⟨rfl, (Below.refl _ _).alloc (Nat.le_refl _) _⟩
theorem right_kind11 (n a b t : Int) (ht1 : 1 ≤ t) (ht8 : t ≤ 8) (w : World) (h : NmW w) : Calls Tryz.prog 35 #[ov ⟨11, n, a, b⟩, .int .i64 t] w fun e w' => e = .returned (.bool (rb ⟨11, n, a, b⟩ t)) ∧ Below w.heap.size w w' := by
 have hst : IntKind.i64.wrap (t - 1) = t - 1 := by rw [IntKind.wrap_i64]; omega
 unfold ov
 by_cases c0 : 1 ≤ a ∧ a ≤ 1000
 ·by_cases c1 : 0 ≤ n ∧ n ≤ a
  ·by_cases c2 : b = 0
   ·have q2 : (b == 0) = true := by simp [c2]
    rw [rb_t (show RP ⟨11, n, a, b⟩ t from ⟨ht1, ht8, .inr (.inr (.inr (.inl ⟨rfl, c0.1, c0.2, c1.1, c1.2, c2⟩)))⟩)]; go_enter Tryz.func35, Tryz.ntmps35; go_wp2_with fail; refine (inC _ _ _ _).mono ?_; rintro e w1 ⟨rfl, rfl⟩; rw [decide_eq_true c0]; go_wp2_with fail; refine (inC _ _ _ _).mono ?_; rintro e w1 ⟨rfl, rfl⟩; rw [decide_eq_true c1]; go_wp2; go_ret; exact ⟨rfl, (Below.refl _ _).alloc (Nat.le_refl _) _⟩
   ·have q2 : (b == 0) = false := by simp [c2]
    rw [rb_f (show ¬ RP ⟨11, n, a, b⟩ t by simp only [RP]; omega)]; go_enter Tryz.func35, Tryz.ntmps35; go_wp2_with fail; refine (inC _ _ _ _).mono ?_; rintro e w1 ⟨rfl, rfl⟩; rw [decide_eq_true c0]; go_wp2_with fail; refine (inC _ _ _ _).mono ?_; rintro e w1 ⟨rfl, rfl⟩; rw [decide_eq_true c1]; go_wp2; go_ret; exact ⟨rfl, (Below.refl _ _).alloc (Nat.le_refl _) _⟩
  ·rw [rb_f (show ¬ RP ⟨11, n, a, b⟩ t by simp only [RP]; omega)]
   go_enter Tryz.func35, Tryz.ntmps35; go_wp2_with fail; refine (inC _ _ _ _).mono ?_; rintro e w1 ⟨rfl, rfl⟩; rw [decide_eq_true c0]; go_wp2_with fail; refine (inC _ _ _ _).mono ?_; rintro e w1 ⟨rfl, rfl⟩; rw [decide_eq_false c1]; go_wp2; go_ret; exact ⟨rfl, (Below.refl _ _).alloc (Nat.le_refl _) _⟩
 ·rw [rb_f (show ¬ RP ⟨11, n, a, b⟩ t by simp only [RP]; omega)]
  go_enter Tryz.func35, Tryz.ntmps35; go_wp2_with fail; refine (inC _ _ _ _).mono ?_; rintro e w1 ⟨rfl, rfl⟩; rw [decide_eq_false c0]; go_wp2; go_ret; exact ⟨rfl, (Below.refl _ _).alloc (Nat.le_refl _) _⟩
theorem right_kind13 (n a b t : Int) (ht1 : 1 ≤ t) (ht8 : t ≤ 8) (w : World) (h : NmW w) : Calls Tryz.prog 35 #[ov ⟨13, n, a, b⟩, .int .i64 t] w fun e w' => e = .returned (.bool (rb ⟨13, n, a, b⟩ t)) ∧ Below w.heap.size w w' := by
 have hst : IntKind.i64.wrap (t - 1) = t - 1 := by rw [IntKind.wrap_i64]; omega
 unfold ov
 by_cases c0 : 1 ≤ n ∧ n ≤ t
 ·by_cases c1 : a = 0
  ·have q1 : (a == 0) = true := by simp [c1]
   by_cases c2 : b = 0
   ·have q2 : (b == 0) = true := by simp [c2]
    rw [rb_t (show RP ⟨13, n, a, b⟩ t from ⟨ht1, ht8, .inr (.inr (.inr (.inr (.inl ⟨rfl, c0.1, c0.2, c1, c2⟩))))⟩)]; go_enter Tryz.func35, Tryz.ntmps35; go_wp2_with fail; refine (inC _ _ _ _).mono ?_; rintro e w1 ⟨rfl, rfl⟩; rw [decide_eq_true c0]; go_wp2; go_ret; exact ⟨rfl, (Below.refl _ _).alloc (Nat.le_refl _) _⟩
   ·have q2 : (b == 0) = false := by simp [c2]
    rw [rb_f (show ¬ RP ⟨13, n, a, b⟩ t by simp only [RP]; omega)]; go_enter Tryz.func35, Tryz.ntmps35; go_wp2_with fail; refine (inC _ _ _ _).mono ?_; rintro e w1 ⟨rfl, rfl⟩; rw [decide_eq_true c0]; go_wp2; go_ret; exact ⟨rfl, (Below.refl _ _).alloc (Nat.le_refl _) _⟩
  ·have q1 : (a == 0) = false := by simp [c1]
   rw [rb_f (show ¬ RP ⟨13, n, a, b⟩ t by simp only [RP]; omega)]; go_enter Tryz.func35, Tryz.ntmps35; go_wp2_with fail; refine (inC _ _ _ _).mono ?_; rintro e w1 ⟨rfl, rfl⟩; rw [decide_eq_true c0]; go_wp2; go_ret; exact ⟨rfl, (Below.refl _ _).alloc (Nat.le_refl _) _⟩
 ·rw [rb_f (show ¬ RP ⟨13, n, a, b⟩ t by simp only [RP]; omega)]
  go_enter Tryz.func35, Tryz.ntmps35; go_wp2_with fail; refine (inC _ _ _ _).mono ?_; rintro e w1 ⟨rfl, rfl⟩; rw [decide_eq_false c0]; go_wp2; go_ret; exact ⟨rfl, (Below.refl _ _).alloc (Nat.le_refl _) _⟩
theorem right_kindelse (k n a b t : Int) (hk : k ≠ 6 ∧ k ≠ 7 ∧ k ≠ 8 ∧ k ≠ 9 ∧ k ≠ 11 ∧ k ≠ 13) (ht1 : 1 ≤ t) (ht8 : t ≤ 8) (w : World) (h : NmW w) : Calls Tryz.prog 35 #[ov ⟨k, n, a, b⟩, .int .i64 t] w fun e w' => e = .returned (.bool (rb ⟨k, n, a, b⟩ t)) ∧ Below w.heap.size w w' := by
 have hst : IntKind.i64.wrap (t - 1) = t - 1 := by rw [IntKind.wrap_i64]; omega
 unfold ov
 have k6 : (k == 6) = false := by simp <;> omega
 have k7 : (k == 7) = false := by simp <;> omega
 have k8 : (k == 8) = false := by simp <;> omega
 have k9 : (k == 9) = false := by simp <;> omega
 have k11 : (k == 11) = false := by simp <;> omega
 have k13 : (k == 13) = false := by simp <;> omega
 by_cases c0 : 1 ≤ k ∧ k ≤ 15
 ·have q0 : (nmOf k).toList.isEmpty = false := nm_ne c0
  by_cases c1 : n = 0
  ·have q1 : (n == 0) = true := by simp [c1]
   by_cases c2 : a = 0
   ·have q2 : (a == 0) = true := by simp [c2]
    by_cases c3 : b = 0
    ·have q3 : (b == 0) = true := by simp [c3]
     rw [rb_t (show RP ⟨k, n, a, b⟩ t from ⟨ht1, ht8, .inr (.inr (.inr (.inr (.inr ⟨by simp only; omega, c1, c2, c3⟩))))⟩)]; go_enter Tryz.func35, Tryz.ntmps35; go_wp2_with fail; refine (objName _ _ (h.below ((Below.refl _ _).alloc (Nat.le_refl _) _))).mono ?_; rintro e w1 ⟨rfl, rfl⟩; go_wp2; go_ret; exact ⟨rfl, (Below.refl _ _).alloc (Nat.le_refl _) _⟩
    ·have q3 : (b == 0) = false := by simp [c3]
     rw [rb_f (show ¬ RP ⟨k, n, a, b⟩ t by simp only [RP]; omega)]; go_enter Tryz.func35, Tryz.ntmps35; go_wp2_with fail; refine (objName _ _ (h.below ((Below.refl _ _).alloc (Nat.le_refl _) _))).mono ?_; rintro e w1 ⟨rfl, rfl⟩; go_wp2; go_ret; exact ⟨rfl, (Below.refl _ _).alloc (Nat.le_refl _) _⟩
   ·have q2 : (a == 0) = false := by simp [c2]
    rw [rb_f (show ¬ RP ⟨k, n, a, b⟩ t by simp only [RP]; omega)]; go_enter Tryz.func35, Tryz.ntmps35; go_wp2_with fail; refine (objName _ _ (h.below ((Below.refl _ _).alloc (Nat.le_refl _) _))).mono ?_; rintro e w1 ⟨rfl, rfl⟩; go_wp2; go_ret; exact ⟨rfl, (Below.refl _ _).alloc (Nat.le_refl _) _⟩
  ·have q1 : (n == 0) = false := by simp [c1]
   rw [rb_f (show ¬ RP ⟨k, n, a, b⟩ t by simp only [RP]; omega)]; go_enter Tryz.func35, Tryz.ntmps35; go_wp2_with fail; refine (objName _ _ (h.below ((Below.refl _ _).alloc (Nat.le_refl _) _))).mono ?_; rintro e w1 ⟨rfl, rfl⟩; go_wp2; go_ret; exact ⟨rfl, (Below.refl _ _).alloc (Nat.le_refl _) _⟩
 ·have q0 : (nmOf k).toList.isEmpty = true := nm_eq c0
  rw [rb_f (show ¬ RP ⟨k, n, a, b⟩ t by simp only [RP]; omega)]; go_enter Tryz.func35, Tryz.ntmps35; go_wp2_with fail; refine (objName _ _ (h.below ((Below.refl _ _).alloc (Nat.le_refl _) _))).mono ?_; rintro e w1 ⟨rfl, rfl⟩; go_wp2; go_ret; exact ⟨rfl, (Below.refl _ _).alloc (Nat.le_refl _) _⟩
theorem objRight (x : O) (t : Int) (w : World) (h : NmW w) : Calls Tryz.prog 35 #[ov x, .int .i64 t] w fun e w' => e = .returned (.bool (rb x t)) ∧ Below w.heap.size w w' := by
 obtain ⟨k, n, a, b⟩ := x; have hal := (Below.refl w.heap.size w).alloc (Nat.le_refl _) (.cells #[.int .i64 k, .int .i64 n, .int .i64 a, .int .i64 b] 38)
 by_cases h1 : t < 1
 ·rw [rb_f (show ¬ RP ⟨k, n, a, b⟩ t by simp only [RP]; omega)]
  unfold ov; go_enter Tryz.func35, Tryz.ntmps35; go_wp2; go_ret; exact ⟨rfl, hal⟩
 by_cases h2 : 8 < t
 ·rw [rb_f (show ¬ RP ⟨k, n, a, b⟩ t by simp only [RP]; omega)]
  unfold ov; go_enter Tryz.func35, Tryz.ntmps35; go_wp2; go_ret; exact ⟨rfl, hal⟩
 have ht1 : 1 ≤ t := by omega
 have ht8 : t ≤ 8 := by omega
 by_cases e6 : k = 6
 ·subst e6; exact right_kind6 n a b t ht1 ht8 w h
 by_cases e7 : k = 7
 ·subst e7; exact right_kind7 n a b t ht1 ht8 w h
 by_cases e8 : k = 8
 ·subst e8; exact right_kind8 n a b t ht1 ht8 w h
 by_cases e9 : k = 9
 ·subst e9; exact right_kind9 n a b t ht1 ht8 w h
 by_cases e11 : k = 11
 ·subst e11; exact right_kind11 n a b t ht1 ht8 w h
 by_cases e13 : k = 13
 ·subst e13; exact right_kind13 n a b t ht1 ht8 w h
 exact right_kindelse k n a b t ⟨e6, e7, e8, e9, e11, e13⟩ ht1 ht8 w h
end Go.Proofs.YtbcgngfbbbfebaaGreatDoor
namespace Go.Proofs.YtbcgngfbbbfebaaGreatDoor
open Go.RowKit
set_option maxRecDepth 100000
set_option maxHeartbeats 32000000
set_option linter.unusedVariables false
set_option linter.unusedSimpArgs false
def urow (n : Nat) (p : Nat → Int) : Array Value := ((List.range n).map fun x => Value.int .u32 (p x)).toArray
theorem urow_size (n : Nat) (p : Nat → Int) : (urow n p).size = n := by simp [urow]
theorem urow_at (n : Nat) (p : Nat → Int) (x : Nat) (h : x < n) : (urow n p)[x]? = some (.int .u32 (p x)) := by simp [urow, h]
theorem urow_get (n : Nat) (p : Nat → Int) (x : Nat) : (urow n p)[x]? = if x < n then some (.int .u32 (p x)) else none := by
 by_cases h : x < n
 ·rw [if_pos h]; exact urow_at n p x h
 ·rw [if_neg h]; simp [urow, h]
theorem urow_set (n : Nat) (p : Nat → Int) (x : Nat) (b : Int) : (urow n p).setIfInBounds x (.int .u32 b) = urow n (fun y => if y = x then b else p y) := by
 apply Array.ext_getElem?; intro i; rw [Array.getElem?_setIfInBounds, urow_get, urow_get, urow_size]
 by_cases e : x = i
 ·subst e; by_cases h : x < n <;> simp [h]
 ·have e' : i ≠ x := fun h => e h.symm
  rw [if_neg e, if_neg e']
theorem urow_made (n : Nat) : madeCells #[.int .u32 0] n = urow n (fun _ => 0) := by
 apply Array.ext (by simp [urow, madeCells]); intro i h1 h2; simp [urow, madeCells, Nat.mod_one]
def Wd (w : World) (V : Option Addr) (n : Nat) (p : Nat → Int) : Prop :=
 0 < n → ∃ b off, V = some ⟨b, off, none⟩ ∧ b < w.heap.size ∧ ∀ i, i < n → w.cell? ⟨b, off + i, none⟩ = some (.int .u32 (p i))
theorem Wd.congr {w : World} {V : Option Addr} {n : Nat} {p q : Nat → Int} (h : Wd w V n p) (e : ∀ i, i < n → p i = q i) : Wd w V n q := fun hn => by
 obtain ⟨b, off, e1, hlt, hc⟩ := h hn; exact ⟨b, off, e1, hlt, fun i hi => by rw [← e i hi]; exact hc i hi⟩
theorem Wd.row {w : World} {b n : Nat} {p : Nat → Int} (h : w.heap[b]? = some (.cells (urow n p) 33 (0, 0))) : Wd w (some ⟨b, 0, none⟩) n p := fun _ => ⟨b, 0, rfl, blk_lt h, fun i hi => (cell_of_row w b (0 + i) _ 33 _ h).trans (by rw [Nat.zero_add]; exact urow_at _ _ _ hi)⟩
def pt (l : List Int) (i : Nat) : Int := l.getD i 0
theorem infoU : (Tryz.prog.info? 33).map (fun i => (i.zero, i.size, i.bytes)) = some (some (.int .u32 0), 1, 4) := by kernel_rfl
theorem run_bu (w : World) (z : Int) : (Instr.buildSlice 52 1 #[(0, .int .u32 z)]).run Tryz.prog w = .ok (.slice (some ⟨w.heap.size, 0, none⟩) 1 1) (w.alloc (.cells #[.int .u32 z] 33)) := by
 kernel_rfl
section
variable {ops : Array Oper} {Q : Exit → Act → World → Prop}
theorem wl_mku {rest : List Oper} {o : Oper} {a : Act} {w : World} (hgd : o.guard = none) (x y : Operand) (ho : o.op = .makeSlice 52 x y) (n : Nat) (hn : n ≤ 4000) (hx : a.eval x = .int .i64 n) (hy : a.eval y = .int .i64 n)
  (h : ∀ (w' : World) (r : Nat), w'.heap[r]? = some (.cells (urow n fun _ => 0) 33 (0, 0)) → Below w.heap.size w w' → Hid (r = w.heap.size) → ∀ K : Act → World → Prop, (∀ a w, wpList Tryz.prog ops Q rest a w → K a w) → K (a.put o.dst (.slice (some ⟨r, 0, none⟩) n n)) w') : wpList Tryz.prog ops Q (o :: rest) a w := by
 refine wpList_plain hgd fun K hK => ?_
 obtain ⟨i0, hi0, hz0, hz1, hz2⟩ := info_parts infoU; have hr := run_make (P := Tryz.prog) w 52 33 i0 (.int .u32 0) Tryz.underlying52 hi0 hz0 .i64 .i64 (n : Int) (n : Int) (by omega) (Int.le_refl _) (by rw [hz2]; omega) (by omega); have e : (Value.int .u32 0).cells = #[.int .u32 0] := rfl; rw [hz1, e, Nat.mul_one, Int.toNat_natCast, urow_made] at hr; unfold Oper.wp execOp; simp only [ho, hx, hy, Sem.run_bind, hr, Result.andThen_ok]; exact h _ _ (heap_alloc_new w _) ((Below.refl _ _).alloc (Nat.le_refl _) _) rfl K hK
theorem wl_stu {rest : List Oper} {o : Oper} {a : Act} {w : World} (hgd : o.guard = none) (x y : Operand) (ho : o.op = .store 33 x y) (r j n : Nat) (z : Int) (p : Nat → Int) (hx : a.eval x = .pointer (some ⟨r, j, none⟩)) (hy : a.eval y = .int .u32 z) (hb : w.heap[r]? = some (.cells (urow n p) 33 (0, 0))) (hj : j < n)
  (h : ∀ w' : World, w'.heap[r]? = some (.cells (urow n fun y => if y = j then z else p y) 33 (0, 0)) → (∀ B, B ≤ r → Below B w w') → ∀ K : Act → World → Prop, (∀ a w, wpList Tryz.prog ops Q rest a w → K a w) → K (a.put o.dst undef) w') : wpList Tryz.prog ops Q (o :: rest) a w := by
 refine wpList_plain hgd fun K hK => ?_
 have hc : w.cell? ⟨r, j, none⟩ = some (.int .u32 (p j)) := (cell_of_row w r j _ 33 _ hb).trans (urow_at _ _ _ hj); have hf := frozen_of_row w r j _ 33 hb; have hsz := Tryz.sizeOf33
 have hst : (store ⟨r, j, none⟩ (.int .u32 z)).run Tryz.prog w = .ok () (w.setCell ⟨r, j, none⟩ (.int .u32 z)) := by simp [go_sem, stored, hc, hf]
 have hsv : (storeVar 33 ⟨r, j, none⟩ (.int .u32 z)).run Tryz.prog w = .ok () (w.setCell ⟨r, j, none⟩ (.int .u32 z)) := by
  unfold storeVar; have hv : (Value.int .u32 z).cells = #[.int .u32 z] := rfl; simp only [Sem.run_bind, hsz, hv, Result.andThen_ok]; simp [storeCells, add_off, hst]
 unfold Oper.wp execOp; simp only [ho, hx, hy, Instr.storeAt, Instr.sureAddr, Sem.run_bind, Sem.run_pure, Result.andThen_ok]; rw [hsv]; refine h _ ?_ (fun B hB => (Below.refl _ _).setCell hB _) K hK; rw [← urow_set]; exact heap_setCell_same w r j _ 33 _ hb
theorem wl_bu {rest : List Oper} {o : Oper} {a : Act} {w : World} (hgd : o.guard = none) (y : Operand) (ho : o.op = .buildSlice 52 1 #[(0, y)]) (z : Int) (hx : a.eval y = .int .u32 z)
  (h : ∀ (w' : World) (b : Nat), w'.heap[b]? = some (.cells #[.int .u32 z] 33 (0, 0)) → Below w.heap.size w w' → ∀ K : Act → World → Prop, (∀ a w, wpList Tryz.prog ops Q rest a w → K a w) → K (a.put o.dst (.slice (some ⟨b, 0, none⟩) 1 1)) w') : wpList Tryz.prog ops Q (o :: rest) a w := by
 refine wpList_plain hgd fun K hK => ?_
 unfold Oper.wp execOp; have hr := run_bu w z; simp only [ho, List.map_toArray, List.map_cons, List.map_nil, hx, Sem.run_bind, hr, Result.andThen_ok]; exact h _ _ (heap_alloc_new w _) ((Below.refl _ _).alloc (Nat.le_refl _) _) K hK
end
end Go.Proofs.YtbcgngfbbbfebaaGreatDoor
