/- Which op may be: the document's answer. -/
import Derived.Test.YtlcoealfnlakhaaDoorClRight
namespace Go.Proofs.YtlcoealfnlakhaaDoor
open Go.RowKit
set_option linter.unusedVariables false
set_option linter.unusedSimpArgs false
theorem may_nat (k : Int) (c : Nat) : may k c = mayN (kdN k) c := by
  unfold may mayN
  rw [Bool.eq_iff_iff, List.any_eq_true, List.contains_iff_mem]
  constructor
  · rintro ⟨j, hj, h⟩
    have : j = c := by simp at h; omega
    subst this; exact hj
  · intro h; exact ⟨c, h, by simp⟩
theorem callsN_in : ∀ k, k < 16 → ∀ j ∈ callsN k, 1 ≤ j ∧ j ≤ 10 := by decide +kernel
theorem may_out {k c : Int} (h : ¬ (1 ≤ c ∧ c ≤ 10)) : may k c = false := by
  unfold may
  rw [List.any_eq_false]
  intro j hj
  have := callsN_in (kdN k) (kdN_lt _) j hj
  simp
  omega
set_option maxRecDepth 100000 in
set_option maxHeartbeats 4000000 in
theorem refMayI (n c : Int) (w : World) : Calls Tryd.prog 22 #[.int .i64 n, .int .i64 c] w fun e w' => e = .returned (.bool (may n c)) ∧ Below w.heap.size w w' := by
  by_cases h : 1 ≤ c ∧ c ≤ 10
  · obtain ⟨c, rfl⟩ : ∃ j : Nat, c = j := ⟨c.toNat, by omega⟩
    rw [may_nat]
    exact refMay n c (by omega) w
  rw [may_out h]
  have c1 : (c == 1) = false := by simp; omega
  have c2 : (c == 2) = false := by simp; omega
  have c9 : (c == 9) = false := by simp; omega
  have c10 : (c == 10) = false := by simp; omega
  by_cases hlo : c < 1
  · have g1 : ¬ (1 ≤ c) := by omega
    have g5 : ¬ (5 ≤ c) := by omega
    clear h hlo
    by_cases e9 : n = 9
    · subst e9
      go_enter Tryd.func22, Tryd.ntmps22
      go_wp2
      go_ret
      exact ⟨rfl, Below.refl _ _⟩
    by_cases e12 : n = 12
    · subst e12
      go_enter Tryd.func22, Tryd.ntmps22
      go_wp2
      go_ret
      exact ⟨rfl, Below.refl _ _⟩
    by_cases e13 : n = 13
    · subst e13
      go_enter Tryd.func22, Tryd.ntmps22
      go_wp2
      go_ret
      exact ⟨rfl, Below.refl _ _⟩
    by_cases e14 : n = 14
    · subst e14
      go_enter Tryd.func22, Tryd.ntmps22
      go_wp2
      go_ret
      exact ⟨rfl, Below.refl _ _⟩
    by_cases e15 : n = 15
    · subst e15
      go_enter Tryd.func22, Tryd.ntmps22
      go_wp2
      go_ret
      exact ⟨rfl, Below.refl _ _⟩
    have q9 : (n == 9) = false := by simp [e9]
    have q12 : (n == 12) = false := by simp [e12]
    have q13 : (n == 13) = false := by simp [e13]
    have q14 : (n == 14) = false := by simp [e14]
    have q15 : (n == 15) = false := by simp [e15]
    clear e9 e12 e13 e14 e15
    by_cases h1 : 1 ≤ n
    · by_cases h2 : n ≤ 11
      · go_enter Tryd.func22, Tryd.ntmps22
        go_wp2
        go_ret
        exact ⟨rfl, Below.refl _ _⟩
      · go_enter Tryd.func22, Tryd.ntmps22
        go_wp2
        go_ret
        exact ⟨rfl, Below.refl _ _⟩
    · go_enter Tryd.func22, Tryd.ntmps22
      go_wp2
      go_ret
      exact ⟨rfl, Below.refl _ _⟩
  · have g1 : 1 ≤ c := by omega
    have g5 : 5 ≤ c := by omega
    have g3 : ¬ (c ≤ 3) := by omega
    have g4 : ¬ (c ≤ 4) := by omega
    have g8 : ¬ (c ≤ 8) := by omega
    clear h hlo
    by_cases e9 : n = 9
    · subst e9
      go_enter Tryd.func22, Tryd.ntmps22
      go_wp2
      go_ret
      exact ⟨rfl, Below.refl _ _⟩
    by_cases e12 : n = 12
    · subst e12
      go_enter Tryd.func22, Tryd.ntmps22
      go_wp2
      go_ret
      exact ⟨rfl, Below.refl _ _⟩
    by_cases e13 : n = 13
    · subst e13
      go_enter Tryd.func22, Tryd.ntmps22
      go_wp2
      go_ret
      exact ⟨rfl, Below.refl _ _⟩
    by_cases e14 : n = 14
    · subst e14
      go_enter Tryd.func22, Tryd.ntmps22
      go_wp2
      go_ret
      exact ⟨rfl, Below.refl _ _⟩
    by_cases e15 : n = 15
    · subst e15
      go_enter Tryd.func22, Tryd.ntmps22
      go_wp2
      go_ret
      exact ⟨rfl, Below.refl _ _⟩
    have q9 : (n == 9) = false := by simp [e9]
    have q12 : (n == 12) = false := by simp [e12]
    have q13 : (n == 13) = false := by simp [e13]
    have q14 : (n == 14) = false := by simp [e14]
    have q15 : (n == 15) = false := by simp [e15]
    clear e9 e12 e13 e14 e15
    by_cases h1 : 1 ≤ n
    · by_cases h2 : n ≤ 11
      · go_enter Tryd.func22, Tryd.ntmps22
        go_wp2
        go_ret
        exact ⟨rfl, Below.refl _ _⟩
      · go_enter Tryd.func22, Tryd.ntmps22
        go_wp2
        go_ret
        exact ⟨rfl, Below.refl _ _⟩
    · go_enter Tryd.func22, Tryd.ntmps22
      go_wp2
      go_ret
      exact ⟨rfl, Below.refl _ _⟩
set_option maxRecDepth 100000 in
set_option maxHeartbeats 4000000 in
theorem refRight7 (C : Cl) (a b K : Int) (hx : 0 ≤ K ∧ K < 4294967296) (w : World) (hM : MemC w C) : Calls Tryd.prog 13 #[C.v, xv ⟨7, a, b, K⟩] w fun e w' => e = .returned (.bool (callB C ⟨7, a, b, K⟩)) ∧ Below w.heap.size w w' := by
  by_cases h0 : a < 0
  · rw [show callB C ⟨7, a, b, K⟩ = false from if_neg (by intro h; have := h.1; simp only at this; omega)]
    unfold Cl.v xv
    go_enter Tryd.func13, Tryd.ntmps13
    go_upto_region 14 with (fail)
    obtain ⟨W, b1, b2, e0, e1, e2, X1, X2, hal⟩ := box2 w #[.slice C.A C.no C.ca, .int .i64 C.vars, .slice C.W C.nw C.cw, .int .i64 C.room, .slice C.T C.nt C.ct] #[.int .i64 7, .int .i64 a, .int .i64 b, .int .u32 K] 26 37
    rw [e0, e2, e1]
    clear e0 e2 e1
    refine quiet_all (fun w' => Below W.heap.size W w') (by kernel_rfl) (by kernel_rfl) (Below.drew (Below.refl _ _)) ?_
    refine q_run rfl (fun K hK => ?_)
    refine q_value ?_ (fun w' h' => ?_) ?_
    rotate_left
    · go_simp; try with_reducible rfl
    go_simp
    refine hK _ ?_
    clear hK K
    refine q_run rfl (fun K hK => ?_)
    refine q_value ?_ (fun w' h' => ?_) ?_
    rotate_left
    · have c := cell_of_row w' b2 1 _ 37 _ (keep X2 h'); go_simp; try with_reducible rfl
    go_simp
    refine hK _ ?_
    clear hK K
    refine q_run rfl (fun K hK => ?_)
    refine q_value ?_ (fun w' h' => ?_) ?_
    rotate_left
    · go_simp; try with_reducible rfl
    go_simp
    refine hK _ ?_
    clear hK K
    refine q_run rfl (fun K hK => ?_)
    refine q_value ?_ (fun w' h' => ?_) ?_
    rotate_left
    · go_simp; try with_reducible rfl
    go_simp
    refine hK _ ?_
    clear hK K
    refine q_skip rfl (fun K hK => ?_)
    go_simp
    refine hK _ ?_
    clear hK K
    refine q_skip rfl (fun K hK => ?_)
    go_simp
    refine hK _ ?_
    clear hK K
    refine q_skip rfl (fun K hK => ?_)
    go_simp
    refine hK _ ?_
    clear hK K
    refine q_skip rfl (fun K hK => ?_)
    go_simp
    refine hK _ ?_
    clear hK K
    refine q_skip rfl (fun K hK => ?_)
    go_simp
    refine hK _ ?_
    clear hK K
    refine q_skip rfl (fun K hK => ?_)
    go_simp
    refine hK _ ?_
    clear hK K
    refine q_run rfl (fun K hK => ?_)
    refine q_value ?_ (fun w' h' => ?_) ?_
    rotate_left
    · go_simp; try with_reducible rfl
    go_simp
    refine hK _ ?_
    clear hK K
    refine q_run rfl (fun K hK => ?_)
    refine q_value ?_ (fun w' h' => ?_) ?_
    rotate_left
    · go_simp; try with_reducible rfl
    go_simp
    refine hK _ ?_
    clear hK K
    refine q_skip rfl (fun K hK => ?_)
    go_simp
    refine hK _ ?_
    clear hK K
    refine q_skip rfl (fun K hK => ?_)
    go_simp
    refine hK _ ?_
    clear hK K
    refine q_skip rfl (fun K hK => ?_)
    go_simp
    refine hK _ ?_
    clear hK K
    refine q_skip rfl (fun K hK => ?_)
    go_simp
    refine hK _ ?_
    clear hK K
    refine q_skip rfl (fun K hK => ?_)
    go_simp
    refine hK _ ?_
    clear hK K
    refine q_skip rfl (fun K hK => ?_)
    go_simp
    refine hK _ ?_
    clear hK K
    refine q_skip rfl (fun K hK => ?_)
    go_simp
    refine hK _ ?_
    clear hK K
    refine q_skip rfl (fun K hK => ?_)
    go_simp
    refine hK _ ?_
    clear hK K
    refine q_skip rfl (fun K hK => ?_)
    go_simp
    refine hK _ ?_
    clear hK K
    refine q_skip rfl (fun K hK => ?_)
    go_simp
    refine hK _ ?_
    clear hK K
    refine q_skip rfl (fun K hK => ?_)
    go_simp
    refine hK _ ?_
    clear hK K
    refine q_run rfl (fun K hK => ?_)
    refine q_value ?_ (fun w' h' => ?_) ?_
    rotate_left
    · go_simp; try with_reducible rfl
    go_simp
    refine hK _ ?_
    clear hK K
    refine qd_nil ?_
    intro w3 h3
    go_wp2
    go_ret
    exact ⟨rfl, hal.trans (h3.mono hal.size)⟩
  by_cases h1 : (C.no : Int) ≤ a
  · rw [show callB C ⟨7, a, b, K⟩ = false from if_neg (by intro h; have := h.2; simp only at this; omega)]
    unfold Cl.v xv
    go_enter Tryd.func13, Tryd.ntmps13
    go_upto_region 14 with (fail)
    obtain ⟨W, b1, b2, e0, e1, e2, X1, X2, hal⟩ := box2 w #[.slice C.A C.no C.ca, .int .i64 C.vars, .slice C.W C.nw C.cw, .int .i64 C.room, .slice C.T C.nt C.ct] #[.int .i64 7, .int .i64 a, .int .i64 b, .int .u32 K] 26 37
    rw [e0, e2, e1]
    clear e0 e2 e1
    refine quiet_all (fun w' => Below W.heap.size W w') (by kernel_rfl) (by kernel_rfl) (Below.drew (Below.refl _ _)) ?_
    refine q_run rfl (fun K hK => ?_)
    refine q_value ?_ (fun w' h' => ?_) ?_
    rotate_left
    · go_simp; try with_reducible rfl
    go_simp
    refine hK _ ?_
    clear hK K
    refine q_run rfl (fun K hK => ?_)
    refine q_value ?_ (fun w' h' => ?_) ?_
    rotate_left
    · have c := cell_of_row w' b2 1 _ 37 _ (keep X2 h'); go_simp; try with_reducible rfl
    go_simp
    refine hK _ ?_
    clear hK K
    refine q_run rfl (fun K hK => ?_)
    refine q_value ?_ (fun w' h' => ?_) ?_
    rotate_left
    · go_simp; try with_reducible rfl
    go_simp
    refine hK _ ?_
    clear hK K
    refine q_run rfl (fun K hK => ?_)
    refine q_value ?_ (fun w' h' => ?_) ?_
    rotate_left
    · go_simp; try with_reducible rfl
    go_simp
    refine hK _ ?_
    clear hK K
    refine q_run rfl (fun K hK => ?_)
    refine q_value ?_ (fun w' h' => ?_) ?_
    rotate_left
    · go_simp; try with_reducible rfl
    go_simp
    refine hK _ ?_
    clear hK K
    refine q_run rfl (fun K hK => ?_)
    refine q_value ?_ (fun w' h' => ?_) ?_
    rotate_left
    · have c := cell_of_row w' b2 1 _ 37 _ (keep X2 h'); go_simp; try with_reducible rfl
    go_simp
    refine hK _ ?_
    clear hK K
    refine q_run rfl (fun K hK => ?_)
    refine q_value ?_ (fun w' h' => ?_) ?_
    rotate_left
    · go_simp; try with_reducible rfl
    go_simp
    refine hK _ ?_
    clear hK K
    refine q_run rfl (fun K hK => ?_)
    refine q_value ?_ (fun w' h' => ?_) ?_
    rotate_left
    · have c := cell_of_row w' b1 0 _ 26 _ (keep X1 h'); go_simp; try with_reducible rfl
    go_simp
    refine hK _ ?_
    clear hK K
    refine q_run rfl (fun K hK => ?_)
    refine q_value ?_ (fun w' h' => ?_) ?_
    rotate_left
    · go_simp; try with_reducible rfl
    go_simp
    refine hK _ ?_
    clear hK K
    refine q_run rfl (fun K hK => ?_)
    refine q_value ?_ (fun w' h' => ?_) ?_
    rotate_left
    · go_simp; try with_reducible rfl
    go_simp
    refine hK _ ?_
    clear hK K
    refine q_run rfl (fun K hK => ?_)
    refine q_value ?_ (fun w' h' => ?_) ?_
    rotate_left
    · go_simp; try with_reducible rfl
    go_simp
    refine hK _ ?_
    clear hK K
    refine q_run rfl (fun K hK => ?_)
    refine q_value ?_ (fun w' h' => ?_) ?_
    rotate_left
    · go_simp; try with_reducible rfl
    go_simp
    refine hK _ ?_
    clear hK K
    refine q_skip rfl (fun K hK => ?_)
    go_simp
    refine hK _ ?_
    clear hK K
    refine q_skip rfl (fun K hK => ?_)
    go_simp
    refine hK _ ?_
    clear hK K
    refine q_skip rfl (fun K hK => ?_)
    go_simp
    refine hK _ ?_
    clear hK K
    refine q_skip rfl (fun K hK => ?_)
    go_simp
    refine hK _ ?_
    clear hK K
    refine q_skip rfl (fun K hK => ?_)
    go_simp
    refine hK _ ?_
    clear hK K
    refine q_skip rfl (fun K hK => ?_)
    go_simp
    refine hK _ ?_
    clear hK K
    refine q_skip rfl (fun K hK => ?_)
    go_simp
    refine hK _ ?_
    clear hK K
    refine q_skip rfl (fun K hK => ?_)
    go_simp
    refine hK _ ?_
    clear hK K
    refine q_skip rfl (fun K hK => ?_)
    go_simp
    refine hK _ ?_
    clear hK K
    refine q_skip rfl (fun K hK => ?_)
    go_simp
    refine hK _ ?_
    clear hK K
    refine q_skip rfl (fun K hK => ?_)
    go_simp
    refine hK _ ?_
    clear hK K
    refine q_run rfl (fun K hK => ?_)
    refine q_value ?_ (fun w' h' => ?_) ?_
    rotate_left
    · go_simp; try with_reducible rfl
    go_simp
    refine hK _ ?_
    clear hK K
    refine qd_nil ?_
    intro w3 h3
    go_wp2
    go_ret
    exact ⟨rfl, hal.trans (h3.mono hal.size)⟩
  rw [show callB C ⟨7, a, b, K⟩ = (may (C.f a.toNat).k b && argB (C.f a.toNat) ⟨7, a, b, K⟩) from if_pos (by simp only; omega)]
  obtain ⟨i, rfl⟩ : ∃ i : Nat, a = i := ⟨a.toNat, by omega⟩
  rw [Int.toNat_natCast]
  have hi : i < C.no := by omega
  have hl0 : (0 : Int) ≤ i := by omega
  have hl1 : (i : Int) < C.no := by omega
  obtain ⟨bA, oA, eA⟩ := objs_ptr hM.objs (by omega)
  have hA := hM.objs
  rw [eA] at hA
  have hNi := hM.hN i hi
  unfold Cl.v xv
  rw [eA]
  obtain ⟨res, hres⟩ : ∃ B, Hid ((may (C.f i).k b && argB (C.f i) ⟨7, i, b, K⟩) = B) := ⟨_, rfl⟩
  rw [hres.out]
  go_enter Tryd.func13, Tryd.ntmps13
  go_upto_region 14 with (fail)
  obtain ⟨W, b1, b2, e0, e1, e2, X1, X2, hal⟩ := box2 w #[.slice (some ⟨bA, oA, none⟩) C.no C.ca, .int .i64 C.vars, .slice C.W C.nw C.cw, .int .i64 C.room, .slice C.T C.nt C.ct] #[.int .i64 7, .int .i64 i, .int .i64 b, .int .u32 K] 26 37
  rw [e0, e2, e1]
  clear e0 e2 e1
  have hAW := hA.below hal
  refine quiet_all (fun w' => Below W.heap.size W w') (by kernel_rfl) (by kernel_rfl) (Below.drew (Below.refl _ _)) ?_
  refine q_run rfl (fun K hK => ?_)
  refine q_value ?_ (fun w' h' => ?_) ?_
  rotate_left
  · go_simp; try with_reducible rfl
  go_simp
  refine hK _ ?_
  clear hK K
  refine q_run rfl (fun K hK => ?_)
  refine q_value ?_ (fun w' h' => ?_) ?_
  rotate_left
  · have c := cell_of_row w' b2 1 _ 37 _ (keep X2 h'); go_simp; try with_reducible rfl
  go_simp
  refine hK _ ?_
  clear hK K
  refine q_run rfl (fun K hK => ?_)
  refine q_value ?_ (fun w' h' => ?_) ?_
  rotate_left
  · go_simp; try with_reducible rfl
  go_simp
  refine hK _ ?_
  clear hK K
  refine q_run rfl (fun K hK => ?_)
  refine q_value ?_ (fun w' h' => ?_) ?_
  rotate_left
  · go_simp; try with_reducible rfl
  go_simp
  refine hK _ ?_
  clear hK K
  refine q_run rfl (fun K hK => ?_)
  refine q_value ?_ (fun w' h' => ?_) ?_
  rotate_left
  · go_simp; try with_reducible rfl
  go_simp
  refine hK _ ?_
  clear hK K
  refine q_run rfl (fun K hK => ?_)
  refine q_value ?_ (fun w' h' => ?_) ?_
  rotate_left
  · have c := cell_of_row w' b2 1 _ 37 _ (keep X2 h'); go_simp; try with_reducible rfl
  go_simp
  refine hK _ ?_
  clear hK K
  refine q_run rfl (fun K hK => ?_)
  refine q_value ?_ (fun w' h' => ?_) ?_
  rotate_left
  · go_simp; try with_reducible rfl
  go_simp
  refine hK _ ?_
  clear hK K
  refine q_run rfl (fun K hK => ?_)
  refine q_value ?_ (fun w' h' => ?_) ?_
  rotate_left
  · have c := cell_of_row w' b1 0 _ 26 _ (keep X1 h'); go_simp; try with_reducible rfl
  go_simp
  refine hK _ ?_
  clear hK K
  refine q_run rfl (fun K hK => ?_)
  refine q_value ?_ (fun w' h' => ?_) ?_
  rotate_left
  · go_simp; try with_reducible rfl
  go_simp
  refine hK _ ?_
  clear hK K
  refine q_run rfl (fun K hK => ?_)
  refine q_value ?_ (fun w' h' => ?_) ?_
  rotate_left
  · go_simp; try with_reducible rfl
  go_simp
  refine hK _ ?_
  clear hK K
  refine q_run rfl (fun K hK => ?_)
  refine q_value ?_ (fun w' h' => ?_) ?_
  rotate_left
  · go_simp; try with_reducible rfl
  go_simp
  refine hK _ ?_
  clear hK K
  refine q_run rfl (fun K hK => ?_)
  refine q_value ?_ (fun w' h' => ?_) ?_
  rotate_left
  · go_simp; try with_reducible rfl
  go_simp
  refine hK _ ?_
  clear hK K
  refine q_run rfl (fun K hK => ?_)
  refine q_value ?_ (fun w' h' => ?_) ?_
  rotate_left
  · go_simp; try with_reducible rfl
  go_simp
  refine hK _ ?_
  clear hK K
  refine q_run rfl (fun K hK => ?_)
  refine q_value ?_ (fun w' h' => ?_) ?_
  rotate_left
  · have c := cell_of_row w' b1 0 _ 26 _ (keep X1 h'); go_simp; try with_reducible rfl
  go_simp
  refine hK _ ?_
  clear hK K
  refine q_run rfl (fun K hK => ?_)
  refine q_value ?_ (fun w' h' => ?_) ?_
  rotate_left
  · go_simp; try with_reducible rfl
  go_simp
  refine hK _ ?_
  clear hK K
  refine q_run rfl (fun K hK => ?_)
  refine q_value ?_ (fun w' h' => ?_) ?_
  rotate_left
  · have c := cell_of_row w' b2 1 _ 37 _ (keep X2 h'); go_simp; try with_reducible rfl
  go_simp
  refine hK _ ?_
  clear hK K
  refine q_run rfl (fun K hK => ?_)
  refine q_value ?_ (fun w' h' => ?_) ?_
  rotate_left
  · go_simp; try with_reducible rfl
  go_simp
  refine hK _ ?_
  clear hK K
  refine q_run rfl (fun K hK => ?_)
  refine q_value ?_ (fun w' h' => ?_) ?_
  rotate_left
  · go_simp; try with_reducible rfl
  go_simp
  refine hK _ ?_
  clear hK K
  refine q_run rfl (fun K hK => ?_)
  refine q_value ?_ (fun w' h' => ?_) ?_
  rotate_left
  · have c := (at_obj hAW h' hi).1; go_simp; try with_reducible rfl
  go_simp
  refine hK _ ?_
  clear hK K
  refine q_run rfl (fun K hK => ?_)
  refine q_value ?_ (fun w' h' => ?_) ?_
  rotate_left
  · go_simp; try with_reducible rfl
  go_simp
  refine hK _ ?_
  clear hK K
  refine q_run rfl (fun K hK => ?_)
  refine q_value ?_ (fun w' h' => ?_) ?_
  rotate_left
  · have c := cell_of_row w' b2 2 _ 37 _ (keep X2 h'); go_simp; try with_reducible rfl
  go_simp
  refine hK _ ?_
  clear hK K
  refine q_run rfl (fun K hK => ?_)
  refine q_call (Nat.le_refl _) (fun w1 => refMayI (C.f i).k b w1) (fun w' => ?_) ?_
  · first | (go_simp; done) | (go_simp; rfl)
  go_simp
  refine hK _ ?_
  clear hK K
  refine q_run rfl (fun K hK => ?_)
  refine q_value ?_ (fun w' h' => ?_) ?_
  rotate_left
  · go_simp; try with_reducible rfl
  go_simp
  refine hK _ ?_
  clear hK K
  refine q_run rfl (fun K hK => ?_)
  refine q_value ?_ (fun w' h' => ?_) ?_
  rotate_left
  · go_simp; try with_reducible rfl
  go_simp
  refine hK _ ?_
  clear hK K
  refine qd_nil ?_
  intro w3 h3
  have X1' := keep X1 h3
  have X2' := keep X2 h3
  have hal3 := hal.trans (h3.mono hal.size)
  have hA3 := hAW.below h3
  clear X1 X2 h3 hAW hal
  have hr := hres.out
  clear hres
  generalize may (C.f i).k b = q at *
  cases q
  · rw [Bool.false_and] at hr
    subst hr
    go_wp2
    go_ret
    exact ⟨rfl, hal3⟩
  rw [Bool.true_and] at hr
  go_upto_region 16 with (fail)
  have y10 := cell_of_row w3 b1 0 _ 26 _ X1'
  have y21 := cell_of_row w3 b2 1 _ 37 _ X2'
  refine wp_region_lit ?_
  iterate 4
    refine wl_val rfl ?_ ?_ ?_
    rotate_left
    · go_simp; try with_reducible rfl
    intro K hK
    go_simp
    refine hK _ _ ?_
    clear hK K
  refine wl_val rfl (.pointer (some ⟨bA, oA + i * 4, none⟩)) ?_ ?_
  · go_simp
  intro K hK
  go_simp
  refine hK _ _ ?_
  clear hK K
  refine wl_val rfl (ov (C.f i)) (run_ldobj (.tmp 116) rfl bA oA i hA hal3 hi rfl) ?_
  intro K hK
  go_simp
  refine hK _ _ ?_
  clear hK K
  refine wl_alloc rfl 43 rfl (.agg #[.int .i64 0, .int .i64 0, .int .i64 0, .int .i64 0]) #[.int .i64 0, .int .i64 0, .int .i64 0, .int .i64 0] (fun w => by kernel_rfl) rfl (fun w4 b9 X4 l4 f4 => ?_)
  intro K hK
  go_simp
  refine hK _ _ ?_
  clear hK K
  refine wl_store rfl 43 (.tmp 5) (.tmp 117) rfl b9 #[.int .i64 (C.f i).k, .int .i64 (C.f i).n, .int .i64 (C.f i).a, .int .i64 (C.f i).b] rfl rfl 43 _ X4 (by kernel_rfl) rfl (by simp [Value.oneCell']) (fun w5 g1 g2 g3 g4 => ?_)
  intro K hK
  go_simp
  refine hK _ _ ?_
  clear hK K
  have hb5 : Below w3.heap.size w3 w5 := l4.trans (g3 _ (by simp only [Hid] at f4; omega))
  have X1 := keep X1' hb5
  have X2 := keep X2' hb5
  have hal6 := hal3.trans (hb5.mono hal3.size)
  clear X4 l4 f4 g2 g3 g4 y10 y21 X1' X2' hb5 hal3
  have y2 := cell_of_row w5 b2 2 _ 37 _ X2
  have y3 := cell_of_row w5 b2 3 _ 37 _ X2
  have z0' := cell_of_row w5 b9 0 _ 43 _ g1
  have z1' := cell_of_row w5 b9 1 _ 43 _ g1
  clear g1 X1 X2
  by_cases hb4 : b = 4
  · subst hb4
    have hr' : (decide (0 < (C.f i).n) && decide (K < (C.f i).n)) = res := by rw [← hr]; simp [argB]
    clear hr
    by_cases hn0 : 0 < (C.f i).n
    · rw [decide_eq_true hn0, Bool.true_and] at hr'
      have hcv : IntKind.i64.wrap K = K := by simp only [IntKind.wrap_i64]; omega
      by_cases hbig : 4294967295 < (C.f i).n
      · rw [decide_eq_true (show K < (C.f i).n by omega)] at hr'
        subst hr'
        go_wp2
        go_ret
        exact ⟨rfl, hal6⟩
      · subst hr'
        go_wp2
        go_ret
        exact ⟨rfl, hal6⟩
    · rw [decide_eq_false hn0, Bool.false_and] at hr'
      subst hr'
      go_wp2
      go_ret
      exact ⟨rfl, hal6⟩
  · have k4 : (b == 4) = false := by simp [hb4]
    have hr' : ((C.f i).k == 13 || K == 0) = res := by rw [← hr]; simp [argB, hb4]
    clear hr hb4
    by_cases h13 : (C.f i).k = 13
    · have k13 : ((C.f i).k == 13) = true := by simp [h13]
      rw [k13, Bool.true_or] at hr'
      subst hr'
      clear h13
      go_wp2
      go_ret
      exact ⟨rfl, hal6⟩
    · have k13 : ((C.f i).k == 13) = false := by simp [h13]
      rw [k13, Bool.false_or] at hr'
      subst hr'
      clear h13
      go_wp2
      go_ret
      exact ⟨rfl, hal6⟩
set_option maxRecDepth 100000 in
set_option maxHeartbeats 4000000 in
theorem refRgt (C : Cl) (x : X) (hx : 0 ≤ x.K ∧ x.K < 4294967296) (w : World) (hM : MemC w C) : Calls Tryd.prog 13 #[C.v, xv x] w fun e w' => e = .returned (.bool (rgt C x)) ∧ Below w.heap.size w w' := by
  obtain ⟨k, a, b, K⟩ := x
  by_cases e7 : k = 7
  · subst e7
    rw [show rgt C ⟨7, a, b, K⟩ = callB C ⟨7, a, b, K⟩ from by simp [rgt]]
    exact refRight7 C a b K hx w hM
  obtain ⟨B, hB⟩ : ∃ B, Hid (rgt C ⟨k, a, b, K⟩ = B) := ⟨_, rfl⟩
  rw [hB.out]
  replace hB := hB.out
  have hal := ((Below.refl w.heap.size w).alloc (Nat.le_refl _) (.cells #[.slice C.A C.no C.ca, .int .i64 C.vars, .slice C.W C.nw C.cw, .int .i64 C.room, .slice C.T C.nt C.ct] 26)).alloc (by simp) (.cells #[.int .i64 k, .int .i64 a, .int .i64 b, .int .u32 K] 37)
  by_cases e1 : k = 1
  · subst e1
    have hB' : ((decide (0 ≤ a ∧ a < 4)) && (b == 0)) = B := by rw [← hB]; simp [rgt, regB, Bool.decide_and, Bool.and_assoc]
    clear hB
    by_cases c0 : 0 ≤ a ∧ a < 4
    · simp only [decide_eq_true c0, Bool.true_and] at hB'
      subst hB'
      unfold Cl.v xv
      go_enter Tryd.func13, Tryd.ntmps13
      go_wp2_with fail
      refine (regC _ _).mono ?_
      rintro e w1 ⟨rfl, rfl⟩
      rw [decide_eq_true c0]
      go_wp2
      go_ret
      exact ⟨rfl, hal⟩
    · simp only [decide_eq_false c0, Bool.false_and] at hB'
      subst hB'
      unfold Cl.v xv
      go_enter Tryd.func13, Tryd.ntmps13
      go_wp2_with fail
      refine (regC _ _).mono ?_
      rintro e w1 ⟨rfl, rfl⟩
      rw [decide_eq_false c0]
      go_wp2
      go_ret
      exact ⟨rfl, hal⟩
  by_cases e2 : k = 2
  · subst e2
    have hB' : ((decide (0 ≤ a ∧ a < 4)) && (decide (0 ≤ b ∧ b < 4)) && (K == 0)) = B := by rw [← hB]; simp [rgt, regB, Bool.decide_and, Bool.and_assoc]
    clear hB
    by_cases c0 : 0 ≤ a ∧ a < 4
    · simp only [decide_eq_true c0, Bool.true_and] at hB'
      by_cases c1 : 0 ≤ b ∧ b < 4
      · simp only [decide_eq_true c1, Bool.true_and] at hB'
        subst hB'
        unfold Cl.v xv
        go_enter Tryd.func13, Tryd.ntmps13
        go_wp2_with fail
        refine (regC _ _).mono ?_
        rintro e w1 ⟨rfl, rfl⟩
        rw [decide_eq_true c0]
        go_wp2_with fail
        refine (regC _ _).mono ?_
        rintro e w1 ⟨rfl, rfl⟩
        rw [decide_eq_true c1]
        go_wp2
        go_ret
        exact ⟨rfl, hal⟩
      · simp only [decide_eq_false c1, Bool.false_and] at hB'
        subst hB'
        unfold Cl.v xv
        go_enter Tryd.func13, Tryd.ntmps13
        go_wp2_with fail
        refine (regC _ _).mono ?_
        rintro e w1 ⟨rfl, rfl⟩
        rw [decide_eq_true c0]
        go_wp2_with fail
        refine (regC _ _).mono ?_
        rintro e w1 ⟨rfl, rfl⟩
        rw [decide_eq_false c1]
        go_wp2
        go_ret
        exact ⟨rfl, hal⟩
    · simp only [decide_eq_false c0, Bool.false_and] at hB'
      subst hB'
      unfold Cl.v xv
      go_enter Tryd.func13, Tryd.ntmps13
      go_wp2_with fail
      refine (regC _ _).mono ?_
      rintro e w1 ⟨rfl, rfl⟩
      rw [decide_eq_false c0]
      go_wp2
      go_ret
      exact ⟨rfl, hal⟩
  by_cases e3 : k = 3
  · subst e3
    have hB' : ((decide (0 ≤ a ∧ a < 4)) && (decide (0 ≤ b)) && (decide (b < C.vars)) && (K == 0)) = B := by rw [← hB]; simp [rgt, regB, Bool.decide_and, Bool.and_assoc]
    clear hB
    by_cases c0 : 0 ≤ a ∧ a < 4
    · simp only [decide_eq_true c0, Bool.true_and] at hB'
      by_cases c1 : 0 ≤ b
      · simp only [decide_eq_true c1, Bool.true_and] at hB'
        by_cases c2 : b < C.vars
        · simp only [decide_eq_true c2, Bool.true_and] at hB'
          subst hB'
          unfold Cl.v xv
          go_enter Tryd.func13, Tryd.ntmps13
          go_wp2_with fail
          refine (regC _ _).mono ?_
          rintro e w1 ⟨rfl, rfl⟩
          rw [decide_eq_true c0]
          go_wp2
          go_ret
          exact ⟨rfl, hal⟩
        · simp only [decide_eq_false c2, Bool.false_and] at hB'
          subst hB'
          unfold Cl.v xv
          go_enter Tryd.func13, Tryd.ntmps13
          go_wp2_with fail
          refine (regC _ _).mono ?_
          rintro e w1 ⟨rfl, rfl⟩
          rw [decide_eq_true c0]
          go_wp2
          go_ret
          exact ⟨rfl, hal⟩
      · simp only [decide_eq_false c1, Bool.false_and] at hB'
        subst hB'
        unfold Cl.v xv
        go_enter Tryd.func13, Tryd.ntmps13
        go_wp2_with fail
        refine (regC _ _).mono ?_
        rintro e w1 ⟨rfl, rfl⟩
        rw [decide_eq_true c0]
        go_wp2
        go_ret
        exact ⟨rfl, hal⟩
    · simp only [decide_eq_false c0, Bool.false_and] at hB'
      subst hB'
      unfold Cl.v xv
      go_enter Tryd.func13, Tryd.ntmps13
      go_wp2_with fail
      refine (regC _ _).mono ?_
      rintro e w1 ⟨rfl, rfl⟩
      rw [decide_eq_false c0]
      go_wp2
      go_ret
      exact ⟨rfl, hal⟩
  by_cases e4 : k = 4
  · subst e4
    have hB' : ((decide (0 ≤ a ∧ a < 4)) && (decide (0 ≤ b)) && (decide (b < C.vars)) && (K == 0)) = B := by rw [← hB]; simp [rgt, regB, Bool.decide_and, Bool.and_assoc]
    clear hB
    by_cases c0 : 0 ≤ a ∧ a < 4
    · simp only [decide_eq_true c0, Bool.true_and] at hB'
      by_cases c1 : 0 ≤ b
      · simp only [decide_eq_true c1, Bool.true_and] at hB'
        by_cases c2 : b < C.vars
        · simp only [decide_eq_true c2, Bool.true_and] at hB'
          subst hB'
          unfold Cl.v xv
          go_enter Tryd.func13, Tryd.ntmps13
          go_wp2_with fail
          refine (regC _ _).mono ?_
          rintro e w1 ⟨rfl, rfl⟩
          rw [decide_eq_true c0]
          go_wp2
          go_ret
          exact ⟨rfl, hal⟩
        · simp only [decide_eq_false c2, Bool.false_and] at hB'
          subst hB'
          unfold Cl.v xv
          go_enter Tryd.func13, Tryd.ntmps13
          go_wp2_with fail
          refine (regC _ _).mono ?_
          rintro e w1 ⟨rfl, rfl⟩
          rw [decide_eq_true c0]
          go_wp2
          go_ret
          exact ⟨rfl, hal⟩
      · simp only [decide_eq_false c1, Bool.false_and] at hB'
        subst hB'
        unfold Cl.v xv
        go_enter Tryd.func13, Tryd.ntmps13
        go_wp2_with fail
        refine (regC _ _).mono ?_
        rintro e w1 ⟨rfl, rfl⟩
        rw [decide_eq_true c0]
        go_wp2
        go_ret
        exact ⟨rfl, hal⟩
    · simp only [decide_eq_false c0, Bool.false_and] at hB'
      subst hB'
      unfold Cl.v xv
      go_enter Tryd.func13, Tryd.ntmps13
      go_wp2_with fail
      refine (regC _ _).mono ?_
      rintro e w1 ⟨rfl, rfl⟩
      rw [decide_eq_false c0]
      go_wp2
      go_ret
      exact ⟨rfl, hal⟩
  by_cases e5 : k = 5
  · subst e5
    have hB' : ((decide (0 ≤ a ∧ a < 4)) && (b == 0) && (K == 0)) = B := by rw [← hB]; simp [rgt, regB, Bool.decide_and, Bool.and_assoc]
    clear hB
    by_cases c0 : 0 ≤ a ∧ a < 4
    · simp only [decide_eq_true c0, Bool.true_and] at hB'
      by_cases c1 : b = 0
      · have q1 : (b == 0) = true := by simp [c1]
        rw [q1, Bool.true_and] at hB'
        clear c1
        subst hB'
        unfold Cl.v xv
        go_enter Tryd.func13, Tryd.ntmps13
        go_wp2_with fail
        refine (regC _ _).mono ?_
        rintro e w1 ⟨rfl, rfl⟩
        rw [decide_eq_true c0]
        go_wp2
        go_ret
        exact ⟨rfl, hal⟩
      · have q1 : (b == 0) = false := by simp [c1]
        simp only [q1, Bool.false_and] at hB'
        clear c1
        subst hB'
        unfold Cl.v xv
        go_enter Tryd.func13, Tryd.ntmps13
        go_wp2_with fail
        refine (regC _ _).mono ?_
        rintro e w1 ⟨rfl, rfl⟩
        rw [decide_eq_true c0]
        go_wp2
        go_ret
        exact ⟨rfl, hal⟩
    · simp only [decide_eq_false c0, Bool.false_and] at hB'
      subst hB'
      unfold Cl.v xv
      go_enter Tryd.func13, Tryd.ntmps13
      go_wp2_with fail
      refine (regC _ _).mono ?_
      rintro e w1 ⟨rfl, rfl⟩
      rw [decide_eq_false c0]
      go_wp2
      go_ret
      exact ⟨rfl, hal⟩
  by_cases e6 : k = 6
  · subst e6
    have hB' : ((a == 0) && (b == 0) && (K == 0)) = B := by rw [← hB]; simp [rgt, regB, Bool.decide_and, Bool.and_assoc]
    clear hB
    by_cases c0 : a = 0
    · have q0 : (a == 0) = true := by simp [c0]
      rw [q0, Bool.true_and] at hB'
      clear c0
      by_cases c1 : b = 0
      · have q1 : (b == 0) = true := by simp [c1]
        rw [q1, Bool.true_and] at hB'
        clear c1
        subst hB'
        unfold Cl.v xv
        go_enter Tryd.func13, Tryd.ntmps13
        go_wp2
        go_ret
        exact ⟨rfl, hal⟩
      · have q1 : (b == 0) = false := by simp [c1]
        simp only [q1, Bool.false_and] at hB'
        clear c1
        subst hB'
        unfold Cl.v xv
        go_enter Tryd.func13, Tryd.ntmps13
        go_wp2
        go_ret
        exact ⟨rfl, hal⟩
    · have q0 : (a == 0) = false := by simp [c0]
      simp only [q0, Bool.false_and] at hB'
      clear c0
      subst hB'
      unfold Cl.v xv
      go_enter Tryd.func13, Tryd.ntmps13
      go_wp2
      go_ret
      exact ⟨rfl, hal⟩
  obtain rfl : B = false := by rw [← hB]; simp [rgt, e1, e2, e3, e4, e5, e6, e7]
  have q1 : (k == 1) = false := by simp [e1]
  have q2 : (k == 2) = false := by simp [e2]
  have q3 : (k == 3) = false := by simp [e3]
  have q4 : (k == 4) = false := by simp [e4]
  have q5 : (k == 5) = false := by simp [e5]
  have q6 : (k == 6) = false := by simp [e6]
  have q7 : (k == 7) = false := by simp [e7]
  clear e1 e2 e3 e4 e5 e6 e7 hB
  unfold Cl.v xv
  go_enter Tryd.func13, Tryd.ntmps13
  go_wp2
  go_ret
  exact ⟨rfl, hal⟩
end Go.Proofs.YtlcoealfnlakhaaDoor
