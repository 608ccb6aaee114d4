/- The reference's Right: whatever the object. -/
import Derived.Test.YtobkonbpcnmgpaaDoorORight
namespace Go.Proofs.YtobkonbpcnmgpaaDoor
open Go.RowKit
set_option linter.unusedVariables false
set_option linter.unusedSimpArgs false
set_option maxRecDepth 100000 in
set_option maxHeartbeats 8000000 in
theorem refRight (x : O) (t : Int) (w : World) : Calls Tryd.prog 17 #[ov x, .int .i64 t] w fun e w' => e = .returned (.bool (rb x t)) ∧ Below w.heap.size w w' := by
  obtain ⟨k, n, a, b⟩ := x
  have hal := (Below.refl w.heap.size w).alloc (Nat.le_refl _) (.cells #[.int .i64 k, .int .i64 n, .int .i64 a, .int .i64 b] 48)
  by_cases h1 : t < 1
  · rw [rb_f (show ¬ RP ⟨k, n, a, b⟩ t by simp only [RP]; omega)]
    unfold ov
    go_enter Tryd.func17, Tryd.ntmps17
    go_wp2
    go_ret
    exact ⟨rfl, hal⟩
  by_cases h2 : 8 < t
  · rw [rb_f (show ¬ RP ⟨k, n, a, b⟩ t by simp only [RP]; omega)]
    unfold ov
    go_enter Tryd.func17, Tryd.ntmps17
    go_wp2
    go_ret
    exact ⟨rfl, hal⟩
  by_cases h3 : k < 1
  · rw [rb_f (show ¬ RP ⟨k, n, a, b⟩ t by simp only [RP]; omega)]
    unfold ov
    go_enter Tryd.func17, Tryd.ntmps17
    go_wp2
    go_ret
    exact ⟨rfl, hal⟩
  by_cases h4 : 15 < k
  · rw [rb_f (show ¬ RP ⟨k, n, a, b⟩ t by simp only [RP]; omega)]
    unfold ov
    go_enter Tryd.func17, Tryd.ntmps17
    go_wp2
    go_ret
    exact ⟨rfl, hal⟩
  obtain ⟨B, hB⟩ : ∃ B, Hid (rb ⟨k, n, a, b⟩ t = B) := ⟨_, rfl⟩
  rw [hB.out]
  unfold ov
  go_enter Tryd.func17, Tryd.ntmps17
  go_upto_region 3 with (fail)
  have X := heap_alloc_new w (.cells #[.int .i64 k, .int .i64 n, .int .i64 a, .int .i64 b] 48)
  generalize (w.alloc (.cells #[.int .i64 k, .int .i64 n, .int .i64 a, .int .i64 b] 48)) = W at *
  refine quiet_all (fun w' => Below W.heap.size W w') (by kernel_rfl) (by kernel_rfl) (Below.drew (Below.refl _ _)) ?_
  refine q_run rfl (fun K hK => ?_)
  refine q_value ?_ (fun w' h' => ?_) ?_
  rotate_left
  · go_simp; try with_reducible rfl
  go_simp
  refine hK _ ?_
  clear hK K
  refine q_run rfl (fun K hK => ?_)
  refine q_value ?_ (fun w' h' => ?_) ?_
  rotate_left
  · have c := cell_of_row w' _ 1 _ 48 _ (keep X h'); go_simp; try with_reducible rfl
  go_simp
  refine hK _ ?_
  clear hK K
  refine q_run rfl (fun K hK => ?_)
  refine q_value ?_ (fun w' h' => ?_) ?_
  rotate_left
  · go_simp; try with_reducible rfl
  go_simp
  refine hK _ ?_
  clear hK K
  refine q_run rfl (fun K hK => ?_)
  refine q_value ?_ (fun w' h' => ?_) ?_
  rotate_left
  · go_simp; try with_reducible rfl
  go_simp
  refine hK _ ?_
  clear hK K
  refine q_run rfl (fun K hK => ?_)
  refine q_value ?_ (fun w' h' => ?_) ?_
  rotate_left
  · have c := cell_of_row w' _ 2 _ 48 _ (keep X h'); go_simp; try with_reducible rfl
  go_simp
  refine hK _ ?_
  clear hK K
  refine q_run rfl (fun K hK => ?_)
  refine q_value ?_ (fun w' h' => ?_) ?_
  rotate_left
  · go_simp; try with_reducible rfl
  go_simp
  refine hK _ ?_
  clear hK K
  refine q_run rfl (fun K hK => ?_)
  refine q_value ?_ (fun w' h' => ?_) ?_
  rotate_left
  · go_simp; try with_reducible rfl
  go_simp
  refine hK _ ?_
  clear hK K
  refine q_run rfl (fun K hK => ?_)
  refine q_value ?_ (fun w' h' => ?_) ?_
  rotate_left
  · have c := cell_of_row w' _ 3 _ 48 _ (keep X h'); go_simp; try with_reducible rfl
  go_simp
  refine hK _ ?_
  clear hK K
  refine q_run rfl (fun K hK => ?_)
  refine q_value ?_ (fun w' h' => ?_) ?_
  rotate_left
  · go_simp; try with_reducible rfl
  go_simp
  refine hK _ ?_
  clear hK K
  refine q_run rfl (fun K hK => ?_)
  refine q_value ?_ (fun w' h' => ?_) ?_
  rotate_left
  · go_simp; try with_reducible rfl
  go_simp
  refine hK _ ?_
  clear hK K
  refine q_run rfl (fun K hK => ?_)
  refine q_value ?_ (fun w' h' => ?_) ?_
  rotate_left
  · go_simp; try with_reducible rfl
  go_simp
  refine hK _ ?_
  clear hK K
  refine q_run rfl (fun K hK => ?_)
  refine q_value ?_ (fun w' h' => ?_) ?_
  rotate_left
  · go_simp; try with_reducible rfl
  go_simp
  refine hK _ ?_
  clear hK K
  refine qd_nil ?_
  intro w3 h3
  have X0 := X
  replace X := keep X h3
  replace hal := hal.trans (h3.mono (Nat.le_of_lt (blk_lt X0)))
  clear h3
  have x0 := cell_of_row w3 _ 0 _ 48 _ X
  have x1 := cell_of_row w3 _ 1 _ 48 _ X
  have x2 := cell_of_row w3 _ 2 _ 48 _ X
  have x3 := cell_of_row w3 _ 3 _ 48 _ X
  by_cases e6 : k = 6
  · subst e6
    by_cases pa0 : 0 ≤ a
    · by_cases pa1 : a < t
      · by_cases pb0 : 0 ≤ b
        · by_cases pb1 : b < t
          · by_cases pb2 : a ≠ b
            · have pq : (a != b) = true := by simp [pb2]
              by_cases pn0 : n = 0
              · have dn : (n == 0) = true := by simp [pn0]
                have cn := pn0
                have ca : 0 ≤ a ∧ a < t := ⟨pa0, pa1⟩
                have cb : 0 ≤ b ∧ b < t ∧ a ≠ b := ⟨pb0, pb1, pb2⟩
                obtain rfl : B = true := hB.out.symm.trans (rb_t (show RP ⟨6, n, a, b⟩ t from ⟨by omega, by omega, .inl ⟨.inl rfl, cn, ca.1, Int.le_sub_one_of_lt ca.2, cb.1, Int.le_sub_one_of_lt cb.2.1, cb.2.2⟩⟩))
                go_wp2
                go_ret
                exact ⟨rfl, hal⟩
              · have dn : (n == 0) = false := by simp [pn0]
                obtain rfl : B = false := hB.out.symm.trans (rb_f (show ¬ RP ⟨6, n, a, b⟩ t by simp only [RP]; first | omega | (have := pbh.out; omega)))
                go_wp2
                go_ret
                exact ⟨rfl, hal⟩
            · have pq : (a != b) = false := by simpa using pb2
              have pbh : Hid (¬ a ≠ b) := pb2
              clear pb2
              by_cases pn0 : n = 0
              · have dn : (n == 0) = true := by simp [pn0]
                obtain rfl : B = false := hB.out.symm.trans (rb_f (show ¬ RP ⟨6, n, a, b⟩ t by simp only [RP]; first | omega | (have := pbh.out; omega)))
                go_wp2
                go_ret
                exact ⟨rfl, hal⟩
              · have dn : (n == 0) = false := by simp [pn0]
                obtain rfl : B = false := hB.out.symm.trans (rb_f (show ¬ RP ⟨6, n, a, b⟩ t by simp only [RP]; first | omega | (have := pbh.out; omega)))
                go_wp2
                go_ret
                exact ⟨rfl, hal⟩
          · by_cases pn0 : n = 0
            · have dn : (n == 0) = true := by simp [pn0]
              obtain rfl : B = false := hB.out.symm.trans (rb_f (show ¬ RP ⟨6, n, a, b⟩ t by simp only [RP]; first | omega | (have := pbh.out; omega)))
              go_wp2
              go_ret
              exact ⟨rfl, hal⟩
            · have dn : (n == 0) = false := by simp [pn0]
              obtain rfl : B = false := hB.out.symm.trans (rb_f (show ¬ RP ⟨6, n, a, b⟩ t by simp only [RP]; first | omega | (have := pbh.out; omega)))
              go_wp2
              go_ret
              exact ⟨rfl, hal⟩
        · by_cases pn0 : n = 0
          · have dn : (n == 0) = true := by simp [pn0]
            obtain rfl : B = false := hB.out.symm.trans (rb_f (show ¬ RP ⟨6, n, a, b⟩ t by simp only [RP]; first | omega | (have := pbh.out; omega)))
            go_wp2
            go_ret
            exact ⟨rfl, hal⟩
          · have dn : (n == 0) = false := by simp [pn0]
            obtain rfl : B = false := hB.out.symm.trans (rb_f (show ¬ RP ⟨6, n, a, b⟩ t by simp only [RP]; first | omega | (have := pbh.out; omega)))
            go_wp2
            go_ret
            exact ⟨rfl, hal⟩
      · by_cases pb0 : 0 ≤ b
        · by_cases pb1 : b < t
          · by_cases pb2 : a ≠ b
            · have pq : (a != b) = true := by simp [pb2]
              by_cases pn0 : n = 0
              · have dn : (n == 0) = true := by simp [pn0]
                obtain rfl : B = false := hB.out.symm.trans (rb_f (show ¬ RP ⟨6, n, a, b⟩ t by simp only [RP]; first | omega | (have := pbh.out; omega)))
                go_wp2
                go_ret
                exact ⟨rfl, hal⟩
              · have dn : (n == 0) = false := by simp [pn0]
                obtain rfl : B = false := hB.out.symm.trans (rb_f (show ¬ RP ⟨6, n, a, b⟩ t by simp only [RP]; first | omega | (have := pbh.out; omega)))
                go_wp2
                go_ret
                exact ⟨rfl, hal⟩
            · have pq : (a != b) = false := by simpa using pb2
              have pbh : Hid (¬ a ≠ b) := pb2
              clear pb2
              by_cases pn0 : n = 0
              · have dn : (n == 0) = true := by simp [pn0]
                obtain rfl : B = false := hB.out.symm.trans (rb_f (show ¬ RP ⟨6, n, a, b⟩ t by simp only [RP]; first | omega | (have := pbh.out; omega)))
                go_wp2
                go_ret
                exact ⟨rfl, hal⟩
              · have dn : (n == 0) = false := by simp [pn0]
                obtain rfl : B = false := hB.out.symm.trans (rb_f (show ¬ RP ⟨6, n, a, b⟩ t by simp only [RP]; first | omega | (have := pbh.out; omega)))
                go_wp2
                go_ret
                exact ⟨rfl, hal⟩
          · by_cases pn0 : n = 0
            · have dn : (n == 0) = true := by simp [pn0]
              obtain rfl : B = false := hB.out.symm.trans (rb_f (show ¬ RP ⟨6, n, a, b⟩ t by simp only [RP]; first | omega | (have := pbh.out; omega)))
              go_wp2
              go_ret
              exact ⟨rfl, hal⟩
            · have dn : (n == 0) = false := by simp [pn0]
              obtain rfl : B = false := hB.out.symm.trans (rb_f (show ¬ RP ⟨6, n, a, b⟩ t by simp only [RP]; first | omega | (have := pbh.out; omega)))
              go_wp2
              go_ret
              exact ⟨rfl, hal⟩
        · by_cases pn0 : n = 0
          · have dn : (n == 0) = true := by simp [pn0]
            obtain rfl : B = false := hB.out.symm.trans (rb_f (show ¬ RP ⟨6, n, a, b⟩ t by simp only [RP]; first | omega | (have := pbh.out; omega)))
            go_wp2
            go_ret
            exact ⟨rfl, hal⟩
          · have dn : (n == 0) = false := by simp [pn0]
            obtain rfl : B = false := hB.out.symm.trans (rb_f (show ¬ RP ⟨6, n, a, b⟩ t by simp only [RP]; first | omega | (have := pbh.out; omega)))
            go_wp2
            go_ret
            exact ⟨rfl, hal⟩
    · by_cases pb0 : 0 ≤ b
      · by_cases pb1 : b < t
        · by_cases pb2 : a ≠ b
          · have pq : (a != b) = true := by simp [pb2]
            by_cases pn0 : n = 0
            · have dn : (n == 0) = true := by simp [pn0]
              obtain rfl : B = false := hB.out.symm.trans (rb_f (show ¬ RP ⟨6, n, a, b⟩ t by simp only [RP]; first | omega | (have := pbh.out; omega)))
              go_wp2
              go_ret
              exact ⟨rfl, hal⟩
            · have dn : (n == 0) = false := by simp [pn0]
              obtain rfl : B = false := hB.out.symm.trans (rb_f (show ¬ RP ⟨6, n, a, b⟩ t by simp only [RP]; first | omega | (have := pbh.out; omega)))
              go_wp2
              go_ret
              exact ⟨rfl, hal⟩
          · have pq : (a != b) = false := by simpa using pb2
            have pbh : Hid (¬ a ≠ b) := pb2
            clear pb2
            by_cases pn0 : n = 0
            · have dn : (n == 0) = true := by simp [pn0]
              obtain rfl : B = false := hB.out.symm.trans (rb_f (show ¬ RP ⟨6, n, a, b⟩ t by simp only [RP]; first | omega | (have := pbh.out; omega)))
              go_wp2
              go_ret
              exact ⟨rfl, hal⟩
            · have dn : (n == 0) = false := by simp [pn0]
              obtain rfl : B = false := hB.out.symm.trans (rb_f (show ¬ RP ⟨6, n, a, b⟩ t by simp only [RP]; first | omega | (have := pbh.out; omega)))
              go_wp2
              go_ret
              exact ⟨rfl, hal⟩
        · by_cases pn0 : n = 0
          · have dn : (n == 0) = true := by simp [pn0]
            obtain rfl : B = false := hB.out.symm.trans (rb_f (show ¬ RP ⟨6, n, a, b⟩ t by simp only [RP]; first | omega | (have := pbh.out; omega)))
            go_wp2
            go_ret
            exact ⟨rfl, hal⟩
          · have dn : (n == 0) = false := by simp [pn0]
            obtain rfl : B = false := hB.out.symm.trans (rb_f (show ¬ RP ⟨6, n, a, b⟩ t by simp only [RP]; first | omega | (have := pbh.out; omega)))
            go_wp2
            go_ret
            exact ⟨rfl, hal⟩
      · by_cases pn0 : n = 0
        · have dn : (n == 0) = true := by simp [pn0]
          obtain rfl : B = false := hB.out.symm.trans (rb_f (show ¬ RP ⟨6, n, a, b⟩ t by simp only [RP]; first | omega | (have := pbh.out; omega)))
          go_wp2
          go_ret
          exact ⟨rfl, hal⟩
        · have dn : (n == 0) = false := by simp [pn0]
          obtain rfl : B = false := hB.out.symm.trans (rb_f (show ¬ RP ⟨6, n, a, b⟩ t by simp only [RP]; first | omega | (have := pbh.out; omega)))
          go_wp2
          go_ret
          exact ⟨rfl, hal⟩
  by_cases e7 : k = 7
  · subst e7
    by_cases pa0 : 0 ≤ a
    · by_cases pa1 : a < t
      · by_cases pb0 : 0 ≤ b
        · by_cases pb1 : b < t
          · by_cases pb2 : a ≠ b
            · have pq : (a != b) = true := by simp [pb2]
              by_cases pn0 : n = 0
              · have dn : (n == 0) = true := by simp [pn0]
                have cn := pn0
                have ca : 0 ≤ a ∧ a < t := ⟨pa0, pa1⟩
                have cb : 0 ≤ b ∧ b < t ∧ a ≠ b := ⟨pb0, pb1, pb2⟩
                obtain rfl : B = true := hB.out.symm.trans (rb_t (show RP ⟨7, n, a, b⟩ t from ⟨by omega, by omega, .inl ⟨.inr rfl, cn, ca.1, Int.le_sub_one_of_lt ca.2, cb.1, Int.le_sub_one_of_lt cb.2.1, cb.2.2⟩⟩))
                go_wp2
                go_ret
                exact ⟨rfl, hal⟩
              · have dn : (n == 0) = false := by simp [pn0]
                obtain rfl : B = false := hB.out.symm.trans (rb_f (show ¬ RP ⟨7, n, a, b⟩ t by simp only [RP]; first | omega | (have := pbh.out; omega)))
                go_wp2
                go_ret
                exact ⟨rfl, hal⟩
            · have pq : (a != b) = false := by simpa using pb2
              have pbh : Hid (¬ a ≠ b) := pb2
              clear pb2
              by_cases pn0 : n = 0
              · have dn : (n == 0) = true := by simp [pn0]
                obtain rfl : B = false := hB.out.symm.trans (rb_f (show ¬ RP ⟨7, n, a, b⟩ t by simp only [RP]; first | omega | (have := pbh.out; omega)))
                go_wp2
                go_ret
                exact ⟨rfl, hal⟩
              · have dn : (n == 0) = false := by simp [pn0]
                obtain rfl : B = false := hB.out.symm.trans (rb_f (show ¬ RP ⟨7, n, a, b⟩ t by simp only [RP]; first | omega | (have := pbh.out; omega)))
                go_wp2
                go_ret
                exact ⟨rfl, hal⟩
          · by_cases pn0 : n = 0
            · have dn : (n == 0) = true := by simp [pn0]
              obtain rfl : B = false := hB.out.symm.trans (rb_f (show ¬ RP ⟨7, n, a, b⟩ t by simp only [RP]; first | omega | (have := pbh.out; omega)))
              go_wp2
              go_ret
              exact ⟨rfl, hal⟩
            · have dn : (n == 0) = false := by simp [pn0]
              obtain rfl : B = false := hB.out.symm.trans (rb_f (show ¬ RP ⟨7, n, a, b⟩ t by simp only [RP]; first | omega | (have := pbh.out; omega)))
              go_wp2
              go_ret
              exact ⟨rfl, hal⟩
        · by_cases pn0 : n = 0
          · have dn : (n == 0) = true := by simp [pn0]
            obtain rfl : B = false := hB.out.symm.trans (rb_f (show ¬ RP ⟨7, n, a, b⟩ t by simp only [RP]; first | omega | (have := pbh.out; omega)))
            go_wp2
            go_ret
            exact ⟨rfl, hal⟩
          · have dn : (n == 0) = false := by simp [pn0]
            obtain rfl : B = false := hB.out.symm.trans (rb_f (show ¬ RP ⟨7, n, a, b⟩ t by simp only [RP]; first | omega | (have := pbh.out; omega)))
            go_wp2
            go_ret
            exact ⟨rfl, hal⟩
      · by_cases pb0 : 0 ≤ b
        · by_cases pb1 : b < t
          · by_cases pb2 : a ≠ b
            · have pq : (a != b) = true := by simp [pb2]
              by_cases pn0 : n = 0
              · have dn : (n == 0) = true := by simp [pn0]
                obtain rfl : B = false := hB.out.symm.trans (rb_f (show ¬ RP ⟨7, n, a, b⟩ t by simp only [RP]; first | omega | (have := pbh.out; omega)))
                go_wp2
                go_ret
                exact ⟨rfl, hal⟩
              · have dn : (n == 0) = false := by simp [pn0]
                obtain rfl : B = false := hB.out.symm.trans (rb_f (show ¬ RP ⟨7, n, a, b⟩ t by simp only [RP]; first | omega | (have := pbh.out; omega)))
                go_wp2
                go_ret
                exact ⟨rfl, hal⟩
            · have pq : (a != b) = false := by simpa using pb2
              have pbh : Hid (¬ a ≠ b) := pb2
              clear pb2
              by_cases pn0 : n = 0
              · have dn : (n == 0) = true := by simp [pn0]
                obtain rfl : B = false := hB.out.symm.trans (rb_f (show ¬ RP ⟨7, n, a, b⟩ t by simp only [RP]; first | omega | (have := pbh.out; omega)))
                go_wp2
                go_ret
                exact ⟨rfl, hal⟩
              · have dn : (n == 0) = false := by simp [pn0]
                obtain rfl : B = false := hB.out.symm.trans (rb_f (show ¬ RP ⟨7, n, a, b⟩ t by simp only [RP]; first | omega | (have := pbh.out; omega)))
                go_wp2
                go_ret
                exact ⟨rfl, hal⟩
          · by_cases pn0 : n = 0
            · have dn : (n == 0) = true := by simp [pn0]
              obtain rfl : B = false := hB.out.symm.trans (rb_f (show ¬ RP ⟨7, n, a, b⟩ t by simp only [RP]; first | omega | (have := pbh.out; omega)))
              go_wp2
              go_ret
              exact ⟨rfl, hal⟩
            · have dn : (n == 0) = false := by simp [pn0]
              obtain rfl : B = false := hB.out.symm.trans (rb_f (show ¬ RP ⟨7, n, a, b⟩ t by simp only [RP]; first | omega | (have := pbh.out; omega)))
              go_wp2
              go_ret
              exact ⟨rfl, hal⟩
        · by_cases pn0 : n = 0
          · have dn : (n == 0) = true := by simp [pn0]
            obtain rfl : B = false := hB.out.symm.trans (rb_f (show ¬ RP ⟨7, n, a, b⟩ t by simp only [RP]; first | omega | (have := pbh.out; omega)))
            go_wp2
            go_ret
            exact ⟨rfl, hal⟩
          · have dn : (n == 0) = false := by simp [pn0]
            obtain rfl : B = false := hB.out.symm.trans (rb_f (show ¬ RP ⟨7, n, a, b⟩ t by simp only [RP]; first | omega | (have := pbh.out; omega)))
            go_wp2
            go_ret
            exact ⟨rfl, hal⟩
    · by_cases pb0 : 0 ≤ b
      · by_cases pb1 : b < t
        · by_cases pb2 : a ≠ b
          · have pq : (a != b) = true := by simp [pb2]
            by_cases pn0 : n = 0
            · have dn : (n == 0) = true := by simp [pn0]
              obtain rfl : B = false := hB.out.symm.trans (rb_f (show ¬ RP ⟨7, n, a, b⟩ t by simp only [RP]; first | omega | (have := pbh.out; omega)))
              go_wp2
              go_ret
              exact ⟨rfl, hal⟩
            · have dn : (n == 0) = false := by simp [pn0]
              obtain rfl : B = false := hB.out.symm.trans (rb_f (show ¬ RP ⟨7, n, a, b⟩ t by simp only [RP]; first | omega | (have := pbh.out; omega)))
              go_wp2
              go_ret
              exact ⟨rfl, hal⟩
          · have pq : (a != b) = false := by simpa using pb2
            have pbh : Hid (¬ a ≠ b) := pb2
            clear pb2
            by_cases pn0 : n = 0
            · have dn : (n == 0) = true := by simp [pn0]
              obtain rfl : B = false := hB.out.symm.trans (rb_f (show ¬ RP ⟨7, n, a, b⟩ t by simp only [RP]; first | omega | (have := pbh.out; omega)))
              go_wp2
              go_ret
              exact ⟨rfl, hal⟩
            · have dn : (n == 0) = false := by simp [pn0]
              obtain rfl : B = false := hB.out.symm.trans (rb_f (show ¬ RP ⟨7, n, a, b⟩ t by simp only [RP]; first | omega | (have := pbh.out; omega)))
              go_wp2
              go_ret
              exact ⟨rfl, hal⟩
        · by_cases pn0 : n = 0
          · have dn : (n == 0) = true := by simp [pn0]
            obtain rfl : B = false := hB.out.symm.trans (rb_f (show ¬ RP ⟨7, n, a, b⟩ t by simp only [RP]; first | omega | (have := pbh.out; omega)))
            go_wp2
            go_ret
            exact ⟨rfl, hal⟩
          · have dn : (n == 0) = false := by simp [pn0]
            obtain rfl : B = false := hB.out.symm.trans (rb_f (show ¬ RP ⟨7, n, a, b⟩ t by simp only [RP]; first | omega | (have := pbh.out; omega)))
            go_wp2
            go_ret
            exact ⟨rfl, hal⟩
      · by_cases pn0 : n = 0
        · have dn : (n == 0) = true := by simp [pn0]
          obtain rfl : B = false := hB.out.symm.trans (rb_f (show ¬ RP ⟨7, n, a, b⟩ t by simp only [RP]; first | omega | (have := pbh.out; omega)))
          go_wp2
          go_ret
          exact ⟨rfl, hal⟩
        · have dn : (n == 0) = false := by simp [pn0]
          obtain rfl : B = false := hB.out.symm.trans (rb_f (show ¬ RP ⟨7, n, a, b⟩ t by simp only [RP]; first | omega | (have := pbh.out; omega)))
          go_wp2
          go_ret
          exact ⟨rfl, hal⟩
  by_cases e8 : k = 8
  · subst e8
    by_cases pa0 : 0 ≤ a
    · by_cases pa1 : a < t
      · by_cases pn0 : n = 0
        · have dn : (n == 0) = true := by simp [pn0]
          by_cases pb0 : b = 0
          · have db : (b == 0) = true := by simp [pb0]
            have cn := pn0
            have ca : 0 ≤ a ∧ a < t := ⟨pa0, pa1⟩
            have cb := pb0
            obtain rfl : B = true := hB.out.symm.trans (rb_t (show RP ⟨8, n, a, b⟩ t from ⟨by omega, by omega, .inr (.inl ⟨rfl, cn, ca.1, Int.le_sub_one_of_lt ca.2, cb⟩)⟩))
            go_wp2
            go_ret
            exact ⟨rfl, hal⟩
          · have db : (b == 0) = false := by simp [pb0]
            obtain rfl : B = false := hB.out.symm.trans (rb_f (show ¬ RP ⟨8, n, a, b⟩ t by simp only [RP]; first | omega | (have := pbh.out; omega)))
            go_wp2
            go_ret
            exact ⟨rfl, hal⟩
        · have dn : (n == 0) = false := by simp [pn0]
          obtain rfl : B = false := hB.out.symm.trans (rb_f (show ¬ RP ⟨8, n, a, b⟩ t by simp only [RP]; first | omega | (have := pbh.out; omega)))
          go_wp2
          go_ret
          exact ⟨rfl, hal⟩
      · by_cases pn0 : n = 0
        · have dn : (n == 0) = true := by simp [pn0]
          obtain rfl : B = false := hB.out.symm.trans (rb_f (show ¬ RP ⟨8, n, a, b⟩ t by simp only [RP]; first | omega | (have := pbh.out; omega)))
          go_wp2
          go_ret
          exact ⟨rfl, hal⟩
        · have dn : (n == 0) = false := by simp [pn0]
          obtain rfl : B = false := hB.out.symm.trans (rb_f (show ¬ RP ⟨8, n, a, b⟩ t by simp only [RP]; first | omega | (have := pbh.out; omega)))
          go_wp2
          go_ret
          exact ⟨rfl, hal⟩
    · by_cases pn0 : n = 0
      · have dn : (n == 0) = true := by simp [pn0]
        obtain rfl : B = false := hB.out.symm.trans (rb_f (show ¬ RP ⟨8, n, a, b⟩ t by simp only [RP]; first | omega | (have := pbh.out; omega)))
        go_wp2
        go_ret
        exact ⟨rfl, hal⟩
      · have dn : (n == 0) = false := by simp [pn0]
        obtain rfl : B = false := hB.out.symm.trans (rb_f (show ¬ RP ⟨8, n, a, b⟩ t by simp only [RP]; first | omega | (have := pbh.out; omega)))
        go_wp2
        go_ret
        exact ⟨rfl, hal⟩
  by_cases e9 : k = 9
  · subst e9
    by_cases pn0 : 1 ≤ n
    · by_cases pn1 : n ≤ 3
      · by_cases pa0 : a = 0
        · have da : (a == 0) = true := by simp [pa0]
          by_cases pb0 : b = 0
          · have db : (b == 0) = true := by simp [pb0]
            have cn : 1 ≤ n ∧ n ≤ 3 := ⟨pn0, pn1⟩
            have ca := pa0
            have cb := pb0
            obtain rfl : B = true := hB.out.symm.trans (rb_t (show RP ⟨9, n, a, b⟩ t from ⟨by omega, by omega, .inr (.inr (.inl ⟨rfl, cn.1, cn.2, ca, cb⟩))⟩))
            go_wp2
            go_ret
            exact ⟨rfl, hal⟩
          · have db : (b == 0) = false := by simp [pb0]
            obtain rfl : B = false := hB.out.symm.trans (rb_f (show ¬ RP ⟨9, n, a, b⟩ t by simp only [RP]; first | omega | (have := pbh.out; omega)))
            go_wp2
            go_ret
            exact ⟨rfl, hal⟩
        · have da : (a == 0) = false := by simp [pa0]
          obtain rfl : B = false := hB.out.symm.trans (rb_f (show ¬ RP ⟨9, n, a, b⟩ t by simp only [RP]; first | omega | (have := pbh.out; omega)))
          go_wp2
          go_ret
          exact ⟨rfl, hal⟩
      · obtain rfl : B = false := hB.out.symm.trans (rb_f (show ¬ RP ⟨9, n, a, b⟩ t by simp only [RP]; first | omega | (have := pbh.out; omega)))
        go_wp2
        go_ret
        exact ⟨rfl, hal⟩
    · obtain rfl : B = false := hB.out.symm.trans (rb_f (show ¬ RP ⟨9, n, a, b⟩ t by simp only [RP]; first | omega | (have := pbh.out; omega)))
      go_wp2
      go_ret
      exact ⟨rfl, hal⟩
  by_cases e11 : k = 11
  · subst e11
    by_cases pa0 : 1 ≤ a
    · by_cases pa1 : a ≤ 1000
      · by_cases pn0 : 0 ≤ n
        · by_cases pn1 : n ≤ a
          · by_cases pb0 : b = 0
            · have db : (b == 0) = true := by simp [pb0]
              have cn : 0 ≤ n ∧ n ≤ a := ⟨pn0, pn1⟩
              have ca : 1 ≤ a ∧ a ≤ 1000 := ⟨pa0, pa1⟩
              have cb := pb0
              obtain rfl : B = true := hB.out.symm.trans (rb_t (show RP ⟨11, n, a, b⟩ t from ⟨by omega, by omega, .inr (.inr (.inr (.inl ⟨rfl, ca.1, ca.2, cn.1, cn.2, cb⟩)))⟩))
              go_wp2
              go_ret
              exact ⟨rfl, hal⟩
            · have db : (b == 0) = false := by simp [pb0]
              obtain rfl : B = false := hB.out.symm.trans (rb_f (show ¬ RP ⟨11, n, a, b⟩ t by simp only [RP]; first | omega | (have := pbh.out; omega)))
              go_wp2
              go_ret
              exact ⟨rfl, hal⟩
          · obtain rfl : B = false := hB.out.symm.trans (rb_f (show ¬ RP ⟨11, n, a, b⟩ t by simp only [RP]; first | omega | (have := pbh.out; omega)))
            go_wp2
            go_ret
            exact ⟨rfl, hal⟩
        · obtain rfl : B = false := hB.out.symm.trans (rb_f (show ¬ RP ⟨11, n, a, b⟩ t by simp only [RP]; first | omega | (have := pbh.out; omega)))
          go_wp2
          go_ret
          exact ⟨rfl, hal⟩
      · by_cases pn0 : 0 ≤ n
        · by_cases pn1 : n ≤ a
          · obtain rfl : B = false := hB.out.symm.trans (rb_f (show ¬ RP ⟨11, n, a, b⟩ t by simp only [RP]; first | omega | (have := pbh.out; omega)))
            go_wp2
            go_ret
            exact ⟨rfl, hal⟩
          · obtain rfl : B = false := hB.out.symm.trans (rb_f (show ¬ RP ⟨11, n, a, b⟩ t by simp only [RP]; first | omega | (have := pbh.out; omega)))
            go_wp2
            go_ret
            exact ⟨rfl, hal⟩
        · obtain rfl : B = false := hB.out.symm.trans (rb_f (show ¬ RP ⟨11, n, a, b⟩ t by simp only [RP]; first | omega | (have := pbh.out; omega)))
          go_wp2
          go_ret
          exact ⟨rfl, hal⟩
    · by_cases pn0 : 0 ≤ n
      · by_cases pn1 : n ≤ a
        · obtain rfl : B = false := hB.out.symm.trans (rb_f (show ¬ RP ⟨11, n, a, b⟩ t by simp only [RP]; first | omega | (have := pbh.out; omega)))
          go_wp2
          go_ret
          exact ⟨rfl, hal⟩
        · obtain rfl : B = false := hB.out.symm.trans (rb_f (show ¬ RP ⟨11, n, a, b⟩ t by simp only [RP]; first | omega | (have := pbh.out; omega)))
          go_wp2
          go_ret
          exact ⟨rfl, hal⟩
      · obtain rfl : B = false := hB.out.symm.trans (rb_f (show ¬ RP ⟨11, n, a, b⟩ t by simp only [RP]; first | omega | (have := pbh.out; omega)))
        go_wp2
        go_ret
        exact ⟨rfl, hal⟩
  by_cases e13 : k = 13
  · subst e13
    by_cases pn0 : 1 ≤ n
    · by_cases pn1 : n ≤ t
      · by_cases pa0 : a = 0
        · have da : (a == 0) = true := by simp [pa0]
          by_cases pb0 : b = 0
          · have db : (b == 0) = true := by simp [pb0]
            have cn : 1 ≤ n ∧ n ≤ t := ⟨pn0, pn1⟩
            have ca := pa0
            have cb := pb0
            obtain rfl : B = true := hB.out.symm.trans (rb_t (show RP ⟨13, n, a, b⟩ t from ⟨by omega, by omega, .inr (.inr (.inr (.inr (.inl ⟨rfl, cn.1, cn.2, ca, cb⟩))))⟩))
            go_wp2
            go_ret
            exact ⟨rfl, hal⟩
          · have db : (b == 0) = false := by simp [pb0]
            obtain rfl : B = false := hB.out.symm.trans (rb_f (show ¬ RP ⟨13, n, a, b⟩ t by simp only [RP]; first | omega | (have := pbh.out; omega)))
            go_wp2
            go_ret
            exact ⟨rfl, hal⟩
        · have da : (a == 0) = false := by simp [pa0]
          obtain rfl : B = false := hB.out.symm.trans (rb_f (show ¬ RP ⟨13, n, a, b⟩ t by simp only [RP]; first | omega | (have := pbh.out; omega)))
          go_wp2
          go_ret
          exact ⟨rfl, hal⟩
      · obtain rfl : B = false := hB.out.symm.trans (rb_f (show ¬ RP ⟨13, n, a, b⟩ t by simp only [RP]; first | omega | (have := pbh.out; omega)))
        go_wp2
        go_ret
        exact ⟨rfl, hal⟩
    · obtain rfl : B = false := hB.out.symm.trans (rb_f (show ¬ RP ⟨13, n, a, b⟩ t by simp only [RP]; first | omega | (have := pbh.out; omega)))
      go_wp2
      go_ret
      exact ⟨rfl, hal⟩
  have k6 : (k == 6) = false := by simp [e6]
  have k7 : (k == 7) = false := by simp [e7]
  have k8 : (k == 8) = false := by simp [e8]
  have k9 : (k == 9) = false := by simp [e9]
  have k11 : (k == 11) = false := by simp [e11]
  have k13 : (k == 13) = false := by simp [e13]
  by_cases pn0 : n = 0
  · have dn : (n == 0) = true := by simp [pn0]
    by_cases pa0 : a = 0
    · have da : (a == 0) = true := by simp [pa0]
      by_cases pb0 : b = 0
      · have db : (b == 0) = true := by simp [pb0]
        have cn := pn0
        have ca := pa0
        have cb := pb0
        obtain rfl : B = true := hB.out.symm.trans (rb_t (show RP ⟨k, n, a, b⟩ t from ⟨by omega, by omega, .inr (.inr (.inr (.inr (.inr ⟨by simp only; omega, cn, ca, cb⟩))))⟩))
        go_wp2
        go_ret
        exact ⟨rfl, hal⟩
      · have db : (b == 0) = false := by simp [pb0]
        obtain rfl : B = false := hB.out.symm.trans (rb_f (show ¬ RP ⟨k, n, a, b⟩ t by simp only [RP]; first | omega | (have := pbh.out; omega)))
        go_wp2
        go_ret
        exact ⟨rfl, hal⟩
    · have da : (a == 0) = false := by simp [pa0]
      obtain rfl : B = false := hB.out.symm.trans (rb_f (show ¬ RP ⟨k, n, a, b⟩ t by simp only [RP]; first | omega | (have := pbh.out; omega)))
      go_wp2
      go_ret
      exact ⟨rfl, hal⟩
  · have dn : (n == 0) = false := by simp [pn0]
    obtain rfl : B = false := hB.out.symm.trans (rb_f (show ¬ RP ⟨k, n, a, b⟩ t by simp only [RP]; first | omega | (have := pbh.out; omega)))
    go_wp2
    go_ret
    exact ⟨rfl, hal⟩
end Go.Proofs.YtobkonbpcnmgpaaDoor
