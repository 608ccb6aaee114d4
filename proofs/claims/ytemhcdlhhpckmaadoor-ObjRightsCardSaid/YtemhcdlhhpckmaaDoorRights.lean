/- The law ObjRights: the walk. -/
import Derived.Test.YtemhcdlhhpckmaaDoorOOwner
namespace Go.Proofs.YtemhcdlhhpckmaaDoor
open Go.RowKit
set_option linter.unusedVariables false
set_option linter.unusedSimpArgs false
set_option maxRecDepth 100000 in
set_option maxHeartbeats 4000000 in
theorem rights_walk (x : O) (t : Int) (w : World) (h : NmW w) :
    Calls Tryd.prog 4 #[ov x, .int .i64 t] w fun e w' => e = .returned (.bool true) ∧ Below w.heap.size w w' := by
  have hal := (Below.refl w.heap.size w).alloc (Nat.le_refl _) (.cells #[.int .i64 x.k, .int .i64 x.n, .int .i64 x.a, .int .i64 x.b] 27)
  have X := heap_alloc_new w (.cells #[.int .i64 x.k, .int .i64 x.n, .int .i64 x.a, .int .i64 x.b] 27)
  replace h := h.below hal
  have hR := refRight x t
  have hO := objRight x t
  have hW1 := objOwner x
  have hW2 := refOwner x.k
  have hL := lockOf x.k
  unfold ov at *
  go_enter Tryd.func4, Tryd.ntmps4
  go_wp2_with fail
  refine (awake _ h).mono ?_
  rintro e w1 ⟨rfl, hb1⟩
  replace h := h.below hb1
  replace X := keep X hb1
  have hB := hal.trans (hb1.mono hal.size)
  clear hal hb1
  have x0 := cell_of_row w1 _ 0 _ 27 _ X
  have x1 := cell_of_row w1 _ 1 _ 27 _ X
  have x2 := cell_of_row w1 _ 2 _ 27 _ X
  have x3 := cell_of_row w1 _ 3 _ 27 _ X
  go_wp2_with fail
  refine (hR _).mono ?_
  rintro e w2 ⟨rfl, hb2⟩
  replace h := h.below hb2
  replace X := keep X hb2
  replace hB := hB.trans (hb2.mono hB.size)
  clear hb2 x0 x1 x2 x3 hR
  go_upto_region 4 with (fail)
  go_cut [38] (fun s38 wx => s38 = .bool false ∧ Below w2.heap.size w2 wx)
  case first =>
    have hrr : (rb x t != rb x t) = false := by simp
    have hoo : (ownV x.k != ownV x.k) = false := by simp
    have hOr : ∀ w', Below w2.heap.size w2 w' → Calls Tryd.prog 11 #[.agg #[.int .i64 x.k, .int .i64 x.n, .int .i64 x.a, .int .i64 x.b], .int .i64 t] w' fun e w'' => e = .returned (.bool (rb x t)) ∧ Below w2.heap.size w2 w'' := fun w' h' => (hO w' (h.below h')).mono fun e w'' hh => ⟨hh.1, h'.trans (hh.2.mono h'.size)⟩
    by_cases k1 : 1 ≤ x.k
    · by_cases k2 : x.k ≤ 10
      · rw [decide_eq_true k1, decide_eq_true k2] at hL
        refine quiet_all (fun w' => Below w2.heap.size w2 w') (by kernel_rfl) (by kernel_rfl) (Below.drew (Below.refl _ _)) ?_
        refine q_run rfl (fun K hK => ?_)
        refine q_load 27 (.tmp 2) rfl _ rfl _ #[.int .i64 x.k, .int .i64 x.n, .int .i64 x.a, .int .i64 x.b] (0, 0) _ (fun w' h' => keep X h') Tryd.underlying27 rfl (by kernel_rfl) ?_
        go_simp
        refine hK _ ?_
        clear hK K
        refine q_run rfl (fun K hK => ?_)
        refine q_value ?_ (fun w' h' => ?_) ?_
        rotate_left
        · go_simp; try with_reducible rfl
        go_simp
        refine hK _ ?_
        clear hK K
        refine q_run rfl (fun K hK => ?_)
        refine q_enter 11 #[.agg #[.int .i64 x.k, .int .i64 x.n, .int .i64 x.a, .int .i64 x.b], .int .i64 t] (.bool (rb x t)) (fun w' => ?_) hOr ?_
        · first | (go_simp; done) | (go_simp; rfl)
        go_simp
        refine hK _ ?_
        clear hK K
        refine q_run rfl (fun K hK => ?_)
        refine q_value ?_ (fun w' h' => ?_) ?_
        rotate_left
        · go_simp; try with_reducible rfl
        go_simp
        refine hK _ ?_
        clear hK K
        refine q_run rfl (fun K hK => ?_)
        refine q_value ?_ (fun w' h' => ?_) ?_
        rotate_left
        · go_simp; try with_reducible rfl
        go_simp
        refine hK _ ?_
        clear hK K
        refine q_run rfl (fun K hK => ?_)
        refine q_value ?_ (fun w' h' => ?_) ?_
        rotate_left
        · go_simp; try with_reducible rfl
        go_simp
        refine hK _ ?_
        clear hK K
        refine q_run rfl (fun K hK => ?_)
        refine q_load 27 (.tmp 2) rfl _ rfl _ #[.int .i64 x.k, .int .i64 x.n, .int .i64 x.a, .int .i64 x.b] (0, 0) _ (fun w' h' => keep X h') Tryd.underlying27 rfl (by kernel_rfl) ?_
        go_simp
        refine hK _ ?_
        clear hK K
        refine q_run rfl (fun K hK => ?_)
        refine q_call (Nat.le_refl _) hW1 (fun w' => ?_) ?_
        · first | (go_simp; done) | (go_simp; rfl)
        go_simp
        refine hK _ ?_
        clear hK K
        refine q_run rfl (fun K hK => ?_)
        refine q_value ?_ (fun w' h' => ?_) ?_
        rotate_left
        · go_simp; try with_reducible rfl
        go_simp
        refine hK _ ?_
        clear hK K
        refine q_run rfl (fun K hK => ?_)
        refine q_value ?_ (fun w' h' => ?_) ?_
        rotate_left
        · have c := cell_of_row w' _ 0 _ 27 _ (keep X h'); go_simp; try with_reducible rfl
        go_simp
        refine hK _ ?_
        clear hK K
        refine q_run rfl (fun K hK => ?_)
        refine q_call (Nat.le_refl _) hW2 (fun w' => ?_) ?_
        · first | (go_simp; done) | (go_simp; rfl)
        go_simp
        refine hK _ ?_
        clear hK K
        refine q_run rfl (fun K hK => ?_)
        refine q_value ?_ (fun w' h' => ?_) ?_
        rotate_left
        · go_simp; try with_reducible rfl
        go_simp
        refine hK _ ?_
        clear hK K
        refine q_run rfl (fun K hK => ?_)
        refine q_value ?_ (fun w' h' => ?_) ?_
        rotate_left
        · go_simp; try with_reducible rfl
        go_simp
        refine hK _ ?_
        clear hK K
        refine q_run rfl (fun K hK => ?_)
        refine q_value ?_ (fun w' h' => ?_) ?_
        rotate_left
        · go_simp; try with_reducible rfl
        go_simp
        refine hK _ ?_
        clear hK K
        refine q_run rfl (fun K hK => ?_)
        refine q_value ?_ (fun w' h' => ?_) ?_
        rotate_left
        · go_simp; try with_reducible rfl
        go_simp
        refine hK _ ?_
        clear hK K
        refine q_run rfl (fun K hK => ?_)
        refine q_value ?_ (fun w' h' => ?_) ?_
        rotate_left
        · have c := cell_of_row w' _ 0 _ 27 _ (keep X h'); go_simp; try with_reducible rfl
        go_simp
        refine hK _ ?_
        clear hK K
        refine q_run rfl (fun K hK => ?_)
        refine q_call (Nat.le_refl _) hL (fun w' => ?_) ?_
        · first | (go_simp; done) | (go_simp; rfl)
        go_simp
        refine hK _ ?_
        clear hK K
        refine q_run rfl (fun K hK => ?_)
        refine q_value ?_ (fun w' h' => ?_) ?_
        rotate_left
        · go_simp; try with_reducible rfl
        go_simp
        refine hK _ ?_
        clear hK K
        refine q_run rfl (fun K hK => ?_)
        refine q_value ?_ (fun w' h' => ?_) ?_
        rotate_left
        · have c := cell_of_row w' _ 0 _ 27 _ (keep X h'); go_simp; try with_reducible rfl
        go_simp
        refine hK _ ?_
        clear hK K
        refine q_run rfl (fun K hK => ?_)
        refine q_value ?_ (fun w' h' => ?_) ?_
        rotate_left
        · go_simp; try with_reducible rfl
        go_simp
        refine hK _ ?_
        clear hK K
        refine q_run rfl (fun K hK => ?_)
        refine q_value ?_ (fun w' h' => ?_) ?_
        rotate_left
        · go_simp; try with_reducible rfl
        go_simp
        refine hK _ ?_
        clear hK K
        refine q_run rfl (fun K hK => ?_)
        refine q_value ?_ (fun w' h' => ?_) ?_
        rotate_left
        · go_simp; try with_reducible rfl
        go_simp
        refine hK _ ?_
        clear hK K
        refine q_run rfl (fun K hK => ?_)
        refine q_value ?_ (fun w' h' => ?_) ?_
        rotate_left
        · have c := cell_of_row w' _ 0 _ 27 _ (keep X h'); go_simp; try with_reducible rfl
        go_simp
        refine hK _ ?_
        clear hK K
        refine q_run rfl (fun K hK => ?_)
        refine q_value ?_ (fun w' h' => ?_) ?_
        rotate_left
        · go_simp; try with_reducible rfl
        go_simp
        refine hK _ ?_
        clear hK K
        refine q_run rfl (fun K hK => ?_)
        refine q_value ?_ (fun w' h' => ?_) ?_
        rotate_left
        · go_simp; try with_reducible rfl
        go_simp
        refine hK _ ?_
        clear hK K
        refine q_run rfl (fun K hK => ?_)
        refine q_value ?_ (fun w' h' => ?_) ?_
        rotate_left
        · go_simp; try with_reducible rfl
        go_simp
        refine hK _ ?_
        clear hK K
        refine q_run rfl (fun K hK => ?_)
        refine q_value ?_ (fun w' h' => ?_) ?_
        rotate_left
        · go_simp; try with_reducible rfl
        go_simp
        refine hK _ ?_
        clear hK K
        refine qd_nil ?_
        intro w8 h8
        go_wp2_with (fail)
        go_meet
        exact ⟨rfl, h8⟩
      · rw [decide_eq_true k1, decide_eq_false k2] at hL
        refine quiet_all (fun w' => Below w2.heap.size w2 w') (by kernel_rfl) (by kernel_rfl) (Below.drew (Below.refl _ _)) ?_
        refine q_run rfl (fun K hK => ?_)
        refine q_load 27 (.tmp 2) rfl _ rfl _ #[.int .i64 x.k, .int .i64 x.n, .int .i64 x.a, .int .i64 x.b] (0, 0) _ (fun w' h' => keep X h') Tryd.underlying27 rfl (by kernel_rfl) ?_
        go_simp
        refine hK _ ?_
        clear hK K
        refine q_run rfl (fun K hK => ?_)
        refine q_value ?_ (fun w' h' => ?_) ?_
        rotate_left
        · go_simp; try with_reducible rfl
        go_simp
        refine hK _ ?_
        clear hK K
        refine q_run rfl (fun K hK => ?_)
        refine q_enter 11 #[.agg #[.int .i64 x.k, .int .i64 x.n, .int .i64 x.a, .int .i64 x.b], .int .i64 t] (.bool (rb x t)) (fun w' => ?_) hOr ?_
        · first | (go_simp; done) | (go_simp; rfl)
        go_simp
        refine hK _ ?_
        clear hK K
        refine q_run rfl (fun K hK => ?_)
        refine q_value ?_ (fun w' h' => ?_) ?_
        rotate_left
        · go_simp; try with_reducible rfl
        go_simp
        refine hK _ ?_
        clear hK K
        refine q_run rfl (fun K hK => ?_)
        refine q_value ?_ (fun w' h' => ?_) ?_
        rotate_left
        · go_simp; try with_reducible rfl
        go_simp
        refine hK _ ?_
        clear hK K
        refine q_run rfl (fun K hK => ?_)
        refine q_value ?_ (fun w' h' => ?_) ?_
        rotate_left
        · go_simp; try with_reducible rfl
        go_simp
        refine hK _ ?_
        clear hK K
        refine q_run rfl (fun K hK => ?_)
        refine q_load 27 (.tmp 2) rfl _ rfl _ #[.int .i64 x.k, .int .i64 x.n, .int .i64 x.a, .int .i64 x.b] (0, 0) _ (fun w' h' => keep X h') Tryd.underlying27 rfl (by kernel_rfl) ?_
        go_simp
        refine hK _ ?_
        clear hK K
        refine q_run rfl (fun K hK => ?_)
        refine q_call (Nat.le_refl _) hW1 (fun w' => ?_) ?_
        · first | (go_simp; done) | (go_simp; rfl)
        go_simp
        refine hK _ ?_
        clear hK K
        refine q_run rfl (fun K hK => ?_)
        refine q_value ?_ (fun w' h' => ?_) ?_
        rotate_left
        · go_simp; try with_reducible rfl
        go_simp
        refine hK _ ?_
        clear hK K
        refine q_run rfl (fun K hK => ?_)
        refine q_value ?_ (fun w' h' => ?_) ?_
        rotate_left
        · have c := cell_of_row w' _ 0 _ 27 _ (keep X h'); go_simp; try with_reducible rfl
        go_simp
        refine hK _ ?_
        clear hK K
        refine q_run rfl (fun K hK => ?_)
        refine q_call (Nat.le_refl _) hW2 (fun w' => ?_) ?_
        · first | (go_simp; done) | (go_simp; rfl)
        go_simp
        refine hK _ ?_
        clear hK K
        refine q_run rfl (fun K hK => ?_)
        refine q_value ?_ (fun w' h' => ?_) ?_
        rotate_left
        · go_simp; try with_reducible rfl
        go_simp
        refine hK _ ?_
        clear hK K
        refine q_run rfl (fun K hK => ?_)
        refine q_value ?_ (fun w' h' => ?_) ?_
        rotate_left
        · go_simp; try with_reducible rfl
        go_simp
        refine hK _ ?_
        clear hK K
        refine q_run rfl (fun K hK => ?_)
        refine q_value ?_ (fun w' h' => ?_) ?_
        rotate_left
        · go_simp; try with_reducible rfl
        go_simp
        refine hK _ ?_
        clear hK K
        refine q_run rfl (fun K hK => ?_)
        refine q_value ?_ (fun w' h' => ?_) ?_
        rotate_left
        · go_simp; try with_reducible rfl
        go_simp
        refine hK _ ?_
        clear hK K
        refine q_run rfl (fun K hK => ?_)
        refine q_value ?_ (fun w' h' => ?_) ?_
        rotate_left
        · have c := cell_of_row w' _ 0 _ 27 _ (keep X h'); go_simp; try with_reducible rfl
        go_simp
        refine hK _ ?_
        clear hK K
        refine q_run rfl (fun K hK => ?_)
        refine q_call (Nat.le_refl _) hL (fun w' => ?_) ?_
        · first | (go_simp; done) | (go_simp; rfl)
        go_simp
        refine hK _ ?_
        clear hK K
        refine q_run rfl (fun K hK => ?_)
        refine q_value ?_ (fun w' h' => ?_) ?_
        rotate_left
        · go_simp; try with_reducible rfl
        go_simp
        refine hK _ ?_
        clear hK K
        refine q_run rfl (fun K hK => ?_)
        refine q_value ?_ (fun w' h' => ?_) ?_
        rotate_left
        · have c := cell_of_row w' _ 0 _ 27 _ (keep X h'); go_simp; try with_reducible rfl
        go_simp
        refine hK _ ?_
        clear hK K
        refine q_run rfl (fun K hK => ?_)
        refine q_value ?_ (fun w' h' => ?_) ?_
        rotate_left
        · go_simp; try with_reducible rfl
        go_simp
        refine hK _ ?_
        clear hK K
        refine q_run rfl (fun K hK => ?_)
        refine q_value ?_ (fun w' h' => ?_) ?_
        rotate_left
        · go_simp; try with_reducible rfl
        go_simp
        refine hK _ ?_
        clear hK K
        refine q_run rfl (fun K hK => ?_)
        refine q_value ?_ (fun w' h' => ?_) ?_
        rotate_left
        · go_simp; try with_reducible rfl
        go_simp
        refine hK _ ?_
        clear hK K
        refine q_run rfl (fun K hK => ?_)
        refine q_value ?_ (fun w' h' => ?_) ?_
        rotate_left
        · have c := cell_of_row w' _ 0 _ 27 _ (keep X h'); go_simp; try with_reducible rfl
        go_simp
        refine hK _ ?_
        clear hK K
        refine q_run rfl (fun K hK => ?_)
        refine q_value ?_ (fun w' h' => ?_) ?_
        rotate_left
        · go_simp; try with_reducible rfl
        go_simp
        refine hK _ ?_
        clear hK K
        refine q_run rfl (fun K hK => ?_)
        refine q_value ?_ (fun w' h' => ?_) ?_
        rotate_left
        · go_simp; try with_reducible rfl
        go_simp
        refine hK _ ?_
        clear hK K
        refine q_run rfl (fun K hK => ?_)
        refine q_value ?_ (fun w' h' => ?_) ?_
        rotate_left
        · go_simp; try with_reducible rfl
        go_simp
        refine hK _ ?_
        clear hK K
        refine q_run rfl (fun K hK => ?_)
        refine q_value ?_ (fun w' h' => ?_) ?_
        rotate_left
        · go_simp; try with_reducible rfl
        go_simp
        refine hK _ ?_
        clear hK K
        refine qd_nil ?_
        intro w8 h8
        go_wp2_with (fail)
        go_meet
        exact ⟨rfl, h8⟩
    · rw [decide_eq_false k1] at hL
      refine quiet_all (fun w' => Below w2.heap.size w2 w') (by kernel_rfl) (by kernel_rfl) (Below.drew (Below.refl _ _)) ?_
      refine q_run rfl (fun K hK => ?_)
      refine q_load 27 (.tmp 2) rfl _ rfl _ #[.int .i64 x.k, .int .i64 x.n, .int .i64 x.a, .int .i64 x.b] (0, 0) _ (fun w' h' => keep X h') Tryd.underlying27 rfl (by kernel_rfl) ?_
      go_simp
      refine hK _ ?_
      clear hK K
      refine q_run rfl (fun K hK => ?_)
      refine q_value ?_ (fun w' h' => ?_) ?_
      rotate_left
      · go_simp; try with_reducible rfl
      go_simp
      refine hK _ ?_
      clear hK K
      refine q_run rfl (fun K hK => ?_)
      refine q_enter 11 #[.agg #[.int .i64 x.k, .int .i64 x.n, .int .i64 x.a, .int .i64 x.b], .int .i64 t] (.bool (rb x t)) (fun w' => ?_) hOr ?_
      · first | (go_simp; done) | (go_simp; rfl)
      go_simp
      refine hK _ ?_
      clear hK K
      refine q_run rfl (fun K hK => ?_)
      refine q_value ?_ (fun w' h' => ?_) ?_
      rotate_left
      · go_simp; try with_reducible rfl
      go_simp
      refine hK _ ?_
      clear hK K
      refine q_run rfl (fun K hK => ?_)
      refine q_value ?_ (fun w' h' => ?_) ?_
      rotate_left
      · go_simp; try with_reducible rfl
      go_simp
      refine hK _ ?_
      clear hK K
      refine q_run rfl (fun K hK => ?_)
      refine q_value ?_ (fun w' h' => ?_) ?_
      rotate_left
      · go_simp; try with_reducible rfl
      go_simp
      refine hK _ ?_
      clear hK K
      refine q_run rfl (fun K hK => ?_)
      refine q_load 27 (.tmp 2) rfl _ rfl _ #[.int .i64 x.k, .int .i64 x.n, .int .i64 x.a, .int .i64 x.b] (0, 0) _ (fun w' h' => keep X h') Tryd.underlying27 rfl (by kernel_rfl) ?_
      go_simp
      refine hK _ ?_
      clear hK K
      refine q_run rfl (fun K hK => ?_)
      refine q_call (Nat.le_refl _) hW1 (fun w' => ?_) ?_
      · first | (go_simp; done) | (go_simp; rfl)
      go_simp
      refine hK _ ?_
      clear hK K
      refine q_run rfl (fun K hK => ?_)
      refine q_value ?_ (fun w' h' => ?_) ?_
      rotate_left
      · go_simp; try with_reducible rfl
      go_simp
      refine hK _ ?_
      clear hK K
      refine q_run rfl (fun K hK => ?_)
      refine q_value ?_ (fun w' h' => ?_) ?_
      rotate_left
      · have c := cell_of_row w' _ 0 _ 27 _ (keep X h'); go_simp; try with_reducible rfl
      go_simp
      refine hK _ ?_
      clear hK K
      refine q_run rfl (fun K hK => ?_)
      refine q_call (Nat.le_refl _) hW2 (fun w' => ?_) ?_
      · first | (go_simp; done) | (go_simp; rfl)
      go_simp
      refine hK _ ?_
      clear hK K
      refine q_run rfl (fun K hK => ?_)
      refine q_value ?_ (fun w' h' => ?_) ?_
      rotate_left
      · go_simp; try with_reducible rfl
      go_simp
      refine hK _ ?_
      clear hK K
      refine q_run rfl (fun K hK => ?_)
      refine q_value ?_ (fun w' h' => ?_) ?_
      rotate_left
      · go_simp; try with_reducible rfl
      go_simp
      refine hK _ ?_
      clear hK K
      refine q_run rfl (fun K hK => ?_)
      refine q_value ?_ (fun w' h' => ?_) ?_
      rotate_left
      · go_simp; try with_reducible rfl
      go_simp
      refine hK _ ?_
      clear hK K
      refine q_run rfl (fun K hK => ?_)
      refine q_value ?_ (fun w' h' => ?_) ?_
      rotate_left
      · go_simp; try with_reducible rfl
      go_simp
      refine hK _ ?_
      clear hK K
      refine q_run rfl (fun K hK => ?_)
      refine q_value ?_ (fun w' h' => ?_) ?_
      rotate_left
      · have c := cell_of_row w' _ 0 _ 27 _ (keep X h'); go_simp; try with_reducible rfl
      go_simp
      refine hK _ ?_
      clear hK K
      refine q_run rfl (fun K hK => ?_)
      refine q_call (Nat.le_refl _) hL (fun w' => ?_) ?_
      · first | (go_simp; done) | (go_simp; rfl)
      go_simp
      refine hK _ ?_
      clear hK K
      refine q_run rfl (fun K hK => ?_)
      refine q_value ?_ (fun w' h' => ?_) ?_
      rotate_left
      · go_simp; try with_reducible rfl
      go_simp
      refine hK _ ?_
      clear hK K
      refine q_run rfl (fun K hK => ?_)
      refine q_value ?_ (fun w' h' => ?_) ?_
      rotate_left
      · have c := cell_of_row w' _ 0 _ 27 _ (keep X h'); go_simp; try with_reducible rfl
      go_simp
      refine hK _ ?_
      clear hK K
      refine q_run rfl (fun K hK => ?_)
      refine q_value ?_ (fun w' h' => ?_) ?_
      rotate_left
      · go_simp; try with_reducible rfl
      go_simp
      refine hK _ ?_
      clear hK K
      refine q_run rfl (fun K hK => ?_)
      refine q_value ?_ (fun w' h' => ?_) ?_
      rotate_left
      · go_simp; try with_reducible rfl
      go_simp
      refine hK _ ?_
      clear hK K
      refine q_skip rfl (fun K hK => ?_)
      go_simp
      refine hK _ ?_
      clear hK K
      refine q_skip rfl (fun K hK => ?_)
      go_simp
      refine hK _ ?_
      clear hK K
      refine q_skip rfl (fun K hK => ?_)
      go_simp
      refine hK _ ?_
      clear hK K
      refine q_run rfl (fun K hK => ?_)
      refine q_value ?_ (fun w' h' => ?_) ?_
      rotate_left
      · go_simp; try with_reducible rfl
      go_simp
      refine hK _ ?_
      clear hK K
      refine q_run rfl (fun K hK => ?_)
      refine q_value ?_ (fun w' h' => ?_) ?_
      rotate_left
      · go_simp; try with_reducible rfl
      go_simp
      refine hK _ ?_
      clear hK K
      refine q_run rfl (fun K hK => ?_)
      refine q_value ?_ (fun w' h' => ?_) ?_
      rotate_left
      · go_simp; try with_reducible rfl
      go_simp
      refine hK _ ?_
      clear hK K
      refine qd_nil ?_
      intro w8 h8
      go_wp2_with (fail)
      go_meet
      exact ⟨rfl, h8⟩
  case rest =>
    obtain ⟨rfl, h5⟩ := hcut
    obtain ⟨w3, hx3⟩ : ∃ x, x = wc := ⟨_, rfl⟩
    subst hx3
    replace h := h.below h5
    replace X := keep X h5
    replace hB := hB.trans (h5.mono hB.size)
    clear h5 hL hW1 hW2 hO
    have x0 := cell_of_row w3 _ 0 _ 27 _ X
    have x1 := cell_of_row w3 _ 1 _ 27 _ X
    have x2 := cell_of_row w3 _ 2 _ 27 _ X
    have x3 := cell_of_row w3 _ 3 _ 27 _ X
    by_cases hP : RP x t
    · have ht1 := hP.1
      rw [rb_t hP]
      obtain ⟨t, rfl⟩ : ∃ j : Nat, t = j := ⟨t.toNat, by omega⟩
      have hF1 := refFirst x t hP
      have hF2 := objFirst x t hP
      have hS := objSize x t
      have hsz : szP x t = (firstL x t).length := by unfold szP; rw [if_pos hP, Int.toNat_natCast]
      have hle := szP_le x t
      rw [hsz] at hS hle
      unfold ov at *
      go_wp2_with fail
      refine (hF1 _).mono ?_
      rintro e w4 ⟨V, c, rfl, hV, hb4⟩
      replace h := h.below hb4
      replace X := keep X hb4
      replace hB := hB.trans (hb4.mono hB.size)
      clear hb4 x0 x1 x2 x3 hF1
      have x0 := cell_of_row w4 _ 0 _ 27 _ X
      have x1 := cell_of_row w4 _ 1 _ 27 _ X
      have x2 := cell_of_row w4 _ 2 _ 27 _ X
      have x3 := cell_of_row w4 _ 3 _ 27 _ X
      go_wp2_with fail
      refine (hF2 _ h).mono ?_
      rintro e w5 ⟨V2, c2, rfl, hV2, hb5⟩
      replace h := h.below hb5
      replace X := keep X hb5
      replace hV := hV.below hb5
      replace hB := hB.trans (hb5.mono hB.size)
      clear hb5 x0 x1 x2 x3 hF2
      go_wp2_with fail
      refine (same V2 V _ c2 c (by omega) _ _ hV2 hV).mono ?_
      rintro e w6 ⟨rfl, hb6⟩
      replace h := h.below hb6
      replace X := keep X hb6
      replace hB := hB.trans (hb6.mono hB.size)
      clear hb6 hV hV2
      have x0 := cell_of_row w6 _ 0 _ 27 _ X
      have x1 := cell_of_row w6 _ 1 _ 27 _ X
      have x2 := cell_of_row w6 _ 2 _ 27 _ X
      have x3 := cell_of_row w6 _ 3 _ 27 _ X
      go_wp2_with fail
      refine (hS _ h).mono ?_
      rintro e w7 ⟨rfl, hb7⟩
      have hee : (((firstL x t).length : Int) == (firstL x t).length) = true := by simp
      go_wp2
      go_ret
      exact ⟨rfl, hB.trans (hb7.mono hB.size)⟩
    · rw [rb_f hP]
      have hF := objFirstN x t hP
      have hS := objSize x t
      have hsz : szP x t = 0 := by unfold szP; rw [if_neg hP]
      rw [hsz] at hS
      unfold ov at *
      go_wp2_with fail
      refine (hF _ h).mono ?_
      rintro e w4 ⟨rfl, hb4⟩
      replace h := h.below hb4
      replace X := keep X hb4
      replace hB := hB.trans (hb4.mono hB.size)
      clear hb4 x0 x1 x2 x3 hF
      have x0 := cell_of_row w4 _ 0 _ 27 _ X
      have x1 := cell_of_row w4 _ 1 _ 27 _ X
      have x2 := cell_of_row w4 _ 2 _ 27 _ X
      have x3 := cell_of_row w4 _ 3 _ 27 _ X
      go_wp2_with fail
      refine (hS _ h).mono ?_
      rintro e w5 ⟨rfl, hb5⟩
      go_wp2
      go_ret
      exact ⟨rfl, hB.trans (hb5.mono hB.size)⟩
end Go.Proofs.YtemhcdlhhpckmaaDoor
