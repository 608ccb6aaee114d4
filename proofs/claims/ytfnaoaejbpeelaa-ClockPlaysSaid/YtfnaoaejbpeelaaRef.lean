/- The reference's Knows, the document's example, and what the answers say of the numbers. -/
import Derived.Test.YtfnaoaejbpeelaaFns
import Derived.Deep.Cut
namespace Go.Proofs.Ytfnaoaejbpeelaa
open Go.RowKit
set_option linter.unusedVariables false
/-! ### what the Bools say -/
theorem all8 (p : Nat → Prop) : (∀ i, i < 8 → p i) ↔ p 0 ∧ p 1 ∧ p 2 ∧ p 3 ∧ p 4 ∧ p 5 ∧ p 6 ∧ p 7 := by
  constructor
  · intro h; exact ⟨h 0 (by omega), h 1 (by omega), h 2 (by omega), h 3 (by omega), h 4 (by omega), h 5 (by omega), h 6 (by omega), h 7 (by omega)⟩
  · rintro ⟨h0, h1, h2, h3, h4, h5, h6, h7⟩ i hi
    have : i = 0 ∨ i = 1 ∨ i = 2 ∨ i = 3 ∨ i = 4 ∨ i = 5 ∨ i = 6 ∨ i = 7 := by omega
    rcases this with rfl | rfl | rfl | rfl | rfl | rfl | rfl | rfl <;> assumption
theorem eqB_iff (f g : Nat → Int) : eqB f g = true ↔ ∀ i, i < 8 → f i = g i := by
  rw [all8]; simp only [eqB, Bool.and_eq_true, beq_iff_eq]
  constructor
  · rintro ⟨⟨⟨⟨⟨⟨⟨h0, h1⟩, h2⟩, h3⟩, h4⟩, h5⟩, h6⟩, h7⟩; exact ⟨h0, h1, h2, h3, h4, h5, h6, h7⟩
  · rintro ⟨h0, h1, h2, h3, h4, h5, h6, h7⟩; exact ⟨⟨⟨⟨⟨⟨⟨h0, h1⟩, h2⟩, h3⟩, h4⟩, h5⟩, h6⟩, h7⟩
theorem mx_left (a b : Int) : mx a b = a ↔ b ≤ a := by unfold mx; split <;> omega
theorem knB_iff (f g : Nat → Int) : knB f g = true ↔ ∀ i, i < 8 → g i ≤ f i := by
  unfold knB; rw [eqB_iff]
  exact ⟨fun h i hi => (mx_left _ _).1 (h i hi), fun h i hi => (mx_left _ _).2 (h i hi)⟩
def rkB (f g : Nat → Int) : Bool := decide (g 0 ≤ f 0) && decide (g 1 ≤ f 1) && decide (g 2 ≤ f 2) && decide (g 3 ≤ f 3) && decide (g 4 ≤ f 4) && decide (g 5 ≤ f 5) && decide (g 6 ≤ f 6) && decide (g 7 ≤ f 7)
theorem rkB_iff (f g : Nat → Int) : rkB f g = true ↔ ∀ i, i < 8 → g i ≤ f i := by
  rw [all8]; simp only [rkB, Bool.and_eq_true, decide_eq_true_eq]
  constructor
  · rintro ⟨⟨⟨⟨⟨⟨⟨h0, h1⟩, h2⟩, h3⟩, h4⟩, h5⟩, h6⟩, h7⟩; exact ⟨h0, h1, h2, h3, h4, h5, h6, h7⟩
  · rintro ⟨h0, h1, h2, h3, h4, h5, h6, h7⟩; exact ⟨⟨⟨⟨⟨⟨⟨h0, h1⟩, h2⟩, h3⟩, h4⟩, h5⟩, h6⟩, h7⟩
theorem rk_kn (f g : Nat → Int) : rkB f g = knB f g := by rw [Bool.eq_iff_iff, rkB_iff, knB_iff]
theorem vc_at (f : Nat → Int) (i : Nat) (h : i < 8) : (vc f)[i]? = some (.int .u32 (f i)) := by
  have : i = 0 ∨ i = 1 ∨ i = 2 ∨ i = 3 ∨ i = 4 ∨ i = 5 ∨ i = 6 ∨ i = 7 := by omega
  rcases this with rfl | rfl | rfl | rfl | rfl | rfl | rfl | rfl <;> rfl
/-! ### the reference's Knows -/
set_option maxHeartbeats 400000 in
theorem refKnows' (f g : Nat → Int) (w : World) : Calls Try.prog 11 #[.agg (vc f), .agg (vc g)] w fun e w' => e = .returned (.bool (rkB f g)) ∧ Below w.heap.size w w' := by
  go_enter Try.func11, Try.ntmps11
  go_wp2_with fail
  have hA : ((w.alloc (.cells (vc f) 23)).alloc (.cells (vc g) 23)).heap[w.heap.size]? = some (.cells (vc f) 23) := heap_alloc2_old _ _ _
  have hB : ((w.alloc (.cells (vc f) 23)).alloc (.cells (vc g) 23)).heap[w.heap.size + 1]? = some (.cells (vc g) 23) := heap_alloc2_new _ _ _
  have hw := below2 w (.cells (vc f) 23) (.cells (vc g) 23)
  go_loopw [5] (fun i wr => ∃ k : Nat, k ≤ 8 ∧ i = .int .i64 k ∧ (∀ j, j < k → g j ≤ f j) ∧ Below (w.heap.size + 2) ((w.alloc (.cells (vc f) 23)).alloc (.cells (vc g) 23)) wr) (fun i _ => 8 - (intOf i).toNat)
  case atStart => exact ⟨0, by omega, rfl, fun j h => absurd h (by omega), Below.refl _ _⟩
  case round =>
    obtain ⟨k, hk, rfl, hj, hb⟩ := hrel
    by_cases hlt : k < 8
    · have hl : (k : Int) < 8 := by omega
      have hl0 : (0 : Int) ≤ k := by omega
      go_upto_region 4 with (fail)
      refine quiet_all (fun w' => Below (w.heap.size + 2) ((w.alloc (.cells (vc f) 23)).alloc (.cells (vc g) 23)) w') (by kernel_rfl) (by kernel_rfl) (Below.drew hb) ?_
      refine q_run rfl (fun K hK => ?_)
      refine q_value ?_ (fun w' h' => ?_) ?_
      rotate_left
      · go_simp; try with_reducible rfl
      go_simp
      refine hK _ ?_
      clear hK K
      refine q_run rfl (fun K hK => ?_)
      refine q_value ?_ (fun w' h' => ?_) ?_
      rotate_left
      · go_simp; try with_reducible rfl
      go_simp
      refine hK _ ?_
      clear hK K
      refine q_run rfl (fun K hK => ?_)
      refine q_value ?_ (fun w' h' => ?_) ?_
      rotate_left
      · have c := cell_of_row w' _ k _ _ _ (blk_below hA h' (by omega)); rw [vc_at f k hlt] at c; go_simp; with_reducible rfl
      go_simp
      refine hK _ ?_
      clear hK K
      refine q_run rfl (fun K hK => ?_)
      refine q_value ?_ (fun w' h' => ?_) ?_
      rotate_left
      · go_simp; try with_reducible rfl
      go_simp
      refine hK _ ?_
      clear hK K
      refine q_run rfl (fun K hK => ?_)
      refine q_value ?_ (fun w' h' => ?_) ?_
      rotate_left
      · go_simp; try with_reducible rfl
      go_simp
      refine hK _ ?_
      clear hK K
      refine q_run rfl (fun K hK => ?_)
      refine q_value ?_ (fun w' h' => ?_) ?_
      rotate_left
      · have c := cell_of_row w' _ k _ _ _ (blk_below hB h' (by omega)); rw [vc_at g k hlt] at c; go_simp; with_reducible rfl
      go_simp
      refine hK _ ?_
      clear hK K
      refine q_run rfl (fun K hK => ?_)
      refine q_value ?_ (fun w' h' => ?_) ?_
      rotate_left
      · go_simp; try with_reducible rfl
      go_simp
      refine hK _ ?_
      clear hK K
      refine wpQuiet_nil ?_
      intro w1 h1
      by_cases hfg : f k < g k
      · go_wp2
        go_ret
        have hn : rkB f g = false := by
          rw [← Bool.not_eq_true, rkB_iff]; intro h; have := h k hlt; omega
        exact ⟨by rw [hn]; rfl, hw.trans (h1.mono (by omega))⟩
      · go_wp2
        go_roundw
        case rel => exact ⟨k + 1, by omega, by go_num, fun j hjk => by
          by_cases e : j = k
          · subst e; omega
          · exact hj j (by omega), h1⟩
        case measure => simp [intOf]; omega
    · have hl : ¬ (k : Int) < 8 := by omega
      go_wp2
      go_ret
      have hy : rkB f g = true := by
        rw [rkB_iff]; intro i hi; exact hj i (by omega)
      exact ⟨by rw [hy]; rfl, hw.trans (hb.mono (by omega))⟩
theorem refKnows (f g : Nat → Int) (w : World) : Calls Try.prog 11 #[.agg (vc f), .agg (vc g)] w fun e w' => e = .returned (.bool (knB f g)) ∧ Below w.heap.size w w' := by
  rw [← rk_kn]; exact refKnows' f g w

/-! ### the example -/
def one2 : Nat → Int := fun i => if i < 2 then 1 else 0
theorem zero25 (w : World) : (zeroValue 25).run Try.prog w = .ok (.agg (vc fun _ => 0)) w := by kernel_rfl
set_option maxHeartbeats 400000 in
theorem awake (w : World) : Calls Try.prog 7 #[] w fun e w' => e = .returned (.bool true) ∧ Below w.heap.size w w' := by
  have hap := Apart (tk (fun _ => 0) 0) (tk (fun _ => 0) 1)
  rw [show apB (tk (fun _ => 0) 0) (tk (fun _ => 0) 1) = true from by decide] at hap
  have e1 : ∀ w, (Op.equalIn 10000 25 (.agg (vc fun i => mx ((tk (fun _ => 0) 0) i) ((tk (fun _ => 0) 1) i))) (.agg #[.int .u32 1, .int .u32 1, .int .u32 0, .int .u32 0, .int .u32 0, .int .u32 0, .int .u32 0, .int .u32 0])).run Try.prog w = .ok true w := fun w => by
    have h := eqv (fun i => mx ((tk (fun _ => 0) 0) i) ((tk (fun _ => 0) 1) i)) one2 w
    rw [show eqB (fun i => mx ((tk (fun _ => 0) 0) i) ((tk (fun _ => 0) 1) i)) one2 = true from by decide] at h
    exact h
  have e2 : ∀ w, (Op.equalIn 10000 25 (.agg (vc fun i => mn ((tk (fun _ => 0) 0) i) ((tk (fun _ => 0) 1) i))) (.agg #[.int .u32 0, .int .u32 0, .int .u32 0, .int .u32 0, .int .u32 0, .int .u32 0, .int .u32 0, .int .u32 0])).run Try.prog w = .ok true w := fun w => by
    have h := eqv (fun i => mn ((tk (fun _ => 0) 0) i) ((tk (fun _ => 0) 1) i)) (fun _ => 0) w
    rw [show eqB (fun i => mn ((tk (fun _ => 0) 0) i) ((tk (fun _ => 0) 1) i)) (fun _ => 0) = true from by decide] at h
    exact h
  go_enter Try.func7, Try.ntmps7
  go_upto_region 1 with (fail)
  refine plain_head 4 (fun w' => Below w.heap.size w w') (Below.refl _ _) ?_
  simp only [List.take_succ_cons, List.take_zero, List.drop_succ_cons, List.drop_zero]
  refine q_run rfl (fun K hK => ?_)
  refine q_value ?_ (fun w' h' => ?_) ?_
  rotate_left
  · go_simp; try with_reducible rfl
  go_simp
  refine hK _ ?_
  clear hK K
  refine q_run rfl (fun K hK => ?_)
  refine q_call (Nat.le_refl _) (Tick (fun _ => 0) 0) (fun w' => ?_) ?_
  · first | (go_simp; done) | (go_simp; rfl)
  go_simp
  refine hK _ ?_
  clear hK K
  refine q_run rfl (fun K hK => ?_)
  refine q_value ?_ (fun w' h' => ?_) ?_
  rotate_left
  · go_simp; try with_reducible rfl
  go_simp
  refine hK _ ?_
  clear hK K
  refine q_run rfl (fun K hK => ?_)
  refine q_call (Nat.le_refl _) (Tick (fun _ => 0) 1) (fun w' => ?_) ?_
  · first | (go_simp; done) | (go_simp; rfl)
  go_simp
  refine hK _ ?_
  clear hK K
  refine wpQuiet_nil ?_
  intro w1 h1
  refine wl_alloc rfl 25 rfl _ _ zero25 rfl (fun w2 b1 k1 l1 f1 K hK => ?_)
  go_simp
  refine hK _ _ ?_
  clear hK K
  refine wl_alloc rfl 25 rfl _ _ zero25 rfl (fun w3 b2 k2 l2 f2 K hK => ?_)
  go_simp
  refine hK _ _ ?_
  clear hK K
  have k1' := keep k1 l2
  have hlt1 := blk_lt k1
  have ne12 : b2 ≠ b1 := by have := f2.out; omega
  refine wl_store rfl 25 (.tmp 1) (.tmp 4) rfl b1 (vc (tk (fun _ => 0) 0)) rfl rfl 25 _ k1' (by kernel_rfl) rfl (vc_one _) (fun w4 g1 g2 g3 g4 K hK => ?_)
  go_simp
  refine hK _ _ ?_
  clear hK K
  have k2' := (g2 b2 ne12).trans k2
  refine wl_store rfl 25 (.tmp 2) (.tmp 6) rfl b2 (vc (tk (fun _ => 0) 1)) rfl rfl 25 _ k2' (by kernel_rfl) rfl (vc_one _) (fun w5 m1 m2 m3 m4 K hK => ?_)
  go_simp
  refine hK _ _ ?_
  clear hK K
  have q1 := (m2 b1 ne12.symm).trans g1
  have h5 : Below w.heap.size w w5 := (((h1.trans (l1.mono h1.size)).trans (l2.mono (by have := h1.size; have := l1.size; omega))).trans (g3 _ (by have := h1.size; have := f1.out; omega))).trans (m3 _ (by have := h1.size; have := l1.size; have := f2.out; omega))
  clear k1 k2 k1' k2' g1 g2 g3 g4 m2 m3 m4 l1 l2
  go_upto_region 2 with (fail)
  refine plain_all (fun w' => Below w5.heap.size w5 w') (Below.refl _ _) ?_
  refine q_run rfl (fun K hK => ?_)
  refine q_load 25 (.tmp 1) rfl _ rfl _ (vc (tk (fun _ => 0) 0)) (0, 0) _ (fun w' h' => keep q1 h') Try.underlying25 rfl (by kernel_rfl) ?_
  go_simp
  refine hK _ ?_
  clear hK K
  refine q_run rfl (fun K hK => ?_)
  refine q_load 25 (.tmp 2) rfl _ rfl _ (vc (tk (fun _ => 0) 1)) (0, 0) _ (fun w' h' => keep m1 h') Try.underlying25 rfl (by kernel_rfl) ?_
  go_simp
  refine hK _ ?_
  clear hK K
  refine q_run rfl (fun K hK => ?_)
  refine q_call (Nat.le_refl _) hap (fun w' => ?_) ?_
  · first | (go_simp; done) | (go_simp; rfl)
  go_simp
  refine hK _ ?_
  clear hK K
  refine q_run rfl (fun K hK => ?_)
  refine q_value ?_ (fun w' h' => ?_) ?_
  rotate_left
  · go_simp; try with_reducible rfl
  go_simp
  refine hK _ ?_
  clear hK K
  refine q_run rfl (fun K hK => ?_)
  refine q_load 25 (.tmp 1) rfl _ rfl _ (vc (tk (fun _ => 0) 0)) (0, 0) _ (fun w' h' => keep q1 h') Try.underlying25 rfl (by kernel_rfl) ?_
  go_simp
  refine hK _ ?_
  clear hK K
  refine q_run rfl (fun K hK => ?_)
  refine q_load 25 (.tmp 2) rfl _ rfl _ (vc (tk (fun _ => 0) 1)) (0, 0) _ (fun w' h' => keep m1 h') Try.underlying25 rfl (by kernel_rfl) ?_
  go_simp
  refine hK _ ?_
  clear hK K
  refine q_run rfl (fun K hK => ?_)
  refine q_call (Nat.le_refl _) (Join (tk (fun _ => 0) 0) (tk (fun _ => 0) 1)) (fun w' => ?_) ?_
  · first | (go_simp; done) | (go_simp; rfl)
  go_simp
  refine hK _ ?_
  clear hK K
  refine q_run rfl (fun K hK => ?_)
  refine q_value ?_ (fun w' h' => ?_) ?_
  rotate_left
  · go_simp; try with_reducible rfl
  go_simp
  refine hK _ ?_
  clear hK K
  refine q_run rfl (fun K hK => ?_)
  refine q_value ?_ (fun w' h' => ?_) ?_
  rotate_left
  · go_simp; try with_reducible rfl
  go_simp
  refine hK _ ?_
  clear hK K
  refine q_run rfl (fun K hK => ?_)
  refine q_value ?_ (fun w' h' => ?_) ?_
  rotate_left
  · go_simp; try with_reducible rfl
  go_simp
  refine hK _ ?_
  clear hK K
  refine q_run rfl (fun K hK => ?_)
  refine q_value ?_ (fun w' h' => ?_) ?_
  rotate_left
  · go_simp; try with_reducible rfl
  go_simp
  refine hK _ ?_
  clear hK K
  refine q_run rfl (fun K hK => ?_)
  refine q_load 25 (.tmp 1) rfl _ rfl _ (vc (tk (fun _ => 0) 0)) (0, 0) _ (fun w' h' => keep q1 h') Try.underlying25 rfl (by kernel_rfl) ?_
  go_simp
  refine hK _ ?_
  clear hK K
  refine q_run rfl (fun K hK => ?_)
  refine q_load 25 (.tmp 2) rfl _ rfl _ (vc (tk (fun _ => 0) 1)) (0, 0) _ (fun w' h' => keep m1 h') Try.underlying25 rfl (by kernel_rfl) ?_
  go_simp
  refine hK _ ?_
  clear hK K
  refine q_run rfl (fun K hK => ?_)
  refine q_call (Nat.le_refl _) (Meet (tk (fun _ => 0) 0) (tk (fun _ => 0) 1)) (fun w' => ?_) ?_
  · first | (go_simp; done) | (go_simp; rfl)
  go_simp
  refine hK _ ?_
  clear hK K
  refine q_run rfl (fun K hK => ?_)
  refine q_value ?_ (fun w' h' => ?_) ?_
  rotate_left
  · go_simp; try with_reducible rfl
  go_simp
  refine hK _ ?_
  clear hK K
  refine q_run rfl (fun K hK => ?_)
  refine q_value ?_ (fun w' h' => ?_) ?_
  rotate_left
  · go_simp; try with_reducible rfl
  go_simp
  refine hK _ ?_
  clear hK K
  refine q_run rfl (fun K hK => ?_)
  refine q_value ?_ (fun w' h' => ?_) ?_
  rotate_left
  · go_simp; try with_reducible rfl
  go_simp
  refine hK _ ?_
  clear hK K
  refine q_run rfl (fun K hK => ?_)
  refine q_value ?_ (fun w' h' => ?_) ?_
  rotate_left
  · go_simp; try with_reducible rfl
  go_simp
  refine hK _ ?_
  clear hK K
  refine wpQuiet_nil ?_
  intro w6 h6
  go_wp2
  go_ret
  exact ⟨rfl, h5.trans (h6.mono h5.size)⟩
end Go.Proofs.Ytfnaoaejbpeelaa
