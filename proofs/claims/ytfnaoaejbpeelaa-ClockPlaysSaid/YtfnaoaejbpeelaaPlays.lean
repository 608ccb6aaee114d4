/- The law ClockPlays: the plain law, and the walk. -/
import Derived.Test.YtfnaoaejbpeelaaRef
import Derived.Test.YtfnaoaejbpeelaaGrow
import Derived.Deep.DeepCutAuto
namespace Go.Proofs.Ytfnaoaejbpeelaa
open Go.RowKit
set_option linter.unusedVariables false
/-! ### the plain law -/
theorem ah_kn (f g : Nat → Int) : ahB f g = (knB g f && !knB f g) := by
  unfold ahB
  cases h2 : knB g f
  · rfl
  · have : eqB f g = knB f g := by
      rw [Bool.eq_iff_iff, eqB_iff, knB_iff]
      rw [knB_iff] at h2
      exact ⟨fun h i hi => by have := h i hi; omega, fun h i hi => by have := h i hi; have := h2 i hi; omega⟩
    rw [this]
theorem ap_kn (f g : Nat → Int) : apB f g = (!knB f g && !knB g f) := rfl
/-! ### the walk -/
set_option maxRecDepth 100000 in
set_option maxHeartbeats 4000000 in
theorem plays_walk (a b : Nat → Int) (t : Int) (w : World) : Calls Try.prog 4 #[.agg (vc a), .agg (vc b), .int .i64 t] w fun e w' => e = .returned (.bool true) ∧ Below w.heap.size w w' := by
  have hR1 := refKnows a b
  have hR2 := refKnows b a
  have hKn := Knows a b
  have hAh := Ahead a b
  have hAp := Apart a b
  go_enter Try.func4, Try.ntmps4
  go_upto_region 1 with (fail)
  have A3 : ((w.alloc (.cells (vc a) 23)).alloc (.cells (vc b) 23)).heap[w.heap.size]? = some (.cells (vc a) 23) := heap_alloc2_old _ _ _
  have A4 : ((w.alloc (.cells (vc a) 23)).alloc (.cells (vc b) 23)).heap[w.heap.size + 1]? = some (.cells (vc b) 23) := heap_alloc2_new _ _ _
  have hB := below2 w (.cells (vc a) 23) (.cells (vc b) 23)
  generalize ((w.alloc (.cells (vc a) 23)).alloc (.cells (vc b) 23)) = W at *
  refine plain_all (fun w' => Below W.heap.size W w') (Below.refl _ _) ?_
  refine q_run rfl (fun K hK => ?_)
  refine q_call (Nat.le_refl _) awake (fun w' => ?_) ?_
  · first | (go_simp; done) | (go_simp; rfl)
  go_simp
  refine hK _ ?_
  clear hK K
  refine q_run rfl (fun K hK => ?_)
  refine q_value ?_ (fun w' h' => ?_) ?_
  rotate_left
  · go_simp; try with_reducible rfl
  go_simp
  refine hK _ ?_
  clear hK K
  refine wpQuiet_nil ?_
  intro w1 h1
  replace A3 := keep A3 h1
  replace A4 := keep A4 h1
  replace hB := hB.trans (h1.mono hB.size)
  clear h1
  go_upto_region 3 with (fail)
  go_cut [7, 8] (fun s7 s8 wx => ∃ bX7 bX8 : Nat, s7 = .pointer (some ⟨bX7, 0, none⟩) ∧ s8 = .pointer (some ⟨bX8, 0, none⟩) ∧ wx.heap[bX7]? = some (.cells (vc a) 25 (0, 0)) ∧ wx.heap[bX8]? = some (.cells (vc b) 25 (0, 0)) ∧ bX7 ≠ bX8 ∧ w1.heap.size ≤ bX7 ∧ w1.heap.size ≤ bX8 ∧ Below w1.heap.size w1 wx)
  case first =>
    refine grow_head 2 (fun w' => Below w1.heap.size w1 w') (by kernel_rfl) (by kernel_rfl) (by decide) (by kernel_rfl) ?_
    simp only [List.take_succ_cons, List.take_zero]
    refine g_run rfl _ (fun w' h' => ga_load 23 (.tmp 3) rfl _ rfl _ (vc a) (0, 0) _ (keep A3 h') Try.underlying23 rfl (by kernel_rfl)) (fun K hK => ?_)
    go_simp
    refine hK _ ?_
    clear hK K
    refine g_run rfl _ (fun w' h' => ga_load 23 (.tmp 4) rfl _ rfl _ (vc b) (0, 0) _ (keep A4 h') Try.underlying23 rfl (by kernel_rfl)) (fun K hK => ?_)
    go_simp
    refine hK _ ?_
    clear hK K
    refine g_nil ?_
    show anyG _ _ _ _ _ _ _ _ _
    have hg0 : Below w1.heap.size w1 w1.drew := Below.drew (Below.refl _ _)
    refine anyG_ready [2, 3] (by kernel_rfl) (by simp) (fun v1 g1 => ⟨hg0.trans (g1.mono hg0.size), ?_⟩)
    have hg1 := hg0.trans (g1.mono hg0.size)
    intro i hi
    simp only [List.mem_cons, List.not_mem_nil, or_false] at hi
    rcases hi with rfl | rfl
    · refine op_alloc rfl rfl 25 rfl _ _ zero25 rfl (fun u1 bX7 X7 l1 f1 => ?_)
      have e1 := f1.out
      have zX7 : w1.heap.size ≤ bX7 := by have := hg1.size; omega
      have hh1 := hg1.trans (l1.mono hg1.size)
      clear e1 f1 l1
      refine anyG_ready [3] (by kernel_rfl) (by simp) (fun v2 g2 => ⟨hh1.trans (g2.mono hh1.size), ?_⟩)
      replace X7 := keep X7 g2
      have hg2 := hh1.trans (g2.mono hh1.size)
      intro i hi
      simp only [List.mem_cons, List.not_mem_nil, or_false] at hi
      subst hi
      refine op_alloc rfl rfl 25 rfl _ _ zero25 rfl (fun u2 bX8 X8 l2 f2 => ?_)
      have e2 := f2.out
      have nX7X8 : bX7 ≠ bX8 := by have := blk_lt X7; omega
      have zX8 : w1.heap.size ≤ bX8 := by have := hg2.size; omega
      replace X7 := keep X7 l2
      have hh2 := hg2.trans (l2.mono hg2.size)
      clear e2 f2 l2
      refine anyG_ready [4] (by kernel_rfl) (by simp) (fun v4 g4 => ⟨hh2.trans (g4.mono hh2.size), ?_⟩)
      replace X7 := keep X7 g4
      replace X8 := keep X8 g4
      have hg4 := hh2.trans (g4.mono hh2.size)
      intro i hi
      simp only [List.mem_cons, List.not_mem_nil, or_false] at hi
      subst hi
      refine op_store rfl rfl 25 (.tmp 7) (.tmp 18) rfl bX7 (vc a) rfl rfl 25 _ X7 (by kernel_rfl) rfl (vc_one _) (fun u4 p4 m4 q4 => ?_)
      replace X8 := (m4 _ nX7X8.symm).trans X8
      replace X7 := p4
      have hh4 := hg4.trans (q4 _ zX7)
      refine anyG_ready [5] (by kernel_rfl) (by simp) (fun v5 g5 => ⟨hh4.trans (g5.mono hh4.size), ?_⟩)
      replace X7 := keep X7 g5
      replace X8 := keep X8 g5
      have hg5 := hh4.trans (g5.mono hh4.size)
      intro i hi
      simp only [List.mem_cons, List.not_mem_nil, or_false] at hi
      subst hi
      refine op_store rfl rfl 25 (.tmp 8) (.tmp 19) rfl bX8 (vc b) rfl rfl 25 _ X8 (by kernel_rfl) rfl (vc_one _) (fun u5 p5 m5 q5 => ?_)
      replace X7 := (m5 _ nX7X8).trans X7
      replace X8 := p5
      have hh5 := hg5.trans (q5 _ zX8)
      refine anyG_end (by kernel_rfl) (fun v6 g6 => ⟨hh5.trans (g6.mono hh5.size), ?_⟩)
      replace X7 := keep X7 g6
      replace X8 := keep X8 g6
      have hg6 := hh5.trans (g6.mono hh5.size)
      go_wp2_with (fail)
      go_meet
      exact ⟨bX7, bX8, rfl, rfl, X7, X8, nX7X8, zX7, zX8, hg6⟩
    · refine op_alloc rfl rfl 25 rfl _ _ zero25 rfl (fun u1 bX8 X8 l1 f1 => ?_)
      have e1 := f1.out
      have zX8 : w1.heap.size ≤ bX8 := by have := hg1.size; omega
      have hh1 := hg1.trans (l1.mono hg1.size)
      clear e1 f1 l1
      refine anyG_ready [2] (by kernel_rfl) (by simp) (fun v7 g7 => ⟨hh1.trans (g7.mono hh1.size), ?_⟩)
      replace X8 := keep X8 g7
      have hg7 := hh1.trans (g7.mono hh1.size)
      intro i hi
      simp only [List.mem_cons, List.not_mem_nil, or_false] at hi
      subst hi
      refine op_alloc rfl rfl 25 rfl _ _ zero25 rfl (fun u7 bX7 X7 l7 f7 => ?_)
      have e7 := f7.out
      have nX7X8 : bX7 ≠ bX8 := by have := blk_lt X8; omega
      have zX7 : w1.heap.size ≤ bX7 := by have := hg7.size; omega
      replace X8 := keep X8 l7
      have hh7 := hg7.trans (l7.mono hg7.size)
      clear e7 f7 l7
      refine anyG_ready [4] (by kernel_rfl) (by simp) (fun v9 g9 => ⟨hh7.trans (g9.mono hh7.size), ?_⟩)
      replace X7 := keep X7 g9
      replace X8 := keep X8 g9
      have hg9 := hh7.trans (g9.mono hh7.size)
      intro i hi
      simp only [List.mem_cons, List.not_mem_nil, or_false] at hi
      subst hi
      refine op_store rfl rfl 25 (.tmp 7) (.tmp 18) rfl bX7 (vc a) rfl rfl 25 _ X7 (by kernel_rfl) rfl (vc_one _) (fun u9 p9 m9 q9 => ?_)
      replace X8 := (m9 _ nX7X8.symm).trans X8
      replace X7 := p9
      have hh9 := hg9.trans (q9 _ zX7)
      refine anyG_ready [5] (by kernel_rfl) (by simp) (fun v10 g10 => ⟨hh9.trans (g10.mono hh9.size), ?_⟩)
      replace X7 := keep X7 g10
      replace X8 := keep X8 g10
      have hg10 := hh9.trans (g10.mono hh9.size)
      intro i hi
      simp only [List.mem_cons, List.not_mem_nil, or_false] at hi
      subst hi
      refine op_store rfl rfl 25 (.tmp 8) (.tmp 19) rfl bX8 (vc b) rfl rfl 25 _ X8 (by kernel_rfl) rfl (vc_one _) (fun u10 p10 m10 q10 => ?_)
      replace X7 := (m10 _ nX7X8).trans X7
      replace X8 := p10
      have hh10 := hg10.trans (q10 _ zX8)
      refine anyG_end (by kernel_rfl) (fun v11 g11 => ⟨hh10.trans (g11.mono hh10.size), ?_⟩)
      replace X7 := keep X7 g11
      replace X8 := keep X8 g11
      have hg11 := hh10.trans (g11.mono hh10.size)
      go_wp2_with (fail)
      go_meet
      exact ⟨bX7, bX8, rfl, rfl, X7, X8, nX7X8, zX7, zX8, hg11⟩
  case rest =>
    obtain ⟨bX7, bX8, rfl, rfl, X7, X8, NX7X8, ZX7, ZX8, h2⟩ := hcut
    obtain ⟨w2, hx2⟩ : ∃ x, x = wc := ⟨_, rfl⟩
    subst hx2
    replace A3 := keep A3 h2
    replace A4 := keep A4 h2
    replace hB := hB.trans (h2.mono hB.size)
    clear h2
    go_upto_region 4 with (fail)
    refine quiet_all (fun w' => Below w2.heap.size w2 w') (by kernel_rfl) (by kernel_rfl) (Below.drew (Below.refl _ _)) ?_
    refine q_run rfl (fun K hK => ?_)
    refine q_load 23 (.tmp 3) rfl _ rfl _ (vc a) (0, 0) _ (fun w' h' => keep A3 h') Try.underlying23 rfl (by kernel_rfl) ?_
    go_simp
    refine hK _ ?_
    clear hK K
    refine q_run rfl (fun K hK => ?_)
    refine q_load 23 (.tmp 4) rfl _ rfl _ (vc b) (0, 0) _ (fun w' h' => keep A4 h') Try.underlying23 rfl (by kernel_rfl) ?_
    go_simp
    refine hK _ ?_
    clear hK K
    refine q_run rfl (fun K hK => ?_)
    refine q_call (Nat.le_refl _) hR1 (fun w' => ?_) ?_
    · first | (go_simp; done) | (go_simp; rfl)
    go_simp
    refine hK _ ?_
    clear hK K
    refine q_run rfl (fun K hK => ?_)
    refine q_load 23 (.tmp 4) rfl _ rfl _ (vc b) (0, 0) _ (fun w' h' => keep A4 h') Try.underlying23 rfl (by kernel_rfl) ?_
    go_simp
    refine hK _ ?_
    clear hK K
    refine q_run rfl (fun K hK => ?_)
    refine q_load 23 (.tmp 3) rfl _ rfl _ (vc a) (0, 0) _ (fun w' h' => keep A3 h') Try.underlying23 rfl (by kernel_rfl) ?_
    go_simp
    refine hK _ ?_
    clear hK K
    refine q_run rfl (fun K hK => ?_)
    refine q_call (Nat.le_refl _) hR2 (fun w' => ?_) ?_
    · first | (go_simp; done) | (go_simp; rfl)
    go_simp
    refine hK _ ?_
    clear hK K
    refine q_run rfl (fun K hK => ?_)
    refine q_value ?_ (fun w' h' => ?_) ?_
    rotate_left
    · go_simp; try with_reducible rfl
    go_simp
    refine hK _ ?_
    clear hK K
    refine q_run rfl (fun K hK => ?_)
    refine q_value ?_ (fun w' h' => ?_) ?_
    rotate_left
    · go_simp; try with_reducible rfl
    go_simp
    refine hK _ ?_
    clear hK K
    refine wpQuiet_nil ?_
    intro w3 h3
    replace A3 := keep A3 h3
    replace A4 := keep A4 h3
    replace X7 := keep X7 h3
    replace X8 := keep X8 h3
    replace hB := hB.trans (h3.mono hB.size)
    clear h3
    go_upto_region 5 with (fail)
    go_cut [9, 10, 53] (fun s9 s10 s53 wx => s53 = .bool false ∧ Below w3.heap.size w3 wx)
    case first =>
      cases e1 : knB a b
      · cases e2 : knB b a
        · rw [ah_kn, e1, e2] at hAh; rw [ap_kn, e1, e2] at hAp; rw [e1] at hKn hR1; rw [e2] at hR2; clear e1 e2 hB
          have hB : Below w3.heap.size w3 w3 := Below.refl _ _
          refine plain_all (fun w' => Below w3.heap.size w3 w') (Below.refl _ _) ?_
          refine q_run rfl (fun K hK => ?_)
          refine q_load 25 (.tmp 7) rfl _ rfl _ (vc a) (0, 0) _ (fun w' h' => keep X7 h') Try.underlying25 rfl (by kernel_rfl) ?_
          go_simp
          refine hK _ ?_
          clear hK K
          refine q_run rfl (fun K hK => ?_)
          refine q_load 25 (.tmp 8) rfl _ rfl _ (vc b) (0, 0) _ (fun w' h' => keep X8 h') Try.underlying25 rfl (by kernel_rfl) ?_
          go_simp
          refine hK _ ?_
          clear hK K
          refine q_run rfl (fun K hK => ?_)
          refine q_call (Nat.le_refl _) hKn (fun w' => ?_) ?_
          · first | (go_simp; done) | (go_simp; rfl)
          go_simp
          refine hK _ ?_
          clear hK K
          refine q_run rfl (fun K hK => ?_)
          refine q_value ?_ (fun w' h' => ?_) ?_
          rotate_left
          · go_simp; try with_reducible rfl
          go_simp
          refine hK _ ?_
          clear hK K
          refine q_run rfl (fun K hK => ?_)
          refine q_value ?_ (fun w' h' => ?_) ?_
          rotate_left
          · go_simp; try with_reducible rfl
          go_simp
          refine hK _ ?_
          clear hK K
          refine q_run rfl (fun K hK => ?_)
          refine q_value ?_ (fun w' h' => ?_) ?_
          rotate_left
          · go_simp; try with_reducible rfl
          go_simp
          refine hK _ ?_
          clear hK K
          refine q_run rfl (fun K hK => ?_)
          refine q_load 25 (.tmp 7) rfl _ rfl _ (vc a) (0, 0) _ (fun w' h' => keep X7 h') Try.underlying25 rfl (by kernel_rfl) ?_
          go_simp
          refine hK _ ?_
          clear hK K
          refine q_run rfl (fun K hK => ?_)
          refine q_load 25 (.tmp 8) rfl _ rfl _ (vc b) (0, 0) _ (fun w' h' => keep X8 h') Try.underlying25 rfl (by kernel_rfl) ?_
          go_simp
          refine hK _ ?_
          clear hK K
          refine q_run rfl (fun K hK => ?_)
          refine q_call (Nat.le_refl _) hAh (fun w' => ?_) ?_
          · first | (go_simp; done) | (go_simp; rfl)
          go_simp
          refine hK _ ?_
          clear hK K
          refine q_run rfl (fun K hK => ?_)
          refine q_value ?_ (fun w' h' => ?_) ?_
          rotate_left
          · go_simp; try with_reducible rfl
          go_simp
          refine hK _ ?_
          clear hK K
          refine q_run rfl (fun K hK => ?_)
          refine q_value ?_ (fun w' h' => ?_) ?_
          rotate_left
          · go_simp; try with_reducible rfl
          go_simp
          refine hK _ ?_
          clear hK K
          refine q_skip rfl (fun K hK => ?_)
          go_simp
          refine hK _ ?_
          clear hK K
          refine q_skip rfl (fun K hK => ?_)
          go_simp
          refine hK _ ?_
          clear hK K
          refine q_run rfl (fun K hK => ?_)
          refine q_value ?_ (fun w' h' => ?_) ?_
          rotate_left
          · go_simp; try with_reducible rfl
          go_simp
          refine hK _ ?_
          clear hK K
          refine q_run rfl (fun K hK => ?_)
          refine q_value ?_ (fun w' h' => ?_) ?_
          rotate_left
          · go_simp; try with_reducible rfl
          go_simp
          refine hK _ ?_
          clear hK K
          refine q_run rfl (fun K hK => ?_)
          refine q_value ?_ (fun w' h' => ?_) ?_
          rotate_left
          · go_simp; try with_reducible rfl
          go_simp
          refine hK _ ?_
          clear hK K
          refine q_run rfl (fun K hK => ?_)
          refine q_value ?_ (fun w' h' => ?_) ?_
          rotate_left
          · go_simp; try with_reducible rfl
          go_simp
          refine hK _ ?_
          clear hK K
          refine q_run rfl (fun K hK => ?_)
          refine q_load 25 (.tmp 7) rfl _ rfl _ (vc a) (0, 0) _ (fun w' h' => keep X7 h') Try.underlying25 rfl (by kernel_rfl) ?_
          go_simp
          refine hK _ ?_
          clear hK K
          refine q_run rfl (fun K hK => ?_)
          refine q_load 25 (.tmp 8) rfl _ rfl _ (vc b) (0, 0) _ (fun w' h' => keep X8 h') Try.underlying25 rfl (by kernel_rfl) ?_
          go_simp
          refine hK _ ?_
          clear hK K
          refine q_run rfl (fun K hK => ?_)
          refine q_call (Nat.le_refl _) hAp (fun w' => ?_) ?_
          · first | (go_simp; done) | (go_simp; rfl)
          go_simp
          refine hK _ ?_
          clear hK K
          refine q_run rfl (fun K hK => ?_)
          refine q_value ?_ (fun w' h' => ?_) ?_
          rotate_left
          · go_simp; try with_reducible rfl
          go_simp
          refine hK _ ?_
          clear hK K
          refine q_run rfl (fun K hK => ?_)
          refine q_value ?_ (fun w' h' => ?_) ?_
          rotate_left
          · go_simp; try with_reducible rfl
          go_simp
          refine hK _ ?_
          clear hK K
          refine q_run rfl (fun K hK => ?_)
          refine q_value ?_ (fun w' h' => ?_) ?_
          rotate_left
          · go_simp; try with_reducible rfl
          go_simp
          refine hK _ ?_
          clear hK K
          refine q_run rfl (fun K hK => ?_)
          refine q_value ?_ (fun w' h' => ?_) ?_
          rotate_left
          · go_simp; try with_reducible rfl
          go_simp
          refine hK _ ?_
          clear hK K
          refine q_run rfl (fun K hK => ?_)
          refine q_value ?_ (fun w' h' => ?_) ?_
          rotate_left
          · go_simp; try with_reducible rfl
          go_simp
          refine hK _ ?_
          clear hK K
          refine q_run rfl (fun K hK => ?_)
          refine q_value ?_ (fun w' h' => ?_) ?_
          rotate_left
          · go_simp; try with_reducible rfl
          go_simp
          refine hK _ ?_
          clear hK K
          refine q_run rfl (fun K hK => ?_)
          refine q_value ?_ (fun w' h' => ?_) ?_
          rotate_left
          · go_simp; try with_reducible rfl
          go_simp
          refine hK _ ?_
          clear hK K
          refine q_run rfl (fun K hK => ?_)
          refine q_value ?_ (fun w' h' => ?_) ?_
          rotate_left
          · go_simp; try with_reducible rfl
          go_simp
          refine hK _ ?_
          clear hK K
          refine wpQuiet_nil ?_
          intro w4 h4
          replace A3 := keep A3 h4
          replace A4 := keep A4 h4
          replace X7 := keep X7 h4
          replace X8 := keep X8 h4
          replace hB := hB.trans (h4.mono hB.size)
          clear h4
          go_wp2_with (fail)
          go_meet
          exact ⟨rfl, hB⟩
        · rw [ah_kn, e1, e2] at hAh; rw [ap_kn, e1, e2] at hAp; rw [e1] at hKn hR1; rw [e2] at hR2; clear e1 e2 hB
          have hB : Below w3.heap.size w3 w3 := Below.refl _ _
          refine plain_all (fun w' => Below w3.heap.size w3 w') (Below.refl _ _) ?_
          refine q_run rfl (fun K hK => ?_)
          refine q_load 25 (.tmp 7) rfl _ rfl _ (vc a) (0, 0) _ (fun w' h' => keep X7 h') Try.underlying25 rfl (by kernel_rfl) ?_
          go_simp
          refine hK _ ?_
          clear hK K
          refine q_run rfl (fun K hK => ?_)
          refine q_load 25 (.tmp 8) rfl _ rfl _ (vc b) (0, 0) _ (fun w' h' => keep X8 h') Try.underlying25 rfl (by kernel_rfl) ?_
          go_simp
          refine hK _ ?_
          clear hK K
          refine q_run rfl (fun K hK => ?_)
          refine q_call (Nat.le_refl _) hKn (fun w' => ?_) ?_
          · first | (go_simp; done) | (go_simp; rfl)
          go_simp
          refine hK _ ?_
          clear hK K
          refine q_run rfl (fun K hK => ?_)
          refine q_value ?_ (fun w' h' => ?_) ?_
          rotate_left
          · go_simp; try with_reducible rfl
          go_simp
          refine hK _ ?_
          clear hK K
          refine q_run rfl (fun K hK => ?_)
          refine q_value ?_ (fun w' h' => ?_) ?_
          rotate_left
          · go_simp; try with_reducible rfl
          go_simp
          refine hK _ ?_
          clear hK K
          refine q_run rfl (fun K hK => ?_)
          refine q_value ?_ (fun w' h' => ?_) ?_
          rotate_left
          · go_simp; try with_reducible rfl
          go_simp
          refine hK _ ?_
          clear hK K
          refine q_run rfl (fun K hK => ?_)
          refine q_load 25 (.tmp 7) rfl _ rfl _ (vc a) (0, 0) _ (fun w' h' => keep X7 h') Try.underlying25 rfl (by kernel_rfl) ?_
          go_simp
          refine hK _ ?_
          clear hK K
          refine q_run rfl (fun K hK => ?_)
          refine q_load 25 (.tmp 8) rfl _ rfl _ (vc b) (0, 0) _ (fun w' h' => keep X8 h') Try.underlying25 rfl (by kernel_rfl) ?_
          go_simp
          refine hK _ ?_
          clear hK K
          refine q_run rfl (fun K hK => ?_)
          refine q_call (Nat.le_refl _) hAh (fun w' => ?_) ?_
          · first | (go_simp; done) | (go_simp; rfl)
          go_simp
          refine hK _ ?_
          clear hK K
          refine q_run rfl (fun K hK => ?_)
          refine q_value ?_ (fun w' h' => ?_) ?_
          rotate_left
          · go_simp; try with_reducible rfl
          go_simp
          refine hK _ ?_
          clear hK K
          refine q_run rfl (fun K hK => ?_)
          refine q_value ?_ (fun w' h' => ?_) ?_
          rotate_left
          · go_simp; try with_reducible rfl
          go_simp
          refine hK _ ?_
          clear hK K
          refine q_run rfl (fun K hK => ?_)
          refine q_value ?_ (fun w' h' => ?_) ?_
          rotate_left
          · go_simp; try with_reducible rfl
          go_simp
          refine hK _ ?_
          clear hK K
          refine q_run rfl (fun K hK => ?_)
          refine q_value ?_ (fun w' h' => ?_) ?_
          rotate_left
          · go_simp; try with_reducible rfl
          go_simp
          refine hK _ ?_
          clear hK K
          refine q_run rfl (fun K hK => ?_)
          refine q_value ?_ (fun w' h' => ?_) ?_
          rotate_left
          · go_simp; try with_reducible rfl
          go_simp
          refine hK _ ?_
          clear hK K
          refine q_run rfl (fun K hK => ?_)
          refine q_value ?_ (fun w' h' => ?_) ?_
          rotate_left
          · go_simp; try with_reducible rfl
          go_simp
          refine hK _ ?_
          clear hK K
          refine q_run rfl (fun K hK => ?_)
          refine q_value ?_ (fun w' h' => ?_) ?_
          rotate_left
          · go_simp; try with_reducible rfl
          go_simp
          refine hK _ ?_
          clear hK K
          refine q_run rfl (fun K hK => ?_)
          refine q_value ?_ (fun w' h' => ?_) ?_
          rotate_left
          · go_simp; try with_reducible rfl
          go_simp
          refine hK _ ?_
          clear hK K
          refine q_run rfl (fun K hK => ?_)
          refine q_load 25 (.tmp 7) rfl _ rfl _ (vc a) (0, 0) _ (fun w' h' => keep X7 h') Try.underlying25 rfl (by kernel_rfl) ?_
          go_simp
          refine hK _ ?_
          clear hK K
          refine q_run rfl (fun K hK => ?_)
          refine q_load 25 (.tmp 8) rfl _ rfl _ (vc b) (0, 0) _ (fun w' h' => keep X8 h') Try.underlying25 rfl (by kernel_rfl) ?_
          go_simp
          refine hK _ ?_
          clear hK K
          refine q_run rfl (fun K hK => ?_)
          refine q_call (Nat.le_refl _) hAp (fun w' => ?_) ?_
          · first | (go_simp; done) | (go_simp; rfl)
          go_simp
          refine hK _ ?_
          clear hK K
          refine q_run rfl (fun K hK => ?_)
          refine q_value ?_ (fun w' h' => ?_) ?_
          rotate_left
          · go_simp; try with_reducible rfl
          go_simp
          refine hK _ ?_
          clear hK K
          refine q_run rfl (fun K hK => ?_)
          refine q_value ?_ (fun w' h' => ?_) ?_
          rotate_left
          · go_simp; try with_reducible rfl
          go_simp
          refine hK _ ?_
          clear hK K
          refine q_run rfl (fun K hK => ?_)
          refine q_value ?_ (fun w' h' => ?_) ?_
          rotate_left
          · go_simp; try with_reducible rfl
          go_simp
          refine hK _ ?_
          clear hK K
          refine q_run rfl (fun K hK => ?_)
          refine q_value ?_ (fun w' h' => ?_) ?_
          rotate_left
          · go_simp; try with_reducible rfl
          go_simp
          refine hK _ ?_
          clear hK K
          refine q_run rfl (fun K hK => ?_)
          refine q_value ?_ (fun w' h' => ?_) ?_
          rotate_left
          · go_simp; try with_reducible rfl
          go_simp
          refine hK _ ?_
          clear hK K
          refine q_run rfl (fun K hK => ?_)
          refine q_value ?_ (fun w' h' => ?_) ?_
          rotate_left
          · go_simp; try with_reducible rfl
          go_simp
          refine hK _ ?_
          clear hK K
          refine q_run rfl (fun K hK => ?_)
          refine q_value ?_ (fun w' h' => ?_) ?_
          rotate_left
          · go_simp; try with_reducible rfl
          go_simp
          refine hK _ ?_
          clear hK K
          refine q_run rfl (fun K hK => ?_)
          refine q_value ?_ (fun w' h' => ?_) ?_
          rotate_left
          · go_simp; try with_reducible rfl
          go_simp
          refine hK _ ?_
          clear hK K
          refine wpQuiet_nil ?_
          intro w4 h4
          replace A3 := keep A3 h4
          replace A4 := keep A4 h4
          replace X7 := keep X7 h4
          replace X8 := keep X8 h4
          replace hB := hB.trans (h4.mono hB.size)
          clear h4
          go_wp2_with (fail)
          go_meet
          exact ⟨rfl, hB⟩
      · cases e2 : knB b a
        · rw [ah_kn, e1, e2] at hAh; rw [ap_kn, e1, e2] at hAp; rw [e1] at hKn hR1; rw [e2] at hR2; clear e1 e2 hB
          have hB : Below w3.heap.size w3 w3 := Below.refl _ _
          refine plain_all (fun w' => Below w3.heap.size w3 w') (Below.refl _ _) ?_
          refine q_run rfl (fun K hK => ?_)
          refine q_load 25 (.tmp 7) rfl _ rfl _ (vc a) (0, 0) _ (fun w' h' => keep X7 h') Try.underlying25 rfl (by kernel_rfl) ?_
          go_simp
          refine hK _ ?_
          clear hK K
          refine q_run rfl (fun K hK => ?_)
          refine q_load 25 (.tmp 8) rfl _ rfl _ (vc b) (0, 0) _ (fun w' h' => keep X8 h') Try.underlying25 rfl (by kernel_rfl) ?_
          go_simp
          refine hK _ ?_
          clear hK K
          refine q_run rfl (fun K hK => ?_)
          refine q_call (Nat.le_refl _) hKn (fun w' => ?_) ?_
          · first | (go_simp; done) | (go_simp; rfl)
          go_simp
          refine hK _ ?_
          clear hK K
          refine q_run rfl (fun K hK => ?_)
          refine q_value ?_ (fun w' h' => ?_) ?_
          rotate_left
          · go_simp; try with_reducible rfl
          go_simp
          refine hK _ ?_
          clear hK K
          refine q_run rfl (fun K hK => ?_)
          refine q_value ?_ (fun w' h' => ?_) ?_
          rotate_left
          · go_simp; try with_reducible rfl
          go_simp
          refine hK _ ?_
          clear hK K
          refine q_run rfl (fun K hK => ?_)
          refine q_value ?_ (fun w' h' => ?_) ?_
          rotate_left
          · go_simp; try with_reducible rfl
          go_simp
          refine hK _ ?_
          clear hK K
          refine q_run rfl (fun K hK => ?_)
          refine q_load 25 (.tmp 7) rfl _ rfl _ (vc a) (0, 0) _ (fun w' h' => keep X7 h') Try.underlying25 rfl (by kernel_rfl) ?_
          go_simp
          refine hK _ ?_
          clear hK K
          refine q_run rfl (fun K hK => ?_)
          refine q_load 25 (.tmp 8) rfl _ rfl _ (vc b) (0, 0) _ (fun w' h' => keep X8 h') Try.underlying25 rfl (by kernel_rfl) ?_
          go_simp
          refine hK _ ?_
          clear hK K
          refine q_run rfl (fun K hK => ?_)
          refine q_call (Nat.le_refl _) hAh (fun w' => ?_) ?_
          · first | (go_simp; done) | (go_simp; rfl)
          go_simp
          refine hK _ ?_
          clear hK K
          refine q_run rfl (fun K hK => ?_)
          refine q_value ?_ (fun w' h' => ?_) ?_
          rotate_left
          · go_simp; try with_reducible rfl
          go_simp
          refine hK _ ?_
          clear hK K
          refine q_run rfl (fun K hK => ?_)
          refine q_value ?_ (fun w' h' => ?_) ?_
          rotate_left
          · go_simp; try with_reducible rfl
          go_simp
          refine hK _ ?_
          clear hK K
          refine q_skip rfl (fun K hK => ?_)
          go_simp
          refine hK _ ?_
          clear hK K
          refine q_skip rfl (fun K hK => ?_)
          go_simp
          refine hK _ ?_
          clear hK K
          refine q_run rfl (fun K hK => ?_)
          refine q_value ?_ (fun w' h' => ?_) ?_
          rotate_left
          · go_simp; try with_reducible rfl
          go_simp
          refine hK _ ?_
          clear hK K
          refine q_run rfl (fun K hK => ?_)
          refine q_value ?_ (fun w' h' => ?_) ?_
          rotate_left
          · go_simp; try with_reducible rfl
          go_simp
          refine hK _ ?_
          clear hK K
          refine q_run rfl (fun K hK => ?_)
          refine q_value ?_ (fun w' h' => ?_) ?_
          rotate_left
          · go_simp; try with_reducible rfl
          go_simp
          refine hK _ ?_
          clear hK K
          refine q_run rfl (fun K hK => ?_)
          refine q_value ?_ (fun w' h' => ?_) ?_
          rotate_left
          · go_simp; try with_reducible rfl
          go_simp
          refine hK _ ?_
          clear hK K
          refine q_run rfl (fun K hK => ?_)
          refine q_load 25 (.tmp 7) rfl _ rfl _ (vc a) (0, 0) _ (fun w' h' => keep X7 h') Try.underlying25 rfl (by kernel_rfl) ?_
          go_simp
          refine hK _ ?_
          clear hK K
          refine q_run rfl (fun K hK => ?_)
          refine q_load 25 (.tmp 8) rfl _ rfl _ (vc b) (0, 0) _ (fun w' h' => keep X8 h') Try.underlying25 rfl (by kernel_rfl) ?_
          go_simp
          refine hK _ ?_
          clear hK K
          refine q_run rfl (fun K hK => ?_)
          refine q_call (Nat.le_refl _) hAp (fun w' => ?_) ?_
          · first | (go_simp; done) | (go_simp; rfl)
          go_simp
          refine hK _ ?_
          clear hK K
          refine q_run rfl (fun K hK => ?_)
          refine q_value ?_ (fun w' h' => ?_) ?_
          rotate_left
          · go_simp; try with_reducible rfl
          go_simp
          refine hK _ ?_
          clear hK K
          refine q_run rfl (fun K hK => ?_)
          refine q_value ?_ (fun w' h' => ?_) ?_
          rotate_left
          · go_simp; try with_reducible rfl
          go_simp
          refine hK _ ?_
          clear hK K
          refine q_run rfl (fun K hK => ?_)
          refine q_value ?_ (fun w' h' => ?_) ?_
          rotate_left
          · go_simp; try with_reducible rfl
          go_simp
          refine hK _ ?_
          clear hK K
          refine q_skip rfl (fun K hK => ?_)
          go_simp
          refine hK _ ?_
          clear hK K
          refine q_skip rfl (fun K hK => ?_)
          go_simp
          refine hK _ ?_
          clear hK K
          refine q_run rfl (fun K hK => ?_)
          refine q_value ?_ (fun w' h' => ?_) ?_
          rotate_left
          · go_simp; try with_reducible rfl
          go_simp
          refine hK _ ?_
          clear hK K
          refine q_run rfl (fun K hK => ?_)
          refine q_value ?_ (fun w' h' => ?_) ?_
          rotate_left
          · go_simp; try with_reducible rfl
          go_simp
          refine hK _ ?_
          clear hK K
          refine q_run rfl (fun K hK => ?_)
          refine q_value ?_ (fun w' h' => ?_) ?_
          rotate_left
          · go_simp; try with_reducible rfl
          go_simp
          refine hK _ ?_
          clear hK K
          refine wpQuiet_nil ?_
          intro w4 h4
          replace A3 := keep A3 h4
          replace A4 := keep A4 h4
          replace X7 := keep X7 h4
          replace X8 := keep X8 h4
          replace hB := hB.trans (h4.mono hB.size)
          clear h4
          go_wp2_with (fail)
          go_meet
          exact ⟨rfl, hB⟩
        · rw [ah_kn, e1, e2] at hAh; rw [ap_kn, e1, e2] at hAp; rw [e1] at hKn hR1; rw [e2] at hR2; clear e1 e2 hB
          have hB : Below w3.heap.size w3 w3 := Below.refl _ _
          refine plain_all (fun w' => Below w3.heap.size w3 w') (Below.refl _ _) ?_
          refine q_run rfl (fun K hK => ?_)
          refine q_load 25 (.tmp 7) rfl _ rfl _ (vc a) (0, 0) _ (fun w' h' => keep X7 h') Try.underlying25 rfl (by kernel_rfl) ?_
          go_simp
          refine hK _ ?_
          clear hK K
          refine q_run rfl (fun K hK => ?_)
          refine q_load 25 (.tmp 8) rfl _ rfl _ (vc b) (0, 0) _ (fun w' h' => keep X8 h') Try.underlying25 rfl (by kernel_rfl) ?_
          go_simp
          refine hK _ ?_
          clear hK K
          refine q_run rfl (fun K hK => ?_)
          refine q_call (Nat.le_refl _) hKn (fun w' => ?_) ?_
          · first | (go_simp; done) | (go_simp; rfl)
          go_simp
          refine hK _ ?_
          clear hK K
          refine q_run rfl (fun K hK => ?_)
          refine q_value ?_ (fun w' h' => ?_) ?_
          rotate_left
          · go_simp; try with_reducible rfl
          go_simp
          refine hK _ ?_
          clear hK K
          refine q_run rfl (fun K hK => ?_)
          refine q_value ?_ (fun w' h' => ?_) ?_
          rotate_left
          · go_simp; try with_reducible rfl
          go_simp
          refine hK _ ?_
          clear hK K
          refine q_run rfl (fun K hK => ?_)
          refine q_value ?_ (fun w' h' => ?_) ?_
          rotate_left
          · go_simp; try with_reducible rfl
          go_simp
          refine hK _ ?_
          clear hK K
          refine q_run rfl (fun K hK => ?_)
          refine q_load 25 (.tmp 7) rfl _ rfl _ (vc a) (0, 0) _ (fun w' h' => keep X7 h') Try.underlying25 rfl (by kernel_rfl) ?_
          go_simp
          refine hK _ ?_
          clear hK K
          refine q_run rfl (fun K hK => ?_)
          refine q_load 25 (.tmp 8) rfl _ rfl _ (vc b) (0, 0) _ (fun w' h' => keep X8 h') Try.underlying25 rfl (by kernel_rfl) ?_
          go_simp
          refine hK _ ?_
          clear hK K
          refine q_run rfl (fun K hK => ?_)
          refine q_call (Nat.le_refl _) hAh (fun w' => ?_) ?_
          · first | (go_simp; done) | (go_simp; rfl)
          go_simp
          refine hK _ ?_
          clear hK K
          refine q_run rfl (fun K hK => ?_)
          refine q_value ?_ (fun w' h' => ?_) ?_
          rotate_left
          · go_simp; try with_reducible rfl
          go_simp
          refine hK _ ?_
          clear hK K
          refine q_run rfl (fun K hK => ?_)
          refine q_value ?_ (fun w' h' => ?_) ?_
          rotate_left
          · go_simp; try with_reducible rfl
          go_simp
          refine hK _ ?_
          clear hK K
          refine q_run rfl (fun K hK => ?_)
          refine q_value ?_ (fun w' h' => ?_) ?_
          rotate_left
          · go_simp; try with_reducible rfl
          go_simp
          refine hK _ ?_
          clear hK K
          refine q_run rfl (fun K hK => ?_)
          refine q_value ?_ (fun w' h' => ?_) ?_
          rotate_left
          · go_simp; try with_reducible rfl
          go_simp
          refine hK _ ?_
          clear hK K
          refine q_run rfl (fun K hK => ?_)
          refine q_value ?_ (fun w' h' => ?_) ?_
          rotate_left
          · go_simp; try with_reducible rfl
          go_simp
          refine hK _ ?_
          clear hK K
          refine q_run rfl (fun K hK => ?_)
          refine q_value ?_ (fun w' h' => ?_) ?_
          rotate_left
          · go_simp; try with_reducible rfl
          go_simp
          refine hK _ ?_
          clear hK K
          refine q_run rfl (fun K hK => ?_)
          refine q_value ?_ (fun w' h' => ?_) ?_
          rotate_left
          · go_simp; try with_reducible rfl
          go_simp
          refine hK _ ?_
          clear hK K
          refine q_run rfl (fun K hK => ?_)
          refine q_value ?_ (fun w' h' => ?_) ?_
          rotate_left
          · go_simp; try with_reducible rfl
          go_simp
          refine hK _ ?_
          clear hK K
          refine q_run rfl (fun K hK => ?_)
          refine q_load 25 (.tmp 7) rfl _ rfl _ (vc a) (0, 0) _ (fun w' h' => keep X7 h') Try.underlying25 rfl (by kernel_rfl) ?_
          go_simp
          refine hK _ ?_
          clear hK K
          refine q_run rfl (fun K hK => ?_)
          refine q_load 25 (.tmp 8) rfl _ rfl _ (vc b) (0, 0) _ (fun w' h' => keep X8 h') Try.underlying25 rfl (by kernel_rfl) ?_
          go_simp
          refine hK _ ?_
          clear hK K
          refine q_run rfl (fun K hK => ?_)
          refine q_call (Nat.le_refl _) hAp (fun w' => ?_) ?_
          · first | (go_simp; done) | (go_simp; rfl)
          go_simp
          refine hK _ ?_
          clear hK K
          refine q_run rfl (fun K hK => ?_)
          refine q_value ?_ (fun w' h' => ?_) ?_
          rotate_left
          · go_simp; try with_reducible rfl
          go_simp
          refine hK _ ?_
          clear hK K
          refine q_run rfl (fun K hK => ?_)
          refine q_value ?_ (fun w' h' => ?_) ?_
          rotate_left
          · go_simp; try with_reducible rfl
          go_simp
          refine hK _ ?_
          clear hK K
          refine q_run rfl (fun K hK => ?_)
          refine q_value ?_ (fun w' h' => ?_) ?_
          rotate_left
          · go_simp; try with_reducible rfl
          go_simp
          refine hK _ ?_
          clear hK K
          refine q_skip rfl (fun K hK => ?_)
          go_simp
          refine hK _ ?_
          clear hK K
          refine q_skip rfl (fun K hK => ?_)
          go_simp
          refine hK _ ?_
          clear hK K
          refine q_run rfl (fun K hK => ?_)
          refine q_value ?_ (fun w' h' => ?_) ?_
          rotate_left
          · go_simp; try with_reducible rfl
          go_simp
          refine hK _ ?_
          clear hK K
          refine q_run rfl (fun K hK => ?_)
          refine q_value ?_ (fun w' h' => ?_) ?_
          rotate_left
          · go_simp; try with_reducible rfl
          go_simp
          refine hK _ ?_
          clear hK K
          refine q_run rfl (fun K hK => ?_)
          refine q_value ?_ (fun w' h' => ?_) ?_
          rotate_left
          · go_simp; try with_reducible rfl
          go_simp
          refine hK _ ?_
          clear hK K
          refine wpQuiet_nil ?_
          intro w4 h4
          replace A3 := keep A3 h4
          replace A4 := keep A4 h4
          replace X7 := keep X7 h4
          replace X8 := keep X8 h4
          replace hB := hB.trans (h4.mono hB.size)
          clear h4
          go_wp2_with (fail)
          go_meet
          exact ⟨rfl, hB⟩
    case rest =>
      obtain ⟨rfl, h5⟩ := hcut
      obtain ⟨y5, hx5⟩ : ∃ x, x = wc := ⟨_, rfl⟩
      subst hx5
      replace A3 := keep A3 h5
      replace A4 := keep A4 h5
      replace X7 := keep X7 h5
      replace X8 := keep X8 h5
      replace hB := hB.trans (h5.mono hB.size)
      clear h5
      go_upto_region 7 with (fail)
      go_cut [11, 12, 13] (fun s11 s12 s13 wx => ∃ bX11 bX12 bX13 : Nat, s11 = .pointer (some ⟨bX11, 0, none⟩) ∧ s12 = .pointer (some ⟨bX12, 0, none⟩) ∧ s13 = .pointer (some ⟨bX13, 0, none⟩) ∧ wx.heap[bX11]? = some (.cells (vc (fun i => mx (a i) (b i))) 25 (0, 0)) ∧ wx.heap[bX12]? = some (.cells (vc (fun i => mn (a i) (b i))) 25 (0, 0)) ∧ wx.heap[bX13]? = some (.cells (vc (tk a t)) 25 (0, 0)) ∧ bX11 ≠ bX12 ∧ bX11 ≠ bX13 ∧ bX12 ≠ bX13 ∧ y5.heap.size ≤ bX11 ∧ y5.heap.size ≤ bX12 ∧ y5.heap.size ≤ bX13 ∧ Below y5.heap.size y5 wx)
      case first =>
        refine grow_head 9 (fun w' => Below y5.heap.size y5 w') (by kernel_rfl) (by kernel_rfl) (by decide) (by kernel_rfl) ?_
        simp only [List.take_succ_cons, List.take_zero]
        refine g_run rfl _ (fun w' h' => ga_load 25 (.tmp 7) rfl _ rfl _ (vc a) (0, 0) _ (keep X7 h') Try.underlying25 rfl (by kernel_rfl)) (fun K hK => ?_)
        go_simp
        refine hK _ ?_
        clear hK K
        refine g_run rfl _ (fun w' h' => ga_load 25 (.tmp 8) rfl _ rfl _ (vc b) (0, 0) _ (keep X8 h') Try.underlying25 rfl (by kernel_rfl)) (fun K hK => ?_)
        go_simp
        refine hK _ ?_
        clear hK K
        refine g_run rfl _ (fun w' h' => ga_call (Join a b) ?_) (fun K hK => ?_)
        · first | (go_simp; done) | (go_simp; rfl)
        go_simp
        refine hK _ ?_
        clear hK K
        refine g_run rfl _ (fun w' h' => ga_load 25 (.tmp 7) rfl _ rfl _ (vc a) (0, 0) _ (keep X7 h') Try.underlying25 rfl (by kernel_rfl)) (fun K hK => ?_)
        go_simp
        refine hK _ ?_
        clear hK K
        refine g_run rfl _ (fun w' h' => ga_load 25 (.tmp 8) rfl _ rfl _ (vc b) (0, 0) _ (keep X8 h') Try.underlying25 rfl (by kernel_rfl)) (fun K hK => ?_)
        go_simp
        refine hK _ ?_
        clear hK K
        refine g_run rfl _ (fun w' h' => ga_call (Meet a b) ?_) (fun K hK => ?_)
        · first | (go_simp; done) | (go_simp; rfl)
        go_simp
        refine hK _ ?_
        clear hK K
        refine g_run rfl _ (fun w' h' => ga_load 25 (.tmp 7) rfl _ rfl _ (vc a) (0, 0) _ (keep X7 h') Try.underlying25 rfl (by kernel_rfl)) (fun K hK => ?_)
        go_simp
        refine hK _ ?_
        clear hK K
        refine g_run rfl ?_ (fun w' h' => ga_value ?_) (fun K hK => ?_)
        rotate_left
        · go_simp; try with_reducible rfl
        go_simp
        refine hK _ ?_
        clear hK K
        refine g_run rfl _ (fun w' h' => ga_call (Tick a t) ?_) (fun K hK => ?_)
        · first | (go_simp; done) | (go_simp; rfl)
        go_simp
        refine hK _ ?_
        clear hK K
        refine g_nil ?_
        show anyG _ _ _ _ _ _ _ _ _
        have hg0 : Below y5.heap.size y5 y5.drew := Below.drew (Below.refl _ _)
        refine anyG_ready [9, 10, 11] (by kernel_rfl) (by simp) (fun v1 g1 => ⟨hg0.trans (g1.mono hg0.size), ?_⟩)
        have hg1 := hg0.trans (g1.mono hg0.size)
        intro i hi
        simp only [List.mem_cons, List.not_mem_nil, or_false] at hi
        rcases hi with rfl | rfl | rfl
        · refine op_alloc rfl rfl 25 rfl _ _ zero25 rfl (fun u1 bX11 X11 l1 f1 => ?_)
          have e1 := f1.out
          have zX11 : y5.heap.size ≤ bX11 := by have := hg1.size; omega
          have hh1 := hg1.trans (l1.mono hg1.size)
          clear e1 f1 l1
          refine anyG_ready [10, 11] (by kernel_rfl) (by simp) (fun v2 g2 => ⟨hh1.trans (g2.mono hh1.size), ?_⟩)
          replace X11 := keep X11 g2
          have hg2 := hh1.trans (g2.mono hh1.size)
          intro i hi
          simp only [List.mem_cons, List.not_mem_nil, or_false] at hi
          rcases hi with rfl | rfl
          · refine op_alloc rfl rfl 25 rfl _ _ zero25 rfl (fun u2 bX12 X12 l2 f2 => ?_)
            have e2 := f2.out
            have nX11X12 : bX11 ≠ bX12 := by have := blk_lt X11; omega
            have zX12 : y5.heap.size ≤ bX12 := by have := hg2.size; omega
            replace X11 := keep X11 l2
            have hh2 := hg2.trans (l2.mono hg2.size)
            clear e2 f2 l2
            refine anyG_ready [11] (by kernel_rfl) (by simp) (fun v3 g3 => ⟨hh2.trans (g3.mono hh2.size), ?_⟩)
            replace X11 := keep X11 g3
            replace X12 := keep X12 g3
            have hg3 := hh2.trans (g3.mono hh2.size)
            intro i hi
            simp only [List.mem_cons, List.not_mem_nil, or_false] at hi
            subst hi
            refine op_alloc rfl rfl 25 rfl _ _ zero25 rfl (fun u3 bX13 X13 l3 f3 => ?_)
            have e3 := f3.out
            have nX11X13 : bX11 ≠ bX13 := by have := blk_lt X11; omega
            have nX12X13 : bX12 ≠ bX13 := by have := blk_lt X12; omega
            have zX13 : y5.heap.size ≤ bX13 := by have := hg3.size; omega
            replace X11 := keep X11 l3
            replace X12 := keep X12 l3
            have hh3 := hg3.trans (l3.mono hg3.size)
            clear e3 f3 l3
            refine anyG_ready [12] (by kernel_rfl) (by simp) (fun v5 g5 => ⟨hh3.trans (g5.mono hh3.size), ?_⟩)
            replace X11 := keep X11 g5
            replace X12 := keep X12 g5
            replace X13 := keep X13 g5
            have hg5 := hh3.trans (g5.mono hh3.size)
            intro i hi
            simp only [List.mem_cons, List.not_mem_nil, or_false] at hi
            subst hi
            refine op_store rfl rfl 25 (.tmp 11) (.tmp 56) rfl bX11 (vc (fun i => mx (a i) (b i))) rfl rfl 25 _ X11 (by kernel_rfl) rfl (vc_one _) (fun u5 p5 m5 q5 => ?_)
            replace X12 := (m5 _ nX11X12.symm).trans X12
            replace X13 := (m5 _ nX11X13.symm).trans X13
            replace X11 := p5
            have hh5 := hg5.trans (q5 _ zX11)
            refine anyG_ready [13] (by kernel_rfl) (by simp) (fun v6 g6 => ⟨hh5.trans (g6.mono hh5.size), ?_⟩)
            replace X11 := keep X11 g6
            replace X12 := keep X12 g6
            replace X13 := keep X13 g6
            have hg6 := hh5.trans (g6.mono hh5.size)
            intro i hi
            simp only [List.mem_cons, List.not_mem_nil, or_false] at hi
            subst hi
            refine op_store rfl rfl 25 (.tmp 12) (.tmp 59) rfl bX12 (vc (fun i => mn (a i) (b i))) rfl rfl 25 _ X12 (by kernel_rfl) rfl (vc_one _) (fun u6 p6 m6 q6 => ?_)
            replace X11 := (m6 _ nX11X12).trans X11
            replace X13 := (m6 _ nX12X13.symm).trans X13
            replace X12 := p6
            have hh6 := hg6.trans (q6 _ zX12)
            refine anyG_ready [14] (by kernel_rfl) (by simp) (fun v7 g7 => ⟨hh6.trans (g7.mono hh6.size), ?_⟩)
            replace X11 := keep X11 g7
            replace X12 := keep X12 g7
            replace X13 := keep X13 g7
            have hg7 := hh6.trans (g7.mono hh6.size)
            intro i hi
            simp only [List.mem_cons, List.not_mem_nil, or_false] at hi
            subst hi
            refine op_store rfl rfl 25 (.tmp 13) (.tmp 62) rfl bX13 (vc (tk a t)) rfl rfl 25 _ X13 (by kernel_rfl) rfl (vc_one _) (fun u7 p7 m7 q7 => ?_)
            replace X11 := (m7 _ nX11X13).trans X11
            replace X12 := (m7 _ nX12X13).trans X12
            replace X13 := p7
            have hh7 := hg7.trans (q7 _ zX13)
            refine anyG_end (by kernel_rfl) (fun v8 g8 => ⟨hh7.trans (g8.mono hh7.size), ?_⟩)
            replace X11 := keep X11 g8
            replace X12 := keep X12 g8
            replace X13 := keep X13 g8
            have hg8 := hh7.trans (g8.mono hh7.size)
            go_wp2_with (fail)
            go_meet
            exact ⟨bX11, bX12, bX13, rfl, rfl, rfl, X11, X12, X13, nX11X12, nX11X13, nX12X13, zX11, zX12, zX13, hg8⟩
          · refine op_alloc rfl rfl 25 rfl _ _ zero25 rfl (fun u2 bX13 X13 l2 f2 => ?_)
            have e2 := f2.out
            have nX11X13 : bX11 ≠ bX13 := by have := blk_lt X11; omega
            have zX13 : y5.heap.size ≤ bX13 := by have := hg2.size; omega
            replace X11 := keep X11 l2
            have hh2 := hg2.trans (l2.mono hg2.size)
            clear e2 f2 l2
            refine anyG_ready [10] (by kernel_rfl) (by simp) (fun v9 g9 => ⟨hh2.trans (g9.mono hh2.size), ?_⟩)
            replace X11 := keep X11 g9
            replace X13 := keep X13 g9
            have hg9 := hh2.trans (g9.mono hh2.size)
            intro i hi
            simp only [List.mem_cons, List.not_mem_nil, or_false] at hi
            subst hi
            refine op_alloc rfl rfl 25 rfl _ _ zero25 rfl (fun u9 bX12 X12 l9 f9 => ?_)
            have e9 := f9.out
            have nX11X12 : bX11 ≠ bX12 := by have := blk_lt X11; omega
            have nX12X13 : bX12 ≠ bX13 := by have := blk_lt X13; omega
            have zX12 : y5.heap.size ≤ bX12 := by have := hg9.size; omega
            replace X11 := keep X11 l9
            replace X13 := keep X13 l9
            have hh9 := hg9.trans (l9.mono hg9.size)
            clear e9 f9 l9
            refine anyG_ready [12] (by kernel_rfl) (by simp) (fun v11 g11 => ⟨hh9.trans (g11.mono hh9.size), ?_⟩)
            replace X11 := keep X11 g11
            replace X12 := keep X12 g11
            replace X13 := keep X13 g11
            have hg11 := hh9.trans (g11.mono hh9.size)
            intro i hi
            simp only [List.mem_cons, List.not_mem_nil, or_false] at hi
            subst hi
            refine op_store rfl rfl 25 (.tmp 11) (.tmp 56) rfl bX11 (vc (fun i => mx (a i) (b i))) rfl rfl 25 _ X11 (by kernel_rfl) rfl (vc_one _) (fun u11 p11 m11 q11 => ?_)
            replace X12 := (m11 _ nX11X12.symm).trans X12
            replace X13 := (m11 _ nX11X13.symm).trans X13
            replace X11 := p11
            have hh11 := hg11.trans (q11 _ zX11)
            refine anyG_ready [13] (by kernel_rfl) (by simp) (fun v12 g12 => ⟨hh11.trans (g12.mono hh11.size), ?_⟩)
            replace X11 := keep X11 g12
            replace X12 := keep X12 g12
            replace X13 := keep X13 g12
            have hg12 := hh11.trans (g12.mono hh11.size)
            intro i hi
            simp only [List.mem_cons, List.not_mem_nil, or_false] at hi
            subst hi
            refine op_store rfl rfl 25 (.tmp 12) (.tmp 59) rfl bX12 (vc (fun i => mn (a i) (b i))) rfl rfl 25 _ X12 (by kernel_rfl) rfl (vc_one _) (fun u12 p12 m12 q12 => ?_)
            replace X11 := (m12 _ nX11X12).trans X11
            replace X13 := (m12 _ nX12X13.symm).trans X13
            replace X12 := p12
            have hh12 := hg12.trans (q12 _ zX12)
            refine anyG_ready [14] (by kernel_rfl) (by simp) (fun v13 g13 => ⟨hh12.trans (g13.mono hh12.size), ?_⟩)
            replace X11 := keep X11 g13
            replace X12 := keep X12 g13
            replace X13 := keep X13 g13
            have hg13 := hh12.trans (g13.mono hh12.size)
            intro i hi
            simp only [List.mem_cons, List.not_mem_nil, or_false] at hi
            subst hi
            refine op_store rfl rfl 25 (.tmp 13) (.tmp 62) rfl bX13 (vc (tk a t)) rfl rfl 25 _ X13 (by kernel_rfl) rfl (vc_one _) (fun u13 p13 m13 q13 => ?_)
            replace X11 := (m13 _ nX11X13).trans X11
            replace X12 := (m13 _ nX12X13).trans X12
            replace X13 := p13
            have hh13 := hg13.trans (q13 _ zX13)
            refine anyG_end (by kernel_rfl) (fun v14 g14 => ⟨hh13.trans (g14.mono hh13.size), ?_⟩)
            replace X11 := keep X11 g14
            replace X12 := keep X12 g14
            replace X13 := keep X13 g14
            have hg14 := hh13.trans (g14.mono hh13.size)
            go_wp2_with (fail)
            go_meet
            exact ⟨bX11, bX12, bX13, rfl, rfl, rfl, X11, X12, X13, nX11X12, nX11X13, nX12X13, zX11, zX12, zX13, hg14⟩
        · refine op_alloc rfl rfl 25 rfl _ _ zero25 rfl (fun u1 bX12 X12 l1 f1 => ?_)
          have e1 := f1.out
          have zX12 : y5.heap.size ≤ bX12 := by have := hg1.size; omega
          have hh1 := hg1.trans (l1.mono hg1.size)
          clear e1 f1 l1
          refine anyG_ready [9, 11] (by kernel_rfl) (by simp) (fun v15 g15 => ⟨hh1.trans (g15.mono hh1.size), ?_⟩)
          replace X12 := keep X12 g15
          have hg15 := hh1.trans (g15.mono hh1.size)
          intro i hi
          simp only [List.mem_cons, List.not_mem_nil, or_false] at hi
          rcases hi with rfl | rfl
          · refine op_alloc rfl rfl 25 rfl _ _ zero25 rfl (fun u15 bX11 X11 l15 f15 => ?_)
            have e15 := f15.out
            have nX11X12 : bX11 ≠ bX12 := by have := blk_lt X12; omega
            have zX11 : y5.heap.size ≤ bX11 := by have := hg15.size; omega
            replace X12 := keep X12 l15
            have hh15 := hg15.trans (l15.mono hg15.size)
            clear e15 f15 l15
            refine anyG_ready [11] (by kernel_rfl) (by simp) (fun v16 g16 => ⟨hh15.trans (g16.mono hh15.size), ?_⟩)
            replace X12 := keep X12 g16
            replace X11 := keep X11 g16
            have hg16 := hh15.trans (g16.mono hh15.size)
            intro i hi
            simp only [List.mem_cons, List.not_mem_nil, or_false] at hi
            subst hi
            refine op_alloc rfl rfl 25 rfl _ _ zero25 rfl (fun u16 bX13 X13 l16 f16 => ?_)
            have e16 := f16.out
            have nX12X13 : bX12 ≠ bX13 := by have := blk_lt X12; omega
            have nX11X13 : bX11 ≠ bX13 := by have := blk_lt X11; omega
            have zX13 : y5.heap.size ≤ bX13 := by have := hg16.size; omega
            replace X12 := keep X12 l16
            replace X11 := keep X11 l16
            have hh16 := hg16.trans (l16.mono hg16.size)
            clear e16 f16 l16
            refine anyG_ready [12] (by kernel_rfl) (by simp) (fun v18 g18 => ⟨hh16.trans (g18.mono hh16.size), ?_⟩)
            replace X11 := keep X11 g18
            replace X12 := keep X12 g18
            replace X13 := keep X13 g18
            have hg18 := hh16.trans (g18.mono hh16.size)
            intro i hi
            simp only [List.mem_cons, List.not_mem_nil, or_false] at hi
            subst hi
            refine op_store rfl rfl 25 (.tmp 11) (.tmp 56) rfl bX11 (vc (fun i => mx (a i) (b i))) rfl rfl 25 _ X11 (by kernel_rfl) rfl (vc_one _) (fun u18 p18 m18 q18 => ?_)
            replace X12 := (m18 _ nX11X12.symm).trans X12
            replace X13 := (m18 _ nX11X13.symm).trans X13
            replace X11 := p18
            have hh18 := hg18.trans (q18 _ zX11)
            refine anyG_ready [13] (by kernel_rfl) (by simp) (fun v19 g19 => ⟨hh18.trans (g19.mono hh18.size), ?_⟩)
            replace X11 := keep X11 g19
            replace X12 := keep X12 g19
            replace X13 := keep X13 g19
            have hg19 := hh18.trans (g19.mono hh18.size)
            intro i hi
            simp only [List.mem_cons, List.not_mem_nil, or_false] at hi
            subst hi
            refine op_store rfl rfl 25 (.tmp 12) (.tmp 59) rfl bX12 (vc (fun i => mn (a i) (b i))) rfl rfl 25 _ X12 (by kernel_rfl) rfl (vc_one _) (fun u19 p19 m19 q19 => ?_)
            replace X11 := (m19 _ nX11X12).trans X11
            replace X13 := (m19 _ nX12X13.symm).trans X13
            replace X12 := p19
            have hh19 := hg19.trans (q19 _ zX12)
            refine anyG_ready [14] (by kernel_rfl) (by simp) (fun v20 g20 => ⟨hh19.trans (g20.mono hh19.size), ?_⟩)
            replace X11 := keep X11 g20
            replace X12 := keep X12 g20
            replace X13 := keep X13 g20
            have hg20 := hh19.trans (g20.mono hh19.size)
            intro i hi
            simp only [List.mem_cons, List.not_mem_nil, or_false] at hi
            subst hi
            refine op_store rfl rfl 25 (.tmp 13) (.tmp 62) rfl bX13 (vc (tk a t)) rfl rfl 25 _ X13 (by kernel_rfl) rfl (vc_one _) (fun u20 p20 m20 q20 => ?_)
            replace X11 := (m20 _ nX11X13).trans X11
            replace X12 := (m20 _ nX12X13).trans X12
            replace X13 := p20
            have hh20 := hg20.trans (q20 _ zX13)
            refine anyG_end (by kernel_rfl) (fun v21 g21 => ⟨hh20.trans (g21.mono hh20.size), ?_⟩)
            replace X11 := keep X11 g21
            replace X12 := keep X12 g21
            replace X13 := keep X13 g21
            have hg21 := hh20.trans (g21.mono hh20.size)
            go_wp2_with (fail)
            go_meet
            exact ⟨bX11, bX12, bX13, rfl, rfl, rfl, X11, X12, X13, nX11X12, nX11X13, nX12X13, zX11, zX12, zX13, hg21⟩
          · refine op_alloc rfl rfl 25 rfl _ _ zero25 rfl (fun u15 bX13 X13 l15 f15 => ?_)
            have e15 := f15.out
            have nX12X13 : bX12 ≠ bX13 := by have := blk_lt X12; omega
            have zX13 : y5.heap.size ≤ bX13 := by have := hg15.size; omega
            replace X12 := keep X12 l15
            have hh15 := hg15.trans (l15.mono hg15.size)
            clear e15 f15 l15
            refine anyG_ready [9] (by kernel_rfl) (by simp) (fun v22 g22 => ⟨hh15.trans (g22.mono hh15.size), ?_⟩)
            replace X12 := keep X12 g22
            replace X13 := keep X13 g22
            have hg22 := hh15.trans (g22.mono hh15.size)
            intro i hi
            simp only [List.mem_cons, List.not_mem_nil, or_false] at hi
            subst hi
            refine op_alloc rfl rfl 25 rfl _ _ zero25 rfl (fun u22 bX11 X11 l22 f22 => ?_)
            have e22 := f22.out
            have nX11X12 : bX11 ≠ bX12 := by have := blk_lt X12; omega
            have nX11X13 : bX11 ≠ bX13 := by have := blk_lt X13; omega
            have zX11 : y5.heap.size ≤ bX11 := by have := hg22.size; omega
            replace X12 := keep X12 l22
            replace X13 := keep X13 l22
            have hh22 := hg22.trans (l22.mono hg22.size)
            clear e22 f22 l22
            refine anyG_ready [12] (by kernel_rfl) (by simp) (fun v24 g24 => ⟨hh22.trans (g24.mono hh22.size), ?_⟩)
            replace X11 := keep X11 g24
            replace X12 := keep X12 g24
            replace X13 := keep X13 g24
            have hg24 := hh22.trans (g24.mono hh22.size)
            intro i hi
            simp only [List.mem_cons, List.not_mem_nil, or_false] at hi
            subst hi
            refine op_store rfl rfl 25 (.tmp 11) (.tmp 56) rfl bX11 (vc (fun i => mx (a i) (b i))) rfl rfl 25 _ X11 (by kernel_rfl) rfl (vc_one _) (fun u24 p24 m24 q24 => ?_)
            replace X12 := (m24 _ nX11X12.symm).trans X12
            replace X13 := (m24 _ nX11X13.symm).trans X13
            replace X11 := p24
            have hh24 := hg24.trans (q24 _ zX11)
            refine anyG_ready [13] (by kernel_rfl) (by simp) (fun v25 g25 => ⟨hh24.trans (g25.mono hh24.size), ?_⟩)
            replace X11 := keep X11 g25
            replace X12 := keep X12 g25
            replace X13 := keep X13 g25
            have hg25 := hh24.trans (g25.mono hh24.size)
            intro i hi
            simp only [List.mem_cons, List.not_mem_nil, or_false] at hi
            subst hi
            refine op_store rfl rfl 25 (.tmp 12) (.tmp 59) rfl bX12 (vc (fun i => mn (a i) (b i))) rfl rfl 25 _ X12 (by kernel_rfl) rfl (vc_one _) (fun u25 p25 m25 q25 => ?_)
            replace X11 := (m25 _ nX11X12).trans X11
            replace X13 := (m25 _ nX12X13.symm).trans X13
            replace X12 := p25
            have hh25 := hg25.trans (q25 _ zX12)
            refine anyG_ready [14] (by kernel_rfl) (by simp) (fun v26 g26 => ⟨hh25.trans (g26.mono hh25.size), ?_⟩)
            replace X11 := keep X11 g26
            replace X12 := keep X12 g26
            replace X13 := keep X13 g26
            have hg26 := hh25.trans (g26.mono hh25.size)
            intro i hi
            simp only [List.mem_cons, List.not_mem_nil, or_false] at hi
            subst hi
            refine op_store rfl rfl 25 (.tmp 13) (.tmp 62) rfl bX13 (vc (tk a t)) rfl rfl 25 _ X13 (by kernel_rfl) rfl (vc_one _) (fun u26 p26 m26 q26 => ?_)
            replace X11 := (m26 _ nX11X13).trans X11
            replace X12 := (m26 _ nX12X13).trans X12
            replace X13 := p26
            have hh26 := hg26.trans (q26 _ zX13)
            refine anyG_end (by kernel_rfl) (fun v27 g27 => ⟨hh26.trans (g27.mono hh26.size), ?_⟩)
            replace X11 := keep X11 g27
            replace X12 := keep X12 g27
            replace X13 := keep X13 g27
            have hg27 := hh26.trans (g27.mono hh26.size)
            go_wp2_with (fail)
            go_meet
            exact ⟨bX11, bX12, bX13, rfl, rfl, rfl, X11, X12, X13, nX11X12, nX11X13, nX12X13, zX11, zX12, zX13, hg27⟩
        · refine op_alloc rfl rfl 25 rfl _ _ zero25 rfl (fun u1 bX13 X13 l1 f1 => ?_)
          have e1 := f1.out
          have zX13 : y5.heap.size ≤ bX13 := by have := hg1.size; omega
          have hh1 := hg1.trans (l1.mono hg1.size)
          clear e1 f1 l1
          refine anyG_ready [9, 10] (by kernel_rfl) (by simp) (fun v28 g28 => ⟨hh1.trans (g28.mono hh1.size), ?_⟩)
          replace X13 := keep X13 g28
          have hg28 := hh1.trans (g28.mono hh1.size)
          intro i hi
          simp only [List.mem_cons, List.not_mem_nil, or_false] at hi
          rcases hi with rfl | rfl
          · refine op_alloc rfl rfl 25 rfl _ _ zero25 rfl (fun u28 bX11 X11 l28 f28 => ?_)
            have e28 := f28.out
            have nX11X13 : bX11 ≠ bX13 := by have := blk_lt X13; omega
            have zX11 : y5.heap.size ≤ bX11 := by have := hg28.size; omega
            replace X13 := keep X13 l28
            have hh28 := hg28.trans (l28.mono hg28.size)
            clear e28 f28 l28
            refine anyG_ready [10] (by kernel_rfl) (by simp) (fun v29 g29 => ⟨hh28.trans (g29.mono hh28.size), ?_⟩)
            replace X13 := keep X13 g29
            replace X11 := keep X11 g29
            have hg29 := hh28.trans (g29.mono hh28.size)
            intro i hi
            simp only [List.mem_cons, List.not_mem_nil, or_false] at hi
            subst hi
            refine op_alloc rfl rfl 25 rfl _ _ zero25 rfl (fun u29 bX12 X12 l29 f29 => ?_)
            have e29 := f29.out
            have nX12X13 : bX12 ≠ bX13 := by have := blk_lt X13; omega
            have nX11X12 : bX11 ≠ bX12 := by have := blk_lt X11; omega
            have zX12 : y5.heap.size ≤ bX12 := by have := hg29.size; omega
            replace X13 := keep X13 l29
            replace X11 := keep X11 l29
            have hh29 := hg29.trans (l29.mono hg29.size)
            clear e29 f29 l29
            refine anyG_ready [12] (by kernel_rfl) (by simp) (fun v31 g31 => ⟨hh29.trans (g31.mono hh29.size), ?_⟩)
            replace X11 := keep X11 g31
            replace X12 := keep X12 g31
            replace X13 := keep X13 g31
            have hg31 := hh29.trans (g31.mono hh29.size)
            intro i hi
            simp only [List.mem_cons, List.not_mem_nil, or_false] at hi
            subst hi
            refine op_store rfl rfl 25 (.tmp 11) (.tmp 56) rfl bX11 (vc (fun i => mx (a i) (b i))) rfl rfl 25 _ X11 (by kernel_rfl) rfl (vc_one _) (fun u31 p31 m31 q31 => ?_)
            replace X12 := (m31 _ nX11X12.symm).trans X12
            replace X13 := (m31 _ nX11X13.symm).trans X13
            replace X11 := p31
            have hh31 := hg31.trans (q31 _ zX11)
            refine anyG_ready [13] (by kernel_rfl) (by simp) (fun v32 g32 => ⟨hh31.trans (g32.mono hh31.size), ?_⟩)
            replace X11 := keep X11 g32
            replace X12 := keep X12 g32
            replace X13 := keep X13 g32
            have hg32 := hh31.trans (g32.mono hh31.size)
            intro i hi
            simp only [List.mem_cons, List.not_mem_nil, or_false] at hi
            subst hi
            refine op_store rfl rfl 25 (.tmp 12) (.tmp 59) rfl bX12 (vc (fun i => mn (a i) (b i))) rfl rfl 25 _ X12 (by kernel_rfl) rfl (vc_one _) (fun u32 p32 m32 q32 => ?_)
            replace X11 := (m32 _ nX11X12).trans X11
            replace X13 := (m32 _ nX12X13.symm).trans X13
            replace X12 := p32
            have hh32 := hg32.trans (q32 _ zX12)
            refine anyG_ready [14] (by kernel_rfl) (by simp) (fun v33 g33 => ⟨hh32.trans (g33.mono hh32.size), ?_⟩)
            replace X11 := keep X11 g33
            replace X12 := keep X12 g33
            replace X13 := keep X13 g33
            have hg33 := hh32.trans (g33.mono hh32.size)
            intro i hi
            simp only [List.mem_cons, List.not_mem_nil, or_false] at hi
            subst hi
            refine op_store rfl rfl 25 (.tmp 13) (.tmp 62) rfl bX13 (vc (tk a t)) rfl rfl 25 _ X13 (by kernel_rfl) rfl (vc_one _) (fun u33 p33 m33 q33 => ?_)
            replace X11 := (m33 _ nX11X13).trans X11
            replace X12 := (m33 _ nX12X13).trans X12
            replace X13 := p33
            have hh33 := hg33.trans (q33 _ zX13)
            refine anyG_end (by kernel_rfl) (fun v34 g34 => ⟨hh33.trans (g34.mono hh33.size), ?_⟩)
            replace X11 := keep X11 g34
            replace X12 := keep X12 g34
            replace X13 := keep X13 g34
            have hg34 := hh33.trans (g34.mono hh33.size)
            go_wp2_with (fail)
            go_meet
            exact ⟨bX11, bX12, bX13, rfl, rfl, rfl, X11, X12, X13, nX11X12, nX11X13, nX12X13, zX11, zX12, zX13, hg34⟩
          · refine op_alloc rfl rfl 25 rfl _ _ zero25 rfl (fun u28 bX12 X12 l28 f28 => ?_)
            have e28 := f28.out
            have nX12X13 : bX12 ≠ bX13 := by have := blk_lt X13; omega
            have zX12 : y5.heap.size ≤ bX12 := by have := hg28.size; omega
            replace X13 := keep X13 l28
            have hh28 := hg28.trans (l28.mono hg28.size)
            clear e28 f28 l28
            refine anyG_ready [9] (by kernel_rfl) (by simp) (fun v35 g35 => ⟨hh28.trans (g35.mono hh28.size), ?_⟩)
            replace X13 := keep X13 g35
            replace X12 := keep X12 g35
            have hg35 := hh28.trans (g35.mono hh28.size)
            intro i hi
            simp only [List.mem_cons, List.not_mem_nil, or_false] at hi
            subst hi
            refine op_alloc rfl rfl 25 rfl _ _ zero25 rfl (fun u35 bX11 X11 l35 f35 => ?_)
            have e35 := f35.out
            have nX11X13 : bX11 ≠ bX13 := by have := blk_lt X13; omega
            have nX11X12 : bX11 ≠ bX12 := by have := blk_lt X12; omega
            have zX11 : y5.heap.size ≤ bX11 := by have := hg35.size; omega
            replace X13 := keep X13 l35
            replace X12 := keep X12 l35
            have hh35 := hg35.trans (l35.mono hg35.size)
            clear e35 f35 l35
            refine anyG_ready [12] (by kernel_rfl) (by simp) (fun v37 g37 => ⟨hh35.trans (g37.mono hh35.size), ?_⟩)
            replace X11 := keep X11 g37
            replace X12 := keep X12 g37
            replace X13 := keep X13 g37
            have hg37 := hh35.trans (g37.mono hh35.size)
            intro i hi
            simp only [List.mem_cons, List.not_mem_nil, or_false] at hi
            subst hi
            refine op_store rfl rfl 25 (.tmp 11) (.tmp 56) rfl bX11 (vc (fun i => mx (a i) (b i))) rfl rfl 25 _ X11 (by kernel_rfl) rfl (vc_one _) (fun u37 p37 m37 q37 => ?_)
            replace X12 := (m37 _ nX11X12.symm).trans X12
            replace X13 := (m37 _ nX11X13.symm).trans X13
            replace X11 := p37
            have hh37 := hg37.trans (q37 _ zX11)
            refine anyG_ready [13] (by kernel_rfl) (by simp) (fun v38 g38 => ⟨hh37.trans (g38.mono hh37.size), ?_⟩)
            replace X11 := keep X11 g38
            replace X12 := keep X12 g38
            replace X13 := keep X13 g38
            have hg38 := hh37.trans (g38.mono hh37.size)
            intro i hi
            simp only [List.mem_cons, List.not_mem_nil, or_false] at hi
            subst hi
            refine op_store rfl rfl 25 (.tmp 12) (.tmp 59) rfl bX12 (vc (fun i => mn (a i) (b i))) rfl rfl 25 _ X12 (by kernel_rfl) rfl (vc_one _) (fun u38 p38 m38 q38 => ?_)
            replace X11 := (m38 _ nX11X12).trans X11
            replace X13 := (m38 _ nX12X13.symm).trans X13
            replace X12 := p38
            have hh38 := hg38.trans (q38 _ zX12)
            refine anyG_ready [14] (by kernel_rfl) (by simp) (fun v39 g39 => ⟨hh38.trans (g39.mono hh38.size), ?_⟩)
            replace X11 := keep X11 g39
            replace X12 := keep X12 g39
            replace X13 := keep X13 g39
            have hg39 := hh38.trans (g39.mono hh38.size)
            intro i hi
            simp only [List.mem_cons, List.not_mem_nil, or_false] at hi
            subst hi
            refine op_store rfl rfl 25 (.tmp 13) (.tmp 62) rfl bX13 (vc (tk a t)) rfl rfl 25 _ X13 (by kernel_rfl) rfl (vc_one _) (fun u39 p39 m39 q39 => ?_)
            replace X11 := (m39 _ nX11X13).trans X11
            replace X12 := (m39 _ nX12X13).trans X12
            replace X13 := p39
            have hh39 := hg39.trans (q39 _ zX13)
            refine anyG_end (by kernel_rfl) (fun v40 g40 => ⟨hh39.trans (g40.mono hh39.size), ?_⟩)
            replace X11 := keep X11 g40
            replace X12 := keep X12 g40
            replace X13 := keep X13 g40
            have hg40 := hh39.trans (g40.mono hh39.size)
            go_wp2_with (fail)
            go_meet
            exact ⟨bX11, bX12, bX13, rfl, rfl, rfl, X11, X12, X13, nX11X12, nX11X13, nX12X13, zX11, zX12, zX13, hg40⟩
      case rest =>
        obtain ⟨bX11, bX12, bX13, rfl, rfl, rfl, X11, X12, X13, NX11X12, NX11X13, NX12X13, ZX11, ZX12, ZX13, h4⟩ := hcut
        obtain ⟨w4, hx4⟩ : ∃ x, x = wc := ⟨_, rfl⟩
        subst hx4
        replace A3 := keep A3 h4
        replace A4 := keep A4 h4
        replace X7 := keep X7 h4
        replace X8 := keep X8 h4
        replace hB := hB.trans (h4.mono hB.size)
        clear h4
        clear hR1 hR2 hKn hAh hAp X7 X8
        go_wp2_with fail
        go_loopw [14] (fun i wr => ∃ k : Nat, k ≤ 8 ∧ i = .int .i64 k ∧ Below w4.heap.size w4 wr) (fun i _ => 8 - (intOf i).toNat)
        case atStart => exact ⟨0, by omega, rfl, Below.refl _ _⟩
        case round =>
          obtain ⟨k, hk, rfl, hb⟩ := hrel
          by_cases hlt : k < 8
          · have hl : (k : Int) < 8 := by omega
            have hl0 : (0 : Int) ≤ k := by omega
            have A3r := keep A3 hb
            have A4r := keep A4 hb
            have X11r := keep X11 hb
            have X12r := keep X12 hb
            have X13r := keep X13 hb
            have emx : mx (a k) (b k) = if b k > a k then b k else a k := rfl
            have emn : mn (a k) (b k) = if b k < a k then b k else a k := rfl
            by_cases hit : (k : Int) = t
            · have q1 : ((k : Int) == t) = true := by simp [hit]
              have etk : tk a t k = (a k + 1) % 4294967296 := by simp [tk, hit]
              clear hit
              clear hB
              have hB := hb
              clear hb
              go_upto_region 11 with (fail)
              refine plain_all (fun w' => Below wr.heap.size wr w') (Below.refl _ _) ?_
              refine q_run rfl (fun K hK => ?_)
              refine q_value ?_ (fun w' h' => ?_) ?_
              rotate_left
              · go_simp; try with_reducible rfl
              go_simp
              refine hK _ ?_
              clear hK K
              refine q_run rfl (fun K hK => ?_)
              refine q_value ?_ (fun w' h' => ?_) ?_
              rotate_left
              · go_simp; try with_reducible rfl
              go_simp
              refine hK _ ?_
              clear hK K
              refine q_run rfl (fun K hK => ?_)
              refine q_value ?_ (fun w' h' => ?_) ?_
              rotate_left
              · have c := cell_of_row w' _ k _ _ _ (keep A3r h'); rw [vc_at a k hlt] at c; go_simp; try with_reducible rfl
              go_simp
              refine hK _ ?_
              clear hK K
              refine q_run rfl (fun K hK => ?_)
              refine q_value ?_ (fun w' h' => ?_) ?_
              rotate_left
              · go_simp; try with_reducible rfl
              go_simp
              refine hK _ ?_
              clear hK K
              refine wpQuiet_nil ?_
              intro w5 h5
              replace A3r := keep A3r h5
              replace A4r := keep A4r h5
              replace X11r := keep X11r h5
              replace X12r := keep X12r h5
              replace X13r := keep X13r h5
              replace hB := hB.trans (h5.mono hB.size)
              clear h5
              go_upto_region 14 with (fail)
              refine quiet_all (fun w' => Below w5.heap.size w5 w') (by kernel_rfl) (by kernel_rfl) (Below.drew (Below.refl _ _)) ?_
              refine q_run rfl (fun K hK => ?_)
              refine q_value ?_ (fun w' h' => ?_) ?_
              rotate_left
              · go_simp; try with_reducible rfl
              go_simp
              refine hK _ ?_
              clear hK K
              refine q_run rfl (fun K hK => ?_)
              refine q_value ?_ (fun w' h' => ?_) ?_
              rotate_left
              · go_simp; try with_reducible rfl
              go_simp
              refine hK _ ?_
              clear hK K
              refine q_run rfl (fun K hK => ?_)
              refine q_value ?_ (fun w' h' => ?_) ?_
              rotate_left
              · have c := cell_of_row w' _ k _ _ _ (keep X11r h'); rw [vc_at (fun i => mx (a i) (b i)) k hlt] at c; go_simp; try with_reducible rfl
              go_simp
              refine hK _ ?_
              clear hK K
              refine q_run rfl (fun K hK => ?_)
              refine q_value ?_ (fun w' h' => ?_) ?_
              rotate_left
              · go_simp; try with_reducible rfl
              go_simp
              refine hK _ ?_
              clear hK K
              refine q_run rfl (fun K hK => ?_)
              refine q_value ?_ (fun w' h' => ?_) ?_
              rotate_left
              · go_simp; try with_reducible rfl
              go_simp
              refine hK _ ?_
              clear hK K
              refine q_run rfl (fun K hK => ?_)
              refine q_value ?_ (fun w' h' => ?_) ?_
              rotate_left
              · have c := cell_of_row w' _ k _ _ _ (keep A3r h'); rw [vc_at a k hlt] at c; go_simp; try with_reducible rfl
              go_simp
              refine hK _ ?_
              clear hK K
              refine q_run rfl (fun K hK => ?_)
              refine q_value ?_ (fun w' h' => ?_) ?_
              rotate_left
              · go_simp; try with_reducible rfl
              go_simp
              refine hK _ ?_
              clear hK K
              refine q_run rfl (fun K hK => ?_)
              refine q_value ?_ (fun w' h' => ?_) ?_
              rotate_left
              · go_simp; try with_reducible rfl
              go_simp
              refine hK _ ?_
              clear hK K
              refine q_run rfl (fun K hK => ?_)
              refine q_value ?_ (fun w' h' => ?_) ?_
              rotate_left
              · have c := cell_of_row w' _ k _ _ _ (keep A4r h'); rw [vc_at b k hlt] at c; go_simp; try with_reducible rfl
              go_simp
              refine hK _ ?_
              clear hK K
              refine q_run rfl (fun K hK => ?_)
              refine q_value ?_ (fun w' h' => ?_) ?_
              rotate_left
              · go_simp; try with_reducible rfl
              go_simp
              refine hK _ ?_
              clear hK K
              refine q_run rfl (fun K hK => ?_)
              refine q_value ?_ (fun w' h' => ?_) ?_
              rotate_left
              · go_simp; try with_reducible rfl
              go_simp
              refine hK _ ?_
              clear hK K
              refine q_run rfl (fun K hK => ?_)
              refine q_value ?_ (fun w' h' => ?_) ?_
              rotate_left
              · go_simp; try with_reducible rfl
              go_simp
              refine hK _ ?_
              clear hK K
              refine q_run rfl (fun K hK => ?_)
              refine q_value ?_ (fun w' h' => ?_) ?_
              rotate_left
              · go_simp; try with_reducible rfl
              go_simp
              refine hK _ ?_
              clear hK K
              refine q_run rfl (fun K hK => ?_)
              refine q_value ?_ (fun w' h' => ?_) ?_
              rotate_left
              · go_simp; try with_reducible rfl
              go_simp
              refine hK _ ?_
              clear hK K
              refine q_run rfl (fun K hK => ?_)
              refine q_value ?_ (fun w' h' => ?_) ?_
              rotate_left
              · have c := cell_of_row w' _ k _ _ _ (keep X12r h'); rw [vc_at (fun i => mn (a i) (b i)) k hlt] at c; go_simp; try with_reducible rfl
              go_simp
              refine hK _ ?_
              clear hK K
              refine q_run rfl (fun K hK => ?_)
              refine q_value ?_ (fun w' h' => ?_) ?_
              rotate_left
              · go_simp; try with_reducible rfl
              go_simp
              refine hK _ ?_
              clear hK K
              refine q_run rfl (fun K hK => ?_)
              refine q_value ?_ (fun w' h' => ?_) ?_
              rotate_left
              · go_simp; try with_reducible rfl
              go_simp
              refine hK _ ?_
              clear hK K
              refine q_run rfl (fun K hK => ?_)
              refine q_value ?_ (fun w' h' => ?_) ?_
              rotate_left
              · have c := cell_of_row w' _ k _ _ _ (keep A3r h'); rw [vc_at a k hlt] at c; go_simp; try with_reducible rfl
              go_simp
              refine hK _ ?_
              clear hK K
              refine q_run rfl (fun K hK => ?_)
              refine q_value ?_ (fun w' h' => ?_) ?_
              rotate_left
              · go_simp; try with_reducible rfl
              go_simp
              refine hK _ ?_
              clear hK K
              refine q_run rfl (fun K hK => ?_)
              refine q_value ?_ (fun w' h' => ?_) ?_
              rotate_left
              · go_simp; try with_reducible rfl
              go_simp
              refine hK _ ?_
              clear hK K
              refine q_run rfl (fun K hK => ?_)
              refine q_value ?_ (fun w' h' => ?_) ?_
              rotate_left
              · have c := cell_of_row w' _ k _ _ _ (keep A4r h'); rw [vc_at b k hlt] at c; go_simp; try with_reducible rfl
              go_simp
              refine hK _ ?_
              clear hK K
              refine q_run rfl (fun K hK => ?_)
              refine q_value ?_ (fun w' h' => ?_) ?_
              rotate_left
              · go_simp; try with_reducible rfl
              go_simp
              refine hK _ ?_
              clear hK K
              refine q_run rfl (fun K hK => ?_)
              refine q_value ?_ (fun w' h' => ?_) ?_
              rotate_left
              · go_simp; try with_reducible rfl
              go_simp
              refine hK _ ?_
              clear hK K
              refine q_run rfl (fun K hK => ?_)
              refine q_value ?_ (fun w' h' => ?_) ?_
              rotate_left
              · go_simp; try with_reducible rfl
              go_simp
              refine hK _ ?_
              clear hK K
              refine q_run rfl (fun K hK => ?_)
              refine q_value ?_ (fun w' h' => ?_) ?_
              rotate_left
              · go_simp; try with_reducible rfl
              go_simp
              refine hK _ ?_
              clear hK K
              refine q_run rfl (fun K hK => ?_)
              refine q_value ?_ (fun w' h' => ?_) ?_
              rotate_left
              · go_simp; try with_reducible rfl
              go_simp
              refine hK _ ?_
              clear hK K
              refine q_run rfl (fun K hK => ?_)
              refine q_value ?_ (fun w' h' => ?_) ?_
              rotate_left
              · go_simp; try with_reducible rfl
              go_simp
              refine hK _ ?_
              clear hK K
              refine q_run rfl (fun K hK => ?_)
              refine q_value ?_ (fun w' h' => ?_) ?_
              rotate_left
              · have c := cell_of_row w' _ k _ _ _ (keep X13r h'); rw [vc_at (tk a t) k hlt] at c; go_simp; try with_reducible rfl
              go_simp
              refine hK _ ?_
              clear hK K
              refine q_run rfl (fun K hK => ?_)
              refine q_value ?_ (fun w' h' => ?_) ?_
              rotate_left
              · go_simp; try with_reducible rfl
              go_simp
              refine hK _ ?_
              clear hK K
              refine q_run rfl (fun K hK => ?_)
              refine q_value ?_ (fun w' h' => ?_) ?_
              rotate_left
              · go_simp; try with_reducible rfl
              go_simp
              refine hK _ ?_
              clear hK K
              refine q_run rfl (fun K hK => ?_)
              refine q_value ?_ (fun w' h' => ?_) ?_
              rotate_left
              · go_simp; try with_reducible rfl
              go_simp
              refine hK _ ?_
              clear hK K
              refine wpQuiet_nil ?_
              intro w6 h6
              replace A3r := keep A3r h6
              replace A4r := keep A4r h6
              replace X11r := keep X11r h6
              replace X12r := keep X12r h6
              replace X13r := keep X13r h6
              replace hB := hB.trans (h6.mono hB.size)
              clear h6
              go_wp2
              go_roundw
              case rel => exact ⟨k + 1, by omega, by go_num, hB⟩
              case measure => simp [intOf]; omega
            · have q1 : ((k : Int) == t) = false := by simp [hit]
              have etk : tk a t k = a k := by simp [tk, hit]
              clear hit
              clear hB
              have hB := hb
              clear hb
              go_upto_region 11 with (fail)
              refine plain_all (fun w' => Below wr.heap.size wr w') (Below.refl _ _) ?_
              refine q_run rfl (fun K hK => ?_)
              refine q_value ?_ (fun w' h' => ?_) ?_
              rotate_left
              · go_simp; try with_reducible rfl
              go_simp
              refine hK _ ?_
              clear hK K
              refine q_run rfl (fun K hK => ?_)
              refine q_value ?_ (fun w' h' => ?_) ?_
              rotate_left
              · go_simp; try with_reducible rfl
              go_simp
              refine hK _ ?_
              clear hK K
              refine q_run rfl (fun K hK => ?_)
              refine q_value ?_ (fun w' h' => ?_) ?_
              rotate_left
              · have c := cell_of_row w' _ k _ _ _ (keep A3r h'); rw [vc_at a k hlt] at c; go_simp; try with_reducible rfl
              go_simp
              refine hK _ ?_
              clear hK K
              refine q_run rfl (fun K hK => ?_)
              refine q_value ?_ (fun w' h' => ?_) ?_
              rotate_left
              · go_simp; try with_reducible rfl
              go_simp
              refine hK _ ?_
              clear hK K
              refine wpQuiet_nil ?_
              intro w5 h5
              replace A3r := keep A3r h5
              replace A4r := keep A4r h5
              replace X11r := keep X11r h5
              replace X12r := keep X12r h5
              replace X13r := keep X13r h5
              replace hB := hB.trans (h5.mono hB.size)
              clear h5
              go_upto_region 14 with (fail)
              refine quiet_all (fun w' => Below w5.heap.size w5 w') (by kernel_rfl) (by kernel_rfl) (Below.drew (Below.refl _ _)) ?_
              refine q_run rfl (fun K hK => ?_)
              refine q_value ?_ (fun w' h' => ?_) ?_
              rotate_left
              · go_simp; try with_reducible rfl
              go_simp
              refine hK _ ?_
              clear hK K
              refine q_run rfl (fun K hK => ?_)
              refine q_value ?_ (fun w' h' => ?_) ?_
              rotate_left
              · go_simp; try with_reducible rfl
              go_simp
              refine hK _ ?_
              clear hK K
              refine q_run rfl (fun K hK => ?_)
              refine q_value ?_ (fun w' h' => ?_) ?_
              rotate_left
              · have c := cell_of_row w' _ k _ _ _ (keep X11r h'); rw [vc_at (fun i => mx (a i) (b i)) k hlt] at c; go_simp; try with_reducible rfl
              go_simp
              refine hK _ ?_
              clear hK K
              refine q_run rfl (fun K hK => ?_)
              refine q_value ?_ (fun w' h' => ?_) ?_
              rotate_left
              · go_simp; try with_reducible rfl
              go_simp
              refine hK _ ?_
              clear hK K
              refine q_run rfl (fun K hK => ?_)
              refine q_value ?_ (fun w' h' => ?_) ?_
              rotate_left
              · go_simp; try with_reducible rfl
              go_simp
              refine hK _ ?_
              clear hK K
              refine q_run rfl (fun K hK => ?_)
              refine q_value ?_ (fun w' h' => ?_) ?_
              rotate_left
              · have c := cell_of_row w' _ k _ _ _ (keep A3r h'); rw [vc_at a k hlt] at c; go_simp; try with_reducible rfl
              go_simp
              refine hK _ ?_
              clear hK K
              refine q_run rfl (fun K hK => ?_)
              refine q_value ?_ (fun w' h' => ?_) ?_
              rotate_left
              · go_simp; try with_reducible rfl
              go_simp
              refine hK _ ?_
              clear hK K
              refine q_run rfl (fun K hK => ?_)
              refine q_value ?_ (fun w' h' => ?_) ?_
              rotate_left
              · go_simp; try with_reducible rfl
              go_simp
              refine hK _ ?_
              clear hK K
              refine q_run rfl (fun K hK => ?_)
              refine q_value ?_ (fun w' h' => ?_) ?_
              rotate_left
              · have c := cell_of_row w' _ k _ _ _ (keep A4r h'); rw [vc_at b k hlt] at c; go_simp; try with_reducible rfl
              go_simp
              refine hK _ ?_
              clear hK K
              refine q_run rfl (fun K hK => ?_)
              refine q_value ?_ (fun w' h' => ?_) ?_
              rotate_left
              · go_simp; try with_reducible rfl
              go_simp
              refine hK _ ?_
              clear hK K
              refine q_run rfl (fun K hK => ?_)
              refine q_value ?_ (fun w' h' => ?_) ?_
              rotate_left
              · go_simp; try with_reducible rfl
              go_simp
              refine hK _ ?_
              clear hK K
              refine q_run rfl (fun K hK => ?_)
              refine q_value ?_ (fun w' h' => ?_) ?_
              rotate_left
              · go_simp; try with_reducible rfl
              go_simp
              refine hK _ ?_
              clear hK K
              refine q_run rfl (fun K hK => ?_)
              refine q_value ?_ (fun w' h' => ?_) ?_
              rotate_left
              · go_simp; try with_reducible rfl
              go_simp
              refine hK _ ?_
              clear hK K
              refine q_run rfl (fun K hK => ?_)
              refine q_value ?_ (fun w' h' => ?_) ?_
              rotate_left
              · go_simp; try with_reducible rfl
              go_simp
              refine hK _ ?_
              clear hK K
              refine q_run rfl (fun K hK => ?_)
              refine q_value ?_ (fun w' h' => ?_) ?_
              rotate_left
              · have c := cell_of_row w' _ k _ _ _ (keep X12r h'); rw [vc_at (fun i => mn (a i) (b i)) k hlt] at c; go_simp; try with_reducible rfl
              go_simp
              refine hK _ ?_
              clear hK K
              refine q_run rfl (fun K hK => ?_)
              refine q_value ?_ (fun w' h' => ?_) ?_
              rotate_left
              · go_simp; try with_reducible rfl
              go_simp
              refine hK _ ?_
              clear hK K
              refine q_run rfl (fun K hK => ?_)
              refine q_value ?_ (fun w' h' => ?_) ?_
              rotate_left
              · go_simp; try with_reducible rfl
              go_simp
              refine hK _ ?_
              clear hK K
              refine q_run rfl (fun K hK => ?_)
              refine q_value ?_ (fun w' h' => ?_) ?_
              rotate_left
              · have c := cell_of_row w' _ k _ _ _ (keep A3r h'); rw [vc_at a k hlt] at c; go_simp; try with_reducible rfl
              go_simp
              refine hK _ ?_
              clear hK K
              refine q_run rfl (fun K hK => ?_)
              refine q_value ?_ (fun w' h' => ?_) ?_
              rotate_left
              · go_simp; try with_reducible rfl
              go_simp
              refine hK _ ?_
              clear hK K
              refine q_run rfl (fun K hK => ?_)
              refine q_value ?_ (fun w' h' => ?_) ?_
              rotate_left
              · go_simp; try with_reducible rfl
              go_simp
              refine hK _ ?_
              clear hK K
              refine q_run rfl (fun K hK => ?_)
              refine q_value ?_ (fun w' h' => ?_) ?_
              rotate_left
              · have c := cell_of_row w' _ k _ _ _ (keep A4r h'); rw [vc_at b k hlt] at c; go_simp; try with_reducible rfl
              go_simp
              refine hK _ ?_
              clear hK K
              refine q_run rfl (fun K hK => ?_)
              refine q_value ?_ (fun w' h' => ?_) ?_
              rotate_left
              · go_simp; try with_reducible rfl
              go_simp
              refine hK _ ?_
              clear hK K
              refine q_run rfl (fun K hK => ?_)
              refine q_value ?_ (fun w' h' => ?_) ?_
              rotate_left
              · go_simp; try with_reducible rfl
              go_simp
              refine hK _ ?_
              clear hK K
              refine q_run rfl (fun K hK => ?_)
              refine q_value ?_ (fun w' h' => ?_) ?_
              rotate_left
              · go_simp; try with_reducible rfl
              go_simp
              refine hK _ ?_
              clear hK K
              refine q_run rfl (fun K hK => ?_)
              refine q_value ?_ (fun w' h' => ?_) ?_
              rotate_left
              · go_simp; try with_reducible rfl
              go_simp
              refine hK _ ?_
              clear hK K
              refine q_run rfl (fun K hK => ?_)
              refine q_value ?_ (fun w' h' => ?_) ?_
              rotate_left
              · go_simp; try with_reducible rfl
              go_simp
              refine hK _ ?_
              clear hK K
              refine q_run rfl (fun K hK => ?_)
              refine q_value ?_ (fun w' h' => ?_) ?_
              rotate_left
              · go_simp; try with_reducible rfl
              go_simp
              refine hK _ ?_
              clear hK K
              refine q_run rfl (fun K hK => ?_)
              refine q_value ?_ (fun w' h' => ?_) ?_
              rotate_left
              · have c := cell_of_row w' _ k _ _ _ (keep X13r h'); rw [vc_at (tk a t) k hlt] at c; go_simp; try with_reducible rfl
              go_simp
              refine hK _ ?_
              clear hK K
              refine q_run rfl (fun K hK => ?_)
              refine q_value ?_ (fun w' h' => ?_) ?_
              rotate_left
              · go_simp; try with_reducible rfl
              go_simp
              refine hK _ ?_
              clear hK K
              refine q_run rfl (fun K hK => ?_)
              refine q_value ?_ (fun w' h' => ?_) ?_
              rotate_left
              · go_simp; try with_reducible rfl
              go_simp
              refine hK _ ?_
              clear hK K
              refine q_run rfl (fun K hK => ?_)
              refine q_value ?_ (fun w' h' => ?_) ?_
              rotate_left
              · go_simp; try with_reducible rfl
              go_simp
              refine hK _ ?_
              clear hK K
              refine wpQuiet_nil ?_
              intro w6 h6
              replace A3r := keep A3r h6
              replace A4r := keep A4r h6
              replace X11r := keep X11r h6
              replace X12r := keep X12r h6
              replace X13r := keep X13r h6
              replace hB := hB.trans (h6.mono hB.size)
              clear h6
              go_wp2
              go_roundw
              case rel => exact ⟨k + 1, by omega, by go_num, hB⟩
              case measure => simp [intOf]; omega
          · have hl : ¬ (k : Int) < 8 := by omega
            go_wp2
            go_ret
            exact ⟨rfl, hB.trans (hb.mono hB.size)⟩
end Go.Proofs.Ytfnaoaejbpeelaa
