/- The law ClockOrder: the plain law, and the walk. -/
import Derived.Test.YtfnaoaejbpeelaaRef
import Derived.Test.YtfnaoaejbpeelaaGrow
import Derived.Deep.DeepCutAuto
namespace Go.Proofs.Ytfnaoaejbpeelaa
open Go.RowKit
set_option linter.unusedVariables false
/-! ### the plain law -/
theorem ahB_iff (f g : Nat → Int) : ahB f g = true ↔ knB g f = true ∧ eqB f g = false := by
  simp [ahB]
theorem eq_of_kn {f g : Nat → Int} (h1 : knB f g = true) (h2 : knB g f = true) : eqB f g = true := by
  rw [knB_iff] at h1 h2; rw [eqB_iff]; intro i hi; have := h1 i hi; have := h2 i hi; omega
theorem kn_of_eq {f g : Nat → Int} (h : eqB f g = true) : knB f g = true ∧ knB g f = true := by
  rw [eqB_iff] at h; constructor <;> rw [knB_iff] <;> intro i hi <;> have := h i hi <;> omega
theorem eqB_symm (f g : Nat → Int) : eqB f g = eqB g f := by
  rw [Bool.eq_iff_iff, eqB_iff, eqB_iff]; exact ⟨fun h i hi => (h i hi).symm, fun h i hi => (h i hi).symm⟩
theorem kn_self (f : Nat → Int) : knB f f = true := by rw [knB_iff]; intro i _; omega
theorem eq_self (f : Nat → Int) : eqB f f = true := by rw [eqB_iff]; intro i _; rfl
theorem ah_self (f : Nat → Int) : ahB f f = false := by simp [ahB, eq_self]
theorem kn_trans {f g h : Nat → Int} (h1 : knB f g = true) (h2 : knB g h = true) : knB f h = true := by
  rw [knB_iff] at *; intro i hi; have := h1 i hi; have := h2 i hi; omega
theorem ah_trans {f g h : Nat → Int} (h1 : ahB f g = true) (h2 : ahB g h = true) : ahB f h = true := by
  rw [ahB_iff] at *
  refine ⟨kn_trans h2.1 h1.1, ?_⟩
  cases e : eqB f h with
  | false => rfl
  | true =>
    have := eq_of_kn (f := f) (g := g) (kn_trans (kn_of_eq e).1 h2.1) h1.1
    rw [h1.2] at this; cases this
/-- JUST ONE OF FOUR -/
theorem four (f g : Nat → Int) : (eqB f g = true ∧ ahB f g = false ∧ ahB g f = false ∧ apB f g = false) ∨ (eqB f g = false ∧ ahB f g = true ∧ ahB g f = false ∧ apB f g = false) ∨
    (eqB f g = false ∧ ahB f g = false ∧ ahB g f = true ∧ apB f g = false) ∨ (eqB f g = false ∧ ahB f g = false ∧ ahB g f = false ∧ apB f g = true) := by
  have hs := eqB_symm g f
  cases h1 : knB f g <;> cases h2 : knB g f
  · have h3 : eqB f g = false := by
      cases e : eqB f g with
      | false => rfl
      | true => rw [(kn_of_eq e).1] at h1; cases h1
    simp [ahB, apB, h1, h2, h3, hs]
  · have h3 : eqB f g = false := by
      cases e : eqB f g with
      | false => rfl
      | true => rw [(kn_of_eq e).1] at h1; cases h1
    simp [ahB, apB, h1, h2, h3, hs]
  · have h3 : eqB f g = false := by
      cases e : eqB f g with
      | false => rfl
      | true => rw [(kn_of_eq e).2] at h2; cases h2
    simp [ahB, apB, h1, h2, h3, hs]
  · have h3 := eq_of_kn h1 h2
    simp [ahB, apB, h1, h2, h3, hs]
/-! ### the walk -/
set_option maxRecDepth 100000 in
set_option maxHeartbeats 4000000 in
theorem order_walk (a b c : Nat → Int) (w : World) : Calls Try.prog 5 #[.agg (vc a), .agg (vc b), .agg (vc c)] w fun e w' => e = .returned (.bool true) ∧ Below w.heap.size w w' := by
  have hE := eql25 a b
  have hP := Ahead a b
  have hQ := Ahead b a
  have hS := Apart a b
  have hKn := Knows a a
  rw [kn_self] at hKn
  have hA := Ahead a a
  rw [ah_self] at hA
  have hBC := Ahead b c
  have hAC := Ahead a c
  go_enter Try.func5, Try.ntmps5
  go_upto_region 1 with (fail)
  have A3 : (((w.alloc (.cells (vc a) 23)).alloc (.cells (vc b) 23)).alloc (.cells (vc c) 23)).heap[w.heap.size]? = some (.cells (vc a) 23) := alloc3_0 _ _ _ _
  have A4 : (((w.alloc (.cells (vc a) 23)).alloc (.cells (vc b) 23)).alloc (.cells (vc c) 23)).heap[w.heap.size + 1]? = some (.cells (vc b) 23) := alloc3_1 _ _ _ _
  have A5 : (((w.alloc (.cells (vc a) 23)).alloc (.cells (vc b) 23)).alloc (.cells (vc c) 23)).heap[w.heap.size + 1 + 1]? = some (.cells (vc c) 23) := alloc3_2 _ _ _ _
  have hB := below3 w (.cells (vc a) 23) (.cells (vc b) 23) (.cells (vc c) 23)
  generalize (((w.alloc (.cells (vc a) 23)).alloc (.cells (vc b) 23)).alloc (.cells (vc c) 23)) = W at *
  refine plain_all (fun w' => Below W.heap.size W w') (Below.refl _ _) ?_
  refine q_run rfl (fun K hK => ?_)
  refine q_call (Nat.le_refl _) awake (fun w' => ?_) ?_
  · first | (go_simp; done) | (go_simp; rfl)
  go_simp
  refine hK _ ?_
  clear hK K
  refine q_run rfl (fun K hK => ?_)
  refine q_value ?_ (fun w' h' => ?_) ?_
  rotate_left
  · go_simp; try with_reducible rfl
  go_simp
  refine hK _ ?_
  clear hK K
  refine wpQuiet_nil ?_
  intro w1 h1
  replace A3 := keep A3 h1
  replace A4 := keep A4 h1
  replace A5 := keep A5 h1
  replace hB := hB.trans (h1.mono hB.size)
  clear h1
  go_upto_region 3 with (fail)
  go_cut [7, 8, 9] (fun s7 s8 s9 wx => ∃ bX7 bX8 bX9 : Nat, s7 = .pointer (some ⟨bX7, 0, none⟩) ∧ s8 = .pointer (some ⟨bX8, 0, none⟩) ∧ s9 = .pointer (some ⟨bX9, 0, none⟩) ∧ wx.heap[bX7]? = some (.cells (vc a) 25 (0, 0)) ∧ wx.heap[bX8]? = some (.cells (vc b) 25 (0, 0)) ∧ wx.heap[bX9]? = some (.cells (vc c) 25 (0, 0)) ∧ bX7 ≠ bX8 ∧ bX7 ≠ bX9 ∧ bX8 ≠ bX9 ∧ w1.heap.size ≤ bX7 ∧ w1.heap.size ≤ bX8 ∧ w1.heap.size ≤ bX9 ∧ Below w1.heap.size w1 wx)
  case first =>
    refine grow_head 3 (fun w' => Below w1.heap.size w1 w') (by kernel_rfl) (by kernel_rfl) (by decide) (by kernel_rfl) ?_
    simp only [List.take_succ_cons, List.take_zero]
    refine g_run rfl _ (fun w' h' => ga_load 23 (.tmp 3) rfl _ rfl _ (vc a) (0, 0) _ (keep A3 h') Try.underlying23 rfl (by kernel_rfl)) (fun K hK => ?_)
    go_simp
    refine hK _ ?_
    clear hK K
    refine g_run rfl _ (fun w' h' => ga_load 23 (.tmp 4) rfl _ rfl _ (vc b) (0, 0) _ (keep A4 h') Try.underlying23 rfl (by kernel_rfl)) (fun K hK => ?_)
    go_simp
    refine hK _ ?_
    clear hK K
    refine g_run rfl _ (fun w' h' => ga_load 23 (.tmp 5) rfl _ rfl _ (vc c) (0, 0) _ (keep A5 h') Try.underlying23 rfl (by kernel_rfl)) (fun K hK => ?_)
    go_simp
    refine hK _ ?_
    clear hK K
    refine g_nil ?_
    show anyG _ _ _ _ _ _ _ _ _
    have hg0 : Below w1.heap.size w1 w1.drew := Below.drew (Below.refl _ _)
    refine anyG_ready [3, 4, 5] (by kernel_rfl) (by simp) (fun v1 g1 => ⟨hg0.trans (g1.mono hg0.size), ?_⟩)
    have hg1 := hg0.trans (g1.mono hg0.size)
    intro i hi
    simp only [List.mem_cons, List.not_mem_nil, or_false] at hi
    rcases hi with rfl | rfl | rfl
    · refine op_alloc rfl rfl 25 rfl _ _ zero25 rfl (fun u1 bX7 X7 l1 f1 => ?_)
      have e1 := f1.out
      have zX7 : w1.heap.size ≤ bX7 := by have := hg1.size; omega
      have hh1 := hg1.trans (l1.mono hg1.size)
      clear e1 f1 l1
      refine anyG_ready [4, 5] (by kernel_rfl) (by simp) (fun v2 g2 => ⟨hh1.trans (g2.mono hh1.size), ?_⟩)
      replace X7 := keep X7 g2
      have hg2 := hh1.trans (g2.mono hh1.size)
      intro i hi
      simp only [List.mem_cons, List.not_mem_nil, or_false] at hi
      rcases hi with rfl | rfl
      · refine op_alloc rfl rfl 25 rfl _ _ zero25 rfl (fun u2 bX8 X8 l2 f2 => ?_)
        have e2 := f2.out
        have nX7X8 : bX7 ≠ bX8 := by have := blk_lt X7; omega
        have zX8 : w1.heap.size ≤ bX8 := by have := hg2.size; omega
        replace X7 := keep X7 l2
        have hh2 := hg2.trans (l2.mono hg2.size)
        clear e2 f2 l2
        refine anyG_ready [5] (by kernel_rfl) (by simp) (fun v3 g3 => ⟨hh2.trans (g3.mono hh2.size), ?_⟩)
        replace X7 := keep X7 g3
        replace X8 := keep X8 g3
        have hg3 := hh2.trans (g3.mono hh2.size)
        intro i hi
        simp only [List.mem_cons, List.not_mem_nil, or_false] at hi
        subst hi
        refine op_alloc rfl rfl 25 rfl _ _ zero25 rfl (fun u3 bX9 X9 l3 f3 => ?_)
        have e3 := f3.out
        have nX7X9 : bX7 ≠ bX9 := by have := blk_lt X7; omega
        have nX8X9 : bX8 ≠ bX9 := by have := blk_lt X8; omega
        have zX9 : w1.heap.size ≤ bX9 := by have := hg3.size; omega
        replace X7 := keep X7 l3
        replace X8 := keep X8 l3
        have hh3 := hg3.trans (l3.mono hg3.size)
        clear e3 f3 l3
        refine anyG_ready [6] (by kernel_rfl) (by simp) (fun v5 g5 => ⟨hh3.trans (g5.mono hh3.size), ?_⟩)
        replace X7 := keep X7 g5
        replace X8 := keep X8 g5
        replace X9 := keep X9 g5
        have hg5 := hh3.trans (g5.mono hh3.size)
        intro i hi
        simp only [List.mem_cons, List.not_mem_nil, or_false] at hi
        subst hi
        refine op_store rfl rfl 25 (.tmp 7) (.tmp 13) rfl bX7 (vc a) rfl rfl 25 _ X7 (by kernel_rfl) rfl (vc_one _) (fun u5 p5 m5 q5 => ?_)
        replace X8 := (m5 _ nX7X8.symm).trans X8
        replace X9 := (m5 _ nX7X9.symm).trans X9
        replace X7 := p5
        have hh5 := hg5.trans (q5 _ zX7)
        refine anyG_ready [7] (by kernel_rfl) (by simp) (fun v6 g6 => ⟨hh5.trans (g6.mono hh5.size), ?_⟩)
        replace X7 := keep X7 g6
        replace X8 := keep X8 g6
        replace X9 := keep X9 g6
        have hg6 := hh5.trans (g6.mono hh5.size)
        intro i hi
        simp only [List.mem_cons, List.not_mem_nil, or_false] at hi
        subst hi
        refine op_store rfl rfl 25 (.tmp 8) (.tmp 14) rfl bX8 (vc b) rfl rfl 25 _ X8 (by kernel_rfl) rfl (vc_one _) (fun u6 p6 m6 q6 => ?_)
        replace X7 := (m6 _ nX7X8).trans X7
        replace X9 := (m6 _ nX8X9.symm).trans X9
        replace X8 := p6
        have hh6 := hg6.trans (q6 _ zX8)
        refine anyG_ready [8] (by kernel_rfl) (by simp) (fun v7 g7 => ⟨hh6.trans (g7.mono hh6.size), ?_⟩)
        replace X7 := keep X7 g7
        replace X8 := keep X8 g7
        replace X9 := keep X9 g7
        have hg7 := hh6.trans (g7.mono hh6.size)
        intro i hi
        simp only [List.mem_cons, List.not_mem_nil, or_false] at hi
        subst hi
        refine op_store rfl rfl 25 (.tmp 9) (.tmp 15) rfl bX9 (vc c) rfl rfl 25 _ X9 (by kernel_rfl) rfl (vc_one _) (fun u7 p7 m7 q7 => ?_)
        replace X7 := (m7 _ nX7X9).trans X7
        replace X8 := (m7 _ nX8X9).trans X8
        replace X9 := p7
        have hh7 := hg7.trans (q7 _ zX9)
        refine anyG_end (by kernel_rfl) (fun v8 g8 => ⟨hh7.trans (g8.mono hh7.size), ?_⟩)
        replace X7 := keep X7 g8
        replace X8 := keep X8 g8
        replace X9 := keep X9 g8
        have hg8 := hh7.trans (g8.mono hh7.size)
        go_wp2_with (fail)
        go_meet
        exact ⟨bX7, bX8, bX9, rfl, rfl, rfl, X7, X8, X9, nX7X8, nX7X9, nX8X9, zX7, zX8, zX9, hg8⟩
      · refine op_alloc rfl rfl 25 rfl _ _ zero25 rfl (fun u2 bX9 X9 l2 f2 => ?_)
        have e2 := f2.out
        have nX7X9 : bX7 ≠ bX9 := by have := blk_lt X7; omega
        have zX9 : w1.heap.size ≤ bX9 := by have := hg2.size; omega
        replace X7 := keep X7 l2
        have hh2 := hg2.trans (l2.mono hg2.size)
        clear e2 f2 l2
        refine anyG_ready [4] (by kernel_rfl) (by simp) (fun v9 g9 => ⟨hh2.trans (g9.mono hh2.size), ?_⟩)
        replace X7 := keep X7 g9
        replace X9 := keep X9 g9
        have hg9 := hh2.trans (g9.mono hh2.size)
        intro i hi
        simp only [List.mem_cons, List.not_mem_nil, or_false] at hi
        subst hi
        refine op_alloc rfl rfl 25 rfl _ _ zero25 rfl (fun u9 bX8 X8 l9 f9 => ?_)
        have e9 := f9.out
        have nX7X8 : bX7 ≠ bX8 := by have := blk_lt X7; omega
        have nX8X9 : bX8 ≠ bX9 := by have := blk_lt X9; omega
        have zX8 : w1.heap.size ≤ bX8 := by have := hg9.size; omega
        replace X7 := keep X7 l9
        replace X9 := keep X9 l9
        have hh9 := hg9.trans (l9.mono hg9.size)
        clear e9 f9 l9
        refine anyG_ready [6] (by kernel_rfl) (by simp) (fun v11 g11 => ⟨hh9.trans (g11.mono hh9.size), ?_⟩)
        replace X7 := keep X7 g11
        replace X8 := keep X8 g11
        replace X9 := keep X9 g11
        have hg11 := hh9.trans (g11.mono hh9.size)
        intro i hi
        simp only [List.mem_cons, List.not_mem_nil, or_false] at hi
        subst hi
        refine op_store rfl rfl 25 (.tmp 7) (.tmp 13) rfl bX7 (vc a) rfl rfl 25 _ X7 (by kernel_rfl) rfl (vc_one _) (fun u11 p11 m11 q11 => ?_)
        replace X8 := (m11 _ nX7X8.symm).trans X8
        replace X9 := (m11 _ nX7X9.symm).trans X9
        replace X7 := p11
        have hh11 := hg11.trans (q11 _ zX7)
        refine anyG_ready [7] (by kernel_rfl) (by simp) (fun v12 g12 => ⟨hh11.trans (g12.mono hh11.size), ?_⟩)
        replace X7 := keep X7 g12
        replace X8 := keep X8 g12
        replace X9 := keep X9 g12
        have hg12 := hh11.trans (g12.mono hh11.size)
        intro i hi
        simp only [List.mem_cons, List.not_mem_nil, or_false] at hi
        subst hi
        refine op_store rfl rfl 25 (.tmp 8) (.tmp 14) rfl bX8 (vc b) rfl rfl 25 _ X8 (by kernel_rfl) rfl (vc_one _) (fun u12 p12 m12 q12 => ?_)
        replace X7 := (m12 _ nX7X8).trans X7
        replace X9 := (m12 _ nX8X9.symm).trans X9
        replace X8 := p12
        have hh12 := hg12.trans (q12 _ zX8)
        refine anyG_ready [8] (by kernel_rfl) (by simp) (fun v13 g13 => ⟨hh12.trans (g13.mono hh12.size), ?_⟩)
        replace X7 := keep X7 g13
        replace X8 := keep X8 g13
        replace X9 := keep X9 g13
        have hg13 := hh12.trans (g13.mono hh12.size)
        intro i hi
        simp only [List.mem_cons, List.not_mem_nil, or_false] at hi
        subst hi
        refine op_store rfl rfl 25 (.tmp 9) (.tmp 15) rfl bX9 (vc c) rfl rfl 25 _ X9 (by kernel_rfl) rfl (vc_one _) (fun u13 p13 m13 q13 => ?_)
        replace X7 := (m13 _ nX7X9).trans X7
        replace X8 := (m13 _ nX8X9).trans X8
        replace X9 := p13
        have hh13 := hg13.trans (q13 _ zX9)
        refine anyG_end (by kernel_rfl) (fun v14 g14 => ⟨hh13.trans (g14.mono hh13.size), ?_⟩)
        replace X7 := keep X7 g14
        replace X8 := keep X8 g14
        replace X9 := keep X9 g14
        have hg14 := hh13.trans (g14.mono hh13.size)
        go_wp2_with (fail)
        go_meet
        exact ⟨bX7, bX8, bX9, rfl, rfl, rfl, X7, X8, X9, nX7X8, nX7X9, nX8X9, zX7, zX8, zX9, hg14⟩
    · refine op_alloc rfl rfl 25 rfl _ _ zero25 rfl (fun u1 bX8 X8 l1 f1 => ?_)
      have e1 := f1.out
      have zX8 : w1.heap.size ≤ bX8 := by have := hg1.size; omega
      have hh1 := hg1.trans (l1.mono hg1.size)
      clear e1 f1 l1
      refine anyG_ready [3, 5] (by kernel_rfl) (by simp) (fun v15 g15 => ⟨hh1.trans (g15.mono hh1.size), ?_⟩)
      replace X8 := keep X8 g15
      have hg15 := hh1.trans (g15.mono hh1.size)
      intro i hi
      simp only [List.mem_cons, List.not_mem_nil, or_false] at hi
      rcases hi with rfl | rfl
      · refine op_alloc rfl rfl 25 rfl _ _ zero25 rfl (fun u15 bX7 X7 l15 f15 => ?_)
        have e15 := f15.out
        have nX7X8 : bX7 ≠ bX8 := by have := blk_lt X8; omega
        have zX7 : w1.heap.size ≤ bX7 := by have := hg15.size; omega
        replace X8 := keep X8 l15
        have hh15 := hg15.trans (l15.mono hg15.size)
        clear e15 f15 l15
        refine anyG_ready [5] (by kernel_rfl) (by simp) (fun v16 g16 => ⟨hh15.trans (g16.mono hh15.size), ?_⟩)
        replace X8 := keep X8 g16
        replace X7 := keep X7 g16
        have hg16 := hh15.trans (g16.mono hh15.size)
        intro i hi
        simp only [List.mem_cons, List.not_mem_nil, or_false] at hi
        subst hi
        refine op_alloc rfl rfl 25 rfl _ _ zero25 rfl (fun u16 bX9 X9 l16 f16 => ?_)
        have e16 := f16.out
        have nX8X9 : bX8 ≠ bX9 := by have := blk_lt X8; omega
        have nX7X9 : bX7 ≠ bX9 := by have := blk_lt X7; omega
        have zX9 : w1.heap.size ≤ bX9 := by have := hg16.size; omega
        replace X8 := keep X8 l16
        replace X7 := keep X7 l16
        have hh16 := hg16.trans (l16.mono hg16.size)
        clear e16 f16 l16
        refine anyG_ready [6] (by kernel_rfl) (by simp) (fun v18 g18 => ⟨hh16.trans (g18.mono hh16.size), ?_⟩)
        replace X7 := keep X7 g18
        replace X8 := keep X8 g18
        replace X9 := keep X9 g18
        have hg18 := hh16.trans (g18.mono hh16.size)
        intro i hi
        simp only [List.mem_cons, List.not_mem_nil, or_false] at hi
        subst hi
        refine op_store rfl rfl 25 (.tmp 7) (.tmp 13) rfl bX7 (vc a) rfl rfl 25 _ X7 (by kernel_rfl) rfl (vc_one _) (fun u18 p18 m18 q18 => ?_)
        replace X8 := (m18 _ nX7X8.symm).trans X8
        replace X9 := (m18 _ nX7X9.symm).trans X9
        replace X7 := p18
        have hh18 := hg18.trans (q18 _ zX7)
        refine anyG_ready [7] (by kernel_rfl) (by simp) (fun v19 g19 => ⟨hh18.trans (g19.mono hh18.size), ?_⟩)
        replace X7 := keep X7 g19
        replace X8 := keep X8 g19
        replace X9 := keep X9 g19
        have hg19 := hh18.trans (g19.mono hh18.size)
        intro i hi
        simp only [List.mem_cons, List.not_mem_nil, or_false] at hi
        subst hi
        refine op_store rfl rfl 25 (.tmp 8) (.tmp 14) rfl bX8 (vc b) rfl rfl 25 _ X8 (by kernel_rfl) rfl (vc_one _) (fun u19 p19 m19 q19 => ?_)
        replace X7 := (m19 _ nX7X8).trans X7
        replace X9 := (m19 _ nX8X9.symm).trans X9
        replace X8 := p19
        have hh19 := hg19.trans (q19 _ zX8)
        refine anyG_ready [8] (by kernel_rfl) (by simp) (fun v20 g20 => ⟨hh19.trans (g20.mono hh19.size), ?_⟩)
        replace X7 := keep X7 g20
        replace X8 := keep X8 g20
        replace X9 := keep X9 g20
        have hg20 := hh19.trans (g20.mono hh19.size)
        intro i hi
        simp only [List.mem_cons, List.not_mem_nil, or_false] at hi
        subst hi
        refine op_store rfl rfl 25 (.tmp 9) (.tmp 15) rfl bX9 (vc c) rfl rfl 25 _ X9 (by kernel_rfl) rfl (vc_one _) (fun u20 p20 m20 q20 => ?_)
        replace X7 := (m20 _ nX7X9).trans X7
        replace X8 := (m20 _ nX8X9).trans X8
        replace X9 := p20
        have hh20 := hg20.trans (q20 _ zX9)
        refine anyG_end (by kernel_rfl) (fun v21 g21 => ⟨hh20.trans (g21.mono hh20.size), ?_⟩)
        replace X7 := keep X7 g21
        replace X8 := keep X8 g21
        replace X9 := keep X9 g21
        have hg21 := hh20.trans (g21.mono hh20.size)
        go_wp2_with (fail)
        go_meet
        exact ⟨bX7, bX8, bX9, rfl, rfl, rfl, X7, X8, X9, nX7X8, nX7X9, nX8X9, zX7, zX8, zX9, hg21⟩
      · refine op_alloc rfl rfl 25 rfl _ _ zero25 rfl (fun u15 bX9 X9 l15 f15 => ?_)
        have e15 := f15.out
        have nX8X9 : bX8 ≠ bX9 := by have := blk_lt X8; omega
        have zX9 : w1.heap.size ≤ bX9 := by have := hg15.size; omega
        replace X8 := keep X8 l15
        have hh15 := hg15.trans (l15.mono hg15.size)
        clear e15 f15 l15
        refine anyG_ready [3] (by kernel_rfl) (by simp) (fun v22 g22 => ⟨hh15.trans (g22.mono hh15.size), ?_⟩)
        replace X8 := keep X8 g22
        replace X9 := keep X9 g22
        have hg22 := hh15.trans (g22.mono hh15.size)
        intro i hi
        simp only [List.mem_cons, List.not_mem_nil, or_false] at hi
        subst hi
        refine op_alloc rfl rfl 25 rfl _ _ zero25 rfl (fun u22 bX7 X7 l22 f22 => ?_)
        have e22 := f22.out
        have nX7X8 : bX7 ≠ bX8 := by have := blk_lt X8; omega
        have nX7X9 : bX7 ≠ bX9 := by have := blk_lt X9; omega
        have zX7 : w1.heap.size ≤ bX7 := by have := hg22.size; omega
        replace X8 := keep X8 l22
        replace X9 := keep X9 l22
        have hh22 := hg22.trans (l22.mono hg22.size)
        clear e22 f22 l22
        refine anyG_ready [6] (by kernel_rfl) (by simp) (fun v24 g24 => ⟨hh22.trans (g24.mono hh22.size), ?_⟩)
        replace X7 := keep X7 g24
        replace X8 := keep X8 g24
        replace X9 := keep X9 g24
        have hg24 := hh22.trans (g24.mono hh22.size)
        intro i hi
        simp only [List.mem_cons, List.not_mem_nil, or_false] at hi
        subst hi
        refine op_store rfl rfl 25 (.tmp 7) (.tmp 13) rfl bX7 (vc a) rfl rfl 25 _ X7 (by kernel_rfl) rfl (vc_one _) (fun u24 p24 m24 q24 => ?_)
        replace X8 := (m24 _ nX7X8.symm).trans X8
        replace X9 := (m24 _ nX7X9.symm).trans X9
        replace X7 := p24
        have hh24 := hg24.trans (q24 _ zX7)
        refine anyG_ready [7] (by kernel_rfl) (by simp) (fun v25 g25 => ⟨hh24.trans (g25.mono hh24.size), ?_⟩)
        replace X7 := keep X7 g25
        replace X8 := keep X8 g25
        replace X9 := keep X9 g25
        have hg25 := hh24.trans (g25.mono hh24.size)
        intro i hi
        simp only [List.mem_cons, List.not_mem_nil, or_false] at hi
        subst hi
        refine op_store rfl rfl 25 (.tmp 8) (.tmp 14) rfl bX8 (vc b) rfl rfl 25 _ X8 (by kernel_rfl) rfl (vc_one _) (fun u25 p25 m25 q25 => ?_)
        replace X7 := (m25 _ nX7X8).trans X7
        replace X9 := (m25 _ nX8X9.symm).trans X9
        replace X8 := p25
        have hh25 := hg25.trans (q25 _ zX8)
        refine anyG_ready [8] (by kernel_rfl) (by simp) (fun v26 g26 => ⟨hh25.trans (g26.mono hh25.size), ?_⟩)
        replace X7 := keep X7 g26
        replace X8 := keep X8 g26
        replace X9 := keep X9 g26
        have hg26 := hh25.trans (g26.mono hh25.size)
        intro i hi
        simp only [List.mem_cons, List.not_mem_nil, or_false] at hi
        subst hi
        refine op_store rfl rfl 25 (.tmp 9) (.tmp 15) rfl bX9 (vc c) rfl rfl 25 _ X9 (by kernel_rfl) rfl (vc_one _) (fun u26 p26 m26 q26 => ?_)
        replace X7 := (m26 _ nX7X9).trans X7
        replace X8 := (m26 _ nX8X9).trans X8
        replace X9 := p26
        have hh26 := hg26.trans (q26 _ zX9)
        refine anyG_end (by kernel_rfl) (fun v27 g27 => ⟨hh26.trans (g27.mono hh26.size), ?_⟩)
        replace X7 := keep X7 g27
        replace X8 := keep X8 g27
        replace X9 := keep X9 g27
        have hg27 := hh26.trans (g27.mono hh26.size)
        go_wp2_with (fail)
        go_meet
        exact ⟨bX7, bX8, bX9, rfl, rfl, rfl, X7, X8, X9, nX7X8, nX7X9, nX8X9, zX7, zX8, zX9, hg27⟩
    · refine op_alloc rfl rfl 25 rfl _ _ zero25 rfl (fun u1 bX9 X9 l1 f1 => ?_)
      have e1 := f1.out
      have zX9 : w1.heap.size ≤ bX9 := by have := hg1.size; omega
      have hh1 := hg1.trans (l1.mono hg1.size)
      clear e1 f1 l1
      refine anyG_ready [3, 4] (by kernel_rfl) (by simp) (fun v28 g28 => ⟨hh1.trans (g28.mono hh1.size), ?_⟩)
      replace X9 := keep X9 g28
      have hg28 := hh1.trans (g28.mono hh1.size)
      intro i hi
      simp only [List.mem_cons, List.not_mem_nil, or_false] at hi
      rcases hi with rfl | rfl
      · refine op_alloc rfl rfl 25 rfl _ _ zero25 rfl (fun u28 bX7 X7 l28 f28 => ?_)
        have e28 := f28.out
        have nX7X9 : bX7 ≠ bX9 := by have := blk_lt X9; omega
        have zX7 : w1.heap.size ≤ bX7 := by have := hg28.size; omega
        replace X9 := keep X9 l28
        have hh28 := hg28.trans (l28.mono hg28.size)
        clear e28 f28 l28
        refine anyG_ready [4] (by kernel_rfl) (by simp) (fun v29 g29 => ⟨hh28.trans (g29.mono hh28.size), ?_⟩)
        replace X9 := keep X9 g29
        replace X7 := keep X7 g29
        have hg29 := hh28.trans (g29.mono hh28.size)
        intro i hi
        simp only [List.mem_cons, List.not_mem_nil, or_false] at hi
        subst hi
        refine op_alloc rfl rfl 25 rfl _ _ zero25 rfl (fun u29 bX8 X8 l29 f29 => ?_)
        have e29 := f29.out
        have nX8X9 : bX8 ≠ bX9 := by have := blk_lt X9; omega
        have nX7X8 : bX7 ≠ bX8 := by have := blk_lt X7; omega
        have zX8 : w1.heap.size ≤ bX8 := by have := hg29.size; omega
        replace X9 := keep X9 l29
        replace X7 := keep X7 l29
        have hh29 := hg29.trans (l29.mono hg29.size)
        clear e29 f29 l29
        refine anyG_ready [6] (by kernel_rfl) (by simp) (fun v31 g31 => ⟨hh29.trans (g31.mono hh29.size), ?_⟩)
        replace X7 := keep X7 g31
        replace X8 := keep X8 g31
        replace X9 := keep X9 g31
        have hg31 := hh29.trans (g31.mono hh29.size)
        intro i hi
        simp only [List.mem_cons, List.not_mem_nil, or_false] at hi
        subst hi
        refine op_store rfl rfl 25 (.tmp 7) (.tmp 13) rfl bX7 (vc a) rfl rfl 25 _ X7 (by kernel_rfl) rfl (vc_one _) (fun u31 p31 m31 q31 => ?_)
        replace X8 := (m31 _ nX7X8.symm).trans X8
        replace X9 := (m31 _ nX7X9.symm).trans X9
        replace X7 := p31
        have hh31 := hg31.trans (q31 _ zX7)
        refine anyG_ready [7] (by kernel_rfl) (by simp) (fun v32 g32 => ⟨hh31.trans (g32.mono hh31.size), ?_⟩)
        replace X7 := keep X7 g32
        replace X8 := keep X8 g32
        replace X9 := keep X9 g32
        have hg32 := hh31.trans (g32.mono hh31.size)
        intro i hi
        simp only [List.mem_cons, List.not_mem_nil, or_false] at hi
        subst hi
        refine op_store rfl rfl 25 (.tmp 8) (.tmp 14) rfl bX8 (vc b) rfl rfl 25 _ X8 (by kernel_rfl) rfl (vc_one _) (fun u32 p32 m32 q32 => ?_)
        replace X7 := (m32 _ nX7X8).trans X7
        replace X9 := (m32 _ nX8X9.symm).trans X9
        replace X8 := p32
        have hh32 := hg32.trans (q32 _ zX8)
        refine anyG_ready [8] (by kernel_rfl) (by simp) (fun v33 g33 => ⟨hh32.trans (g33.mono hh32.size), ?_⟩)
        replace X7 := keep X7 g33
        replace X8 := keep X8 g33
        replace X9 := keep X9 g33
        have hg33 := hh32.trans (g33.mono hh32.size)
        intro i hi
        simp only [List.mem_cons, List.not_mem_nil, or_false] at hi
        subst hi
        refine op_store rfl rfl 25 (.tmp 9) (.tmp 15) rfl bX9 (vc c) rfl rfl 25 _ X9 (by kernel_rfl) rfl (vc_one _) (fun u33 p33 m33 q33 => ?_)
        replace X7 := (m33 _ nX7X9).trans X7
        replace X8 := (m33 _ nX8X9).trans X8
        replace X9 := p33
        have hh33 := hg33.trans (q33 _ zX9)
        refine anyG_end (by kernel_rfl) (fun v34 g34 => ⟨hh33.trans (g34.mono hh33.size), ?_⟩)
        replace X7 := keep X7 g34
        replace X8 := keep X8 g34
        replace X9 := keep X9 g34
        have hg34 := hh33.trans (g34.mono hh33.size)
        go_wp2_with (fail)
        go_meet
        exact ⟨bX7, bX8, bX9, rfl, rfl, rfl, X7, X8, X9, nX7X8, nX7X9, nX8X9, zX7, zX8, zX9, hg34⟩
      · refine op_alloc rfl rfl 25 rfl _ _ zero25 rfl (fun u28 bX8 X8 l28 f28 => ?_)
        have e28 := f28.out
        have nX8X9 : bX8 ≠ bX9 := by have := blk_lt X9; omega
        have zX8 : w1.heap.size ≤ bX8 := by have := hg28.size; omega
        replace X9 := keep X9 l28
        have hh28 := hg28.trans (l28.mono hg28.size)
        clear e28 f28 l28
        refine anyG_ready [3] (by kernel_rfl) (by simp) (fun v35 g35 => ⟨hh28.trans (g35.mono hh28.size), ?_⟩)
        replace X9 := keep X9 g35
        replace X8 := keep X8 g35
        have hg35 := hh28.trans (g35.mono hh28.size)
        intro i hi
        simp only [List.mem_cons, List.not_mem_nil, or_false] at hi
        subst hi
        refine op_alloc rfl rfl 25 rfl _ _ zero25 rfl (fun u35 bX7 X7 l35 f35 => ?_)
        have e35 := f35.out
        have nX7X9 : bX7 ≠ bX9 := by have := blk_lt X9; omega
        have nX7X8 : bX7 ≠ bX8 := by have := blk_lt X8; omega
        have zX7 : w1.heap.size ≤ bX7 := by have := hg35.size; omega
        replace X9 := keep X9 l35
        replace X8 := keep X8 l35
        have hh35 := hg35.trans (l35.mono hg35.size)
        clear e35 f35 l35
        refine anyG_ready [6] (by kernel_rfl) (by simp) (fun v37 g37 => ⟨hh35.trans (g37.mono hh35.size), ?_⟩)
        replace X7 := keep X7 g37
        replace X8 := keep X8 g37
        replace X9 := keep X9 g37
        have hg37 := hh35.trans (g37.mono hh35.size)
        intro i hi
        simp only [List.mem_cons, List.not_mem_nil, or_false] at hi
        subst hi
        refine op_store rfl rfl 25 (.tmp 7) (.tmp 13) rfl bX7 (vc a) rfl rfl 25 _ X7 (by kernel_rfl) rfl (vc_one _) (fun u37 p37 m37 q37 => ?_)
        replace X8 := (m37 _ nX7X8.symm).trans X8
        replace X9 := (m37 _ nX7X9.symm).trans X9
        replace X7 := p37
        have hh37 := hg37.trans (q37 _ zX7)
        refine anyG_ready [7] (by kernel_rfl) (by simp) (fun v38 g38 => ⟨hh37.trans (g38.mono hh37.size), ?_⟩)
        replace X7 := keep X7 g38
        replace X8 := keep X8 g38
        replace X9 := keep X9 g38
        have hg38 := hh37.trans (g38.mono hh37.size)
        intro i hi
        simp only [List.mem_cons, List.not_mem_nil, or_false] at hi
        subst hi
        refine op_store rfl rfl 25 (.tmp 8) (.tmp 14) rfl bX8 (vc b) rfl rfl 25 _ X8 (by kernel_rfl) rfl (vc_one _) (fun u38 p38 m38 q38 => ?_)
        replace X7 := (m38 _ nX7X8).trans X7
        replace X9 := (m38 _ nX8X9.symm).trans X9
        replace X8 := p38
        have hh38 := hg38.trans (q38 _ zX8)
        refine anyG_ready [8] (by kernel_rfl) (by simp) (fun v39 g39 => ⟨hh38.trans (g39.mono hh38.size), ?_⟩)
        replace X7 := keep X7 g39
        replace X8 := keep X8 g39
        replace X9 := keep X9 g39
        have hg39 := hh38.trans (g39.mono hh38.size)
        intro i hi
        simp only [List.mem_cons, List.not_mem_nil, or_false] at hi
        subst hi
        refine op_store rfl rfl 25 (.tmp 9) (.tmp 15) rfl bX9 (vc c) rfl rfl 25 _ X9 (by kernel_rfl) rfl (vc_one _) (fun u39 p39 m39 q39 => ?_)
        replace X7 := (m39 _ nX7X9).trans X7
        replace X8 := (m39 _ nX8X9).trans X8
        replace X9 := p39
        have hh39 := hg39.trans (q39 _ zX9)
        refine anyG_end (by kernel_rfl) (fun v40 g40 => ⟨hh39.trans (g40.mono hh39.size), ?_⟩)
        replace X7 := keep X7 g40
        replace X8 := keep X8 g40
        replace X9 := keep X9 g40
        have hg40 := hh39.trans (g40.mono hh39.size)
        go_wp2_with (fail)
        go_meet
        exact ⟨bX7, bX8, bX9, rfl, rfl, rfl, X7, X8, X9, nX7X8, nX7X9, nX8X9, zX7, zX8, zX9, hg40⟩
  case rest =>
    obtain ⟨bX7, bX8, bX9, rfl, rfl, rfl, X7, X8, X9, NX7X8, NX7X9, NX8X9, ZX7, ZX8, ZX9, h2⟩ := hcut
    obtain ⟨w2, hx2⟩ : ∃ x, x = wc := ⟨_, rfl⟩
    subst hx2
    replace A3 := keep A3 h2
    replace A4 := keep A4 h2
    replace A5 := keep A5 h2
    replace hB := hB.trans (h2.mono hB.size)
    clear h2
    clear A3 A4 A5
    go_upto_region 5 with (fail)
    rcases four a b with ⟨e1, e2, e3, e4⟩ | ⟨e1, e2, e3, e4⟩ | ⟨e1, e2, e3, e4⟩ | ⟨e1, e2, e3, e4⟩
    · rw [e1] at hE; rw [e2] at hP; rw [e3] at hQ; rw [e4] at hS; clear e1 e3 e4; clear e2 hBC hAC
      refine plain_all (fun w' => Below w2.heap.size w2 w') (Below.refl _ _) ?_
      refine q_run rfl (fun K hK => ?_)
      refine q_load 25 (.tmp 7) rfl _ rfl _ (vc a) (0, 0) _ (fun w' h' => keep X7 h') Try.underlying25 rfl (by kernel_rfl) ?_
      go_simp
      refine hK _ ?_
      clear hK K
      refine q_run rfl (fun K hK => ?_)
      refine q_load 25 (.tmp 8) rfl _ rfl _ (vc b) (0, 0) _ (fun w' h' => keep X8 h') Try.underlying25 rfl (by kernel_rfl) ?_
      go_simp
      refine hK _ ?_
      clear hK K
      refine q_run rfl (fun K hK => ?_)
      refine q_value ?_ (fun w' h' => ?_) ?_
      rotate_left
      · go_simp; try with_reducible rfl
      go_simp
      refine hK _ ?_
      clear hK K
      refine wpQuiet_nil ?_
      intro w3 h3
      replace X7 := keep X7 h3
      replace X8 := keep X8 h3
      replace X9 := keep X9 h3
      replace hB := hB.trans (h3.mono hB.size)
      clear h3
      go_upto_region 7 with (fail)
      refine plain_all (fun w' => Below w3.heap.size w3 w') (Below.refl _ _) ?_
      refine q_run rfl (fun K hK => ?_)
      refine q_load 25 (.tmp 7) rfl _ rfl _ (vc a) (0, 0) _ (fun w' h' => keep X7 h') Try.underlying25 rfl (by kernel_rfl) ?_
      go_simp
      refine hK _ ?_
      clear hK K
      refine q_run rfl (fun K hK => ?_)
      refine q_load 25 (.tmp 8) rfl _ rfl _ (vc b) (0, 0) _ (fun w' h' => keep X8 h') Try.underlying25 rfl (by kernel_rfl) ?_
      go_simp
      refine hK _ ?_
      clear hK K
      refine q_run rfl (fun K hK => ?_)
      refine q_call (Nat.le_refl _) hP (fun w' => ?_) ?_
      · first | (go_simp; done) | (go_simp; rfl)
      go_simp
      refine hK _ ?_
      clear hK K
      refine wpQuiet_nil ?_
      intro w4 h4
      replace X7 := keep X7 h4
      replace X8 := keep X8 h4
      replace X9 := keep X9 h4
      replace hB := hB.trans (h4.mono hB.size)
      clear h4
      go_upto_region 9 with (fail)
      refine plain_all (fun w' => Below w4.heap.size w4 w') (Below.refl _ _) ?_
      refine q_run rfl (fun K hK => ?_)
      refine q_load 25 (.tmp 8) rfl _ rfl _ (vc b) (0, 0) _ (fun w' h' => keep X8 h') Try.underlying25 rfl (by kernel_rfl) ?_
      go_simp
      refine hK _ ?_
      clear hK K
      refine q_run rfl (fun K hK => ?_)
      refine q_load 25 (.tmp 7) rfl _ rfl _ (vc a) (0, 0) _ (fun w' h' => keep X7 h') Try.underlying25 rfl (by kernel_rfl) ?_
      go_simp
      refine hK _ ?_
      clear hK K
      refine q_run rfl (fun K hK => ?_)
      refine q_call (Nat.le_refl _) hQ (fun w' => ?_) ?_
      · first | (go_simp; done) | (go_simp; rfl)
      go_simp
      refine hK _ ?_
      clear hK K
      refine wpQuiet_nil ?_
      intro w5 h5
      replace X7 := keep X7 h5
      replace X8 := keep X8 h5
      replace X9 := keep X9 h5
      replace hB := hB.trans (h5.mono hB.size)
      clear h5
      go_upto_region 11 with (fail)
      refine plain_all (fun w' => Below w5.heap.size w5 w') (Below.refl _ _) ?_
      refine q_run rfl (fun K hK => ?_)
      refine q_load 25 (.tmp 7) rfl _ rfl _ (vc a) (0, 0) _ (fun w' h' => keep X7 h') Try.underlying25 rfl (by kernel_rfl) ?_
      go_simp
      refine hK _ ?_
      clear hK K
      refine q_run rfl (fun K hK => ?_)
      refine q_load 25 (.tmp 8) rfl _ rfl _ (vc b) (0, 0) _ (fun w' h' => keep X8 h') Try.underlying25 rfl (by kernel_rfl) ?_
      go_simp
      refine hK _ ?_
      clear hK K
      refine q_run rfl (fun K hK => ?_)
      refine q_call (Nat.le_refl _) hS (fun w' => ?_) ?_
      · first | (go_simp; done) | (go_simp; rfl)
      go_simp
      refine hK _ ?_
      clear hK K
      refine wpQuiet_nil ?_
      intro w6 h6
      replace X7 := keep X7 h6
      replace X8 := keep X8 h6
      replace X9 := keep X9 h6
      replace hB := hB.trans (h6.mono hB.size)
      clear h6
      go_upto_region 13 with (fail)
      refine plain_all (fun w' => Below w6.heap.size w6 w') (Below.refl _ _) ?_
      refine q_run rfl (fun K hK => ?_)
      refine q_value ?_ (fun w' h' => ?_) ?_
      rotate_left
      · go_simp; try with_reducible rfl
      go_simp
      refine hK _ ?_
      clear hK K
      refine q_run rfl (fun K hK => ?_)
      refine q_value ?_ (fun w' h' => ?_) ?_
      rotate_left
      · go_simp; try with_reducible rfl
      go_simp
      refine hK _ ?_
      clear hK K
      refine q_run rfl (fun K hK => ?_)
      refine q_value ?_ (fun w' h' => ?_) ?_
      rotate_left
      · go_simp; try with_reducible rfl
      go_simp
      refine hK _ ?_
      clear hK K
      refine q_run rfl (fun K hK => ?_)
      refine q_load 25 (.tmp 7) rfl _ rfl _ (vc a) (0, 0) _ (fun w' h' => keep X7 h') Try.underlying25 rfl (by kernel_rfl) ?_
      go_simp
      refine hK _ ?_
      clear hK K
      refine q_run rfl (fun K hK => ?_)
      refine q_load 25 (.tmp 8) rfl _ rfl _ (vc b) (0, 0) _ (fun w' h' => keep X8 h') Try.underlying25 rfl (by kernel_rfl) ?_
      go_simp
      refine hK _ ?_
      clear hK K
      refine q_run rfl (fun K hK => ?_)
      refine q_call (Nat.le_refl _) hP (fun w' => ?_) ?_
      · first | (go_simp; done) | (go_simp; rfl)
      go_simp
      refine hK _ ?_
      clear hK K
      refine q_run rfl (fun K hK => ?_)
      refine q_value ?_ (fun w' h' => ?_) ?_
      rotate_left
      · go_simp; try with_reducible rfl
      go_simp
      refine hK _ ?_
      clear hK K
      refine q_run rfl (fun K hK => ?_)
      refine q_value ?_ (fun w' h' => ?_) ?_
      rotate_left
      · go_simp; try with_reducible rfl
      go_simp
      refine hK _ ?_
      clear hK K
      refine q_skip rfl (fun K hK => ?_)
      go_simp
      refine hK _ ?_
      clear hK K
      refine q_skip rfl (fun K hK => ?_)
      go_simp
      refine hK _ ?_
      clear hK K
      refine q_skip rfl (fun K hK => ?_)
      go_simp
      refine hK _ ?_
      clear hK K
      refine q_skip rfl (fun K hK => ?_)
      go_simp
      refine hK _ ?_
      clear hK K
      refine q_run rfl (fun K hK => ?_)
      refine q_value ?_ (fun w' h' => ?_) ?_
      rotate_left
      · go_simp; try with_reducible rfl
      go_simp
      refine hK _ ?_
      clear hK K
      refine q_run rfl (fun K hK => ?_)
      refine q_value ?_ (fun w' h' => ?_) ?_
      rotate_left
      · go_simp; try with_reducible rfl
      go_simp
      refine hK _ ?_
      clear hK K
      refine q_skip rfl (fun K hK => ?_)
      go_simp
      refine hK _ ?_
      clear hK K
      refine q_skip rfl (fun K hK => ?_)
      go_simp
      refine hK _ ?_
      clear hK K
      refine q_skip rfl (fun K hK => ?_)
      go_simp
      refine hK _ ?_
      clear hK K
      refine q_run rfl (fun K hK => ?_)
      refine q_value ?_ (fun w' h' => ?_) ?_
      rotate_left
      · go_simp; try with_reducible rfl
      go_simp
      refine hK _ ?_
      clear hK K
      refine q_run rfl (fun K hK => ?_)
      refine q_value ?_ (fun w' h' => ?_) ?_
      rotate_left
      · go_simp; try with_reducible rfl
      go_simp
      refine hK _ ?_
      clear hK K
      refine q_run rfl (fun K hK => ?_)
      refine q_value ?_ (fun w' h' => ?_) ?_
      rotate_left
      · go_simp; try with_reducible rfl
      go_simp
      refine hK _ ?_
      clear hK K
      refine q_run rfl (fun K hK => ?_)
      refine q_load 25 (.tmp 7) rfl _ rfl _ (vc a) (0, 0) _ (fun w' h' => keep X7 h') Try.underlying25 rfl (by kernel_rfl) ?_
      go_simp
      refine hK _ ?_
      clear hK K
      refine q_run rfl (fun K hK => ?_)
      refine q_load 25 (.tmp 7) rfl _ rfl _ (vc a) (0, 0) _ (fun w' h' => keep X7 h') Try.underlying25 rfl (by kernel_rfl) ?_
      go_simp
      refine hK _ ?_
      clear hK K
      refine q_run rfl (fun K hK => ?_)
      refine q_call (Nat.le_refl _) hKn (fun w' => ?_) ?_
      · first | (go_simp; done) | (go_simp; rfl)
      go_simp
      refine hK _ ?_
      clear hK K
      refine q_run rfl (fun K hK => ?_)
      refine q_value ?_ (fun w' h' => ?_) ?_
      rotate_left
      · go_simp; try with_reducible rfl
      go_simp
      refine hK _ ?_
      clear hK K
      refine q_run rfl (fun K hK => ?_)
      refine q_value ?_ (fun w' h' => ?_) ?_
      rotate_left
      · go_simp; try with_reducible rfl
      go_simp
      refine hK _ ?_
      clear hK K
      refine q_run rfl (fun K hK => ?_)
      refine q_load 25 (.tmp 7) rfl _ rfl _ (vc a) (0, 0) _ (fun w' h' => keep X7 h') Try.underlying25 rfl (by kernel_rfl) ?_
      go_simp
      refine hK _ ?_
      clear hK K
      refine q_run rfl (fun K hK => ?_)
      refine q_load 25 (.tmp 7) rfl _ rfl _ (vc a) (0, 0) _ (fun w' h' => keep X7 h') Try.underlying25 rfl (by kernel_rfl) ?_
      go_simp
      refine hK _ ?_
      clear hK K
      refine q_run rfl (fun K hK => ?_)
      refine q_call (Nat.le_refl _) hA (fun w' => ?_) ?_
      · first | (go_simp; done) | (go_simp; rfl)
      go_simp
      refine hK _ ?_
      clear hK K
      refine q_run rfl (fun K hK => ?_)
      refine q_value ?_ (fun w' h' => ?_) ?_
      rotate_left
      · go_simp; try with_reducible rfl
      go_simp
      refine hK _ ?_
      clear hK K
      refine q_run rfl (fun K hK => ?_)
      refine q_value ?_ (fun w' h' => ?_) ?_
      rotate_left
      · go_simp; try with_reducible rfl
      go_simp
      refine hK _ ?_
      clear hK K
      refine q_run rfl (fun K hK => ?_)
      refine q_value ?_ (fun w' h' => ?_) ?_
      rotate_left
      · go_simp; try with_reducible rfl
      go_simp
      refine hK _ ?_
      clear hK K
      refine wpQuiet_nil ?_
      intro w7 h7
      replace X7 := keep X7 h7
      replace X8 := keep X8 h7
      replace X9 := keep X9 h7
      replace hB := hB.trans (h7.mono hB.size)
      clear h7
      go_wp2
      go_ret
      exact ⟨rfl, hB⟩
    · rw [e1] at hE; rw [e2] at hP; rw [e3] at hQ; rw [e4] at hS; clear e1 e3 e4
      cases e5 : ahB b c
      · rw [e5] at hBC; clear e2 e5 hAC
        refine plain_all (fun w' => Below w2.heap.size w2 w') (Below.refl _ _) ?_
        refine q_run rfl (fun K hK => ?_)
        refine q_load 25 (.tmp 7) rfl _ rfl _ (vc a) (0, 0) _ (fun w' h' => keep X7 h') Try.underlying25 rfl (by kernel_rfl) ?_
        go_simp
        refine hK _ ?_
        clear hK K
        refine q_run rfl (fun K hK => ?_)
        refine q_load 25 (.tmp 8) rfl _ rfl _ (vc b) (0, 0) _ (fun w' h' => keep X8 h') Try.underlying25 rfl (by kernel_rfl) ?_
        go_simp
        refine hK _ ?_
        clear hK K
        refine q_run rfl (fun K hK => ?_)
        refine q_value ?_ (fun w' h' => ?_) ?_
        rotate_left
        · go_simp; try with_reducible rfl
        go_simp
        refine hK _ ?_
        clear hK K
        refine wpQuiet_nil ?_
        intro w3 h3
        replace X7 := keep X7 h3
        replace X8 := keep X8 h3
        replace X9 := keep X9 h3
        replace hB := hB.trans (h3.mono hB.size)
        clear h3
        go_upto_region 7 with (fail)
        refine plain_all (fun w' => Below w3.heap.size w3 w') (Below.refl _ _) ?_
        refine q_run rfl (fun K hK => ?_)
        refine q_load 25 (.tmp 7) rfl _ rfl _ (vc a) (0, 0) _ (fun w' h' => keep X7 h') Try.underlying25 rfl (by kernel_rfl) ?_
        go_simp
        refine hK _ ?_
        clear hK K
        refine q_run rfl (fun K hK => ?_)
        refine q_load 25 (.tmp 8) rfl _ rfl _ (vc b) (0, 0) _ (fun w' h' => keep X8 h') Try.underlying25 rfl (by kernel_rfl) ?_
        go_simp
        refine hK _ ?_
        clear hK K
        refine q_run rfl (fun K hK => ?_)
        refine q_call (Nat.le_refl _) hP (fun w' => ?_) ?_
        · first | (go_simp; done) | (go_simp; rfl)
        go_simp
        refine hK _ ?_
        clear hK K
        refine wpQuiet_nil ?_
        intro w4 h4
        replace X7 := keep X7 h4
        replace X8 := keep X8 h4
        replace X9 := keep X9 h4
        replace hB := hB.trans (h4.mono hB.size)
        clear h4
        go_upto_region 9 with (fail)
        refine plain_all (fun w' => Below w4.heap.size w4 w') (Below.refl _ _) ?_
        refine q_run rfl (fun K hK => ?_)
        refine q_load 25 (.tmp 8) rfl _ rfl _ (vc b) (0, 0) _ (fun w' h' => keep X8 h') Try.underlying25 rfl (by kernel_rfl) ?_
        go_simp
        refine hK _ ?_
        clear hK K
        refine q_run rfl (fun K hK => ?_)
        refine q_load 25 (.tmp 7) rfl _ rfl _ (vc a) (0, 0) _ (fun w' h' => keep X7 h') Try.underlying25 rfl (by kernel_rfl) ?_
        go_simp
        refine hK _ ?_
        clear hK K
        refine q_run rfl (fun K hK => ?_)
        refine q_call (Nat.le_refl _) hQ (fun w' => ?_) ?_
        · first | (go_simp; done) | (go_simp; rfl)
        go_simp
        refine hK _ ?_
        clear hK K
        refine wpQuiet_nil ?_
        intro w5 h5
        replace X7 := keep X7 h5
        replace X8 := keep X8 h5
        replace X9 := keep X9 h5
        replace hB := hB.trans (h5.mono hB.size)
        clear h5
        go_upto_region 11 with (fail)
        refine plain_all (fun w' => Below w5.heap.size w5 w') (Below.refl _ _) ?_
        refine q_run rfl (fun K hK => ?_)
        refine q_load 25 (.tmp 7) rfl _ rfl _ (vc a) (0, 0) _ (fun w' h' => keep X7 h') Try.underlying25 rfl (by kernel_rfl) ?_
        go_simp
        refine hK _ ?_
        clear hK K
        refine q_run rfl (fun K hK => ?_)
        refine q_load 25 (.tmp 8) rfl _ rfl _ (vc b) (0, 0) _ (fun w' h' => keep X8 h') Try.underlying25 rfl (by kernel_rfl) ?_
        go_simp
        refine hK _ ?_
        clear hK K
        refine q_run rfl (fun K hK => ?_)
        refine q_call (Nat.le_refl _) hS (fun w' => ?_) ?_
        · first | (go_simp; done) | (go_simp; rfl)
        go_simp
        refine hK _ ?_
        clear hK K
        refine wpQuiet_nil ?_
        intro w6 h6
        replace X7 := keep X7 h6
        replace X8 := keep X8 h6
        replace X9 := keep X9 h6
        replace hB := hB.trans (h6.mono hB.size)
        clear h6
        go_upto_region 13 with (fail)
        refine plain_all (fun w' => Below w6.heap.size w6 w') (Below.refl _ _) ?_
        refine q_run rfl (fun K hK => ?_)
        refine q_value ?_ (fun w' h' => ?_) ?_
        rotate_left
        · go_simp; try with_reducible rfl
        go_simp
        refine hK _ ?_
        clear hK K
        refine q_run rfl (fun K hK => ?_)
        refine q_value ?_ (fun w' h' => ?_) ?_
        rotate_left
        · go_simp; try with_reducible rfl
        go_simp
        refine hK _ ?_
        clear hK K
        refine q_run rfl (fun K hK => ?_)
        refine q_value ?_ (fun w' h' => ?_) ?_
        rotate_left
        · go_simp; try with_reducible rfl
        go_simp
        refine hK _ ?_
        clear hK K
        refine q_run rfl (fun K hK => ?_)
        refine q_load 25 (.tmp 7) rfl _ rfl _ (vc a) (0, 0) _ (fun w' h' => keep X7 h') Try.underlying25 rfl (by kernel_rfl) ?_
        go_simp
        refine hK _ ?_
        clear hK K
        refine q_run rfl (fun K hK => ?_)
        refine q_load 25 (.tmp 8) rfl _ rfl _ (vc b) (0, 0) _ (fun w' h' => keep X8 h') Try.underlying25 rfl (by kernel_rfl) ?_
        go_simp
        refine hK _ ?_
        clear hK K
        refine q_run rfl (fun K hK => ?_)
        refine q_call (Nat.le_refl _) hP (fun w' => ?_) ?_
        · first | (go_simp; done) | (go_simp; rfl)
        go_simp
        refine hK _ ?_
        clear hK K
        refine q_run rfl (fun K hK => ?_)
        refine q_value ?_ (fun w' h' => ?_) ?_
        rotate_left
        · go_simp; try with_reducible rfl
        go_simp
        refine hK _ ?_
        clear hK K
        refine q_run rfl (fun K hK => ?_)
        refine q_value ?_ (fun w' h' => ?_) ?_
        rotate_left
        · go_simp; try with_reducible rfl
        go_simp
        refine hK _ ?_
        clear hK K
        refine q_run rfl (fun K hK => ?_)
        refine q_load 25 (.tmp 8) rfl _ rfl _ (vc b) (0, 0) _ (fun w' h' => keep X8 h') Try.underlying25 rfl (by kernel_rfl) ?_
        go_simp
        refine hK _ ?_
        clear hK K
        refine q_run rfl (fun K hK => ?_)
        refine q_load 25 (.tmp 9) rfl _ rfl _ (vc c) (0, 0) _ (fun w' h' => keep X9 h') Try.underlying25 rfl (by kernel_rfl) ?_
        go_simp
        refine hK _ ?_
        clear hK K
        refine q_run rfl (fun K hK => ?_)
        refine q_call (Nat.le_refl _) hBC (fun w' => ?_) ?_
        · first | (go_simp; done) | (go_simp; rfl)
        go_simp
        refine hK _ ?_
        clear hK K
        refine q_run rfl (fun K hK => ?_)
        refine q_value ?_ (fun w' h' => ?_) ?_
        rotate_left
        · go_simp; try with_reducible rfl
        go_simp
        refine hK _ ?_
        clear hK K
        refine q_run rfl (fun K hK => ?_)
        refine q_value ?_ (fun w' h' => ?_) ?_
        rotate_left
        · go_simp; try with_reducible rfl
        go_simp
        refine hK _ ?_
        clear hK K
        refine q_run rfl (fun K hK => ?_)
        refine q_value ?_ (fun w' h' => ?_) ?_
        rotate_left
        · go_simp; try with_reducible rfl
        go_simp
        refine hK _ ?_
        clear hK K
        refine q_skip rfl (fun K hK => ?_)
        go_simp
        refine hK _ ?_
        clear hK K
        refine q_skip rfl (fun K hK => ?_)
        go_simp
        refine hK _ ?_
        clear hK K
        refine q_skip rfl (fun K hK => ?_)
        go_simp
        refine hK _ ?_
        clear hK K
        refine q_run rfl (fun K hK => ?_)
        refine q_value ?_ (fun w' h' => ?_) ?_
        rotate_left
        · go_simp; try with_reducible rfl
        go_simp
        refine hK _ ?_
        clear hK K
        refine q_run rfl (fun K hK => ?_)
        refine q_value ?_ (fun w' h' => ?_) ?_
        rotate_left
        · go_simp; try with_reducible rfl
        go_simp
        refine hK _ ?_
        clear hK K
        refine q_run rfl (fun K hK => ?_)
        refine q_value ?_ (fun w' h' => ?_) ?_
        rotate_left
        · go_simp; try with_reducible rfl
        go_simp
        refine hK _ ?_
        clear hK K
        refine q_run rfl (fun K hK => ?_)
        refine q_load 25 (.tmp 7) rfl _ rfl _ (vc a) (0, 0) _ (fun w' h' => keep X7 h') Try.underlying25 rfl (by kernel_rfl) ?_
        go_simp
        refine hK _ ?_
        clear hK K
        refine q_run rfl (fun K hK => ?_)
        refine q_load 25 (.tmp 7) rfl _ rfl _ (vc a) (0, 0) _ (fun w' h' => keep X7 h') Try.underlying25 rfl (by kernel_rfl) ?_
        go_simp
        refine hK _ ?_
        clear hK K
        refine q_run rfl (fun K hK => ?_)
        refine q_call (Nat.le_refl _) hKn (fun w' => ?_) ?_
        · first | (go_simp; done) | (go_simp; rfl)
        go_simp
        refine hK _ ?_
        clear hK K
        refine q_run rfl (fun K hK => ?_)
        refine q_value ?_ (fun w' h' => ?_) ?_
        rotate_left
        · go_simp; try with_reducible rfl
        go_simp
        refine hK _ ?_
        clear hK K
        refine q_run rfl (fun K hK => ?_)
        refine q_value ?_ (fun w' h' => ?_) ?_
        rotate_left
        · go_simp; try with_reducible rfl
        go_simp
        refine hK _ ?_
        clear hK K
        refine q_run rfl (fun K hK => ?_)
        refine q_load 25 (.tmp 7) rfl _ rfl _ (vc a) (0, 0) _ (fun w' h' => keep X7 h') Try.underlying25 rfl (by kernel_rfl) ?_
        go_simp
        refine hK _ ?_
        clear hK K
        refine q_run rfl (fun K hK => ?_)
        refine q_load 25 (.tmp 7) rfl _ rfl _ (vc a) (0, 0) _ (fun w' h' => keep X7 h') Try.underlying25 rfl (by kernel_rfl) ?_
        go_simp
        refine hK _ ?_
        clear hK K
        refine q_run rfl (fun K hK => ?_)
        refine q_call (Nat.le_refl _) hA (fun w' => ?_) ?_
        · first | (go_simp; done) | (go_simp; rfl)
        go_simp
        refine hK _ ?_
        clear hK K
        refine q_run rfl (fun K hK => ?_)
        refine q_value ?_ (fun w' h' => ?_) ?_
        rotate_left
        · go_simp; try with_reducible rfl
        go_simp
        refine hK _ ?_
        clear hK K
        refine q_run rfl (fun K hK => ?_)
        refine q_value ?_ (fun w' h' => ?_) ?_
        rotate_left
        · go_simp; try with_reducible rfl
        go_simp
        refine hK _ ?_
        clear hK K
        refine q_run rfl (fun K hK => ?_)
        refine q_value ?_ (fun w' h' => ?_) ?_
        rotate_left
        · go_simp; try with_reducible rfl
        go_simp
        refine hK _ ?_
        clear hK K
        refine wpQuiet_nil ?_
        intro w7 h7
        replace X7 := keep X7 h7
        replace X8 := keep X8 h7
        replace X9 := keep X9 h7
        replace hB := hB.trans (h7.mono hB.size)
        clear h7
        go_wp2
        go_ret
        exact ⟨rfl, hB⟩
      · rw [e5] at hBC; rw [ah_trans e2 e5] at hAC; clear e2 e5
        refine plain_all (fun w' => Below w2.heap.size w2 w') (Below.refl _ _) ?_
        refine q_run rfl (fun K hK => ?_)
        refine q_load 25 (.tmp 7) rfl _ rfl _ (vc a) (0, 0) _ (fun w' h' => keep X7 h') Try.underlying25 rfl (by kernel_rfl) ?_
        go_simp
        refine hK _ ?_
        clear hK K
        refine q_run rfl (fun K hK => ?_)
        refine q_load 25 (.tmp 8) rfl _ rfl _ (vc b) (0, 0) _ (fun w' h' => keep X8 h') Try.underlying25 rfl (by kernel_rfl) ?_
        go_simp
        refine hK _ ?_
        clear hK K
        refine q_run rfl (fun K hK => ?_)
        refine q_value ?_ (fun w' h' => ?_) ?_
        rotate_left
        · go_simp; try with_reducible rfl
        go_simp
        refine hK _ ?_
        clear hK K
        refine wpQuiet_nil ?_
        intro w3 h3
        replace X7 := keep X7 h3
        replace X8 := keep X8 h3
        replace X9 := keep X9 h3
        replace hB := hB.trans (h3.mono hB.size)
        clear h3
        go_upto_region 7 with (fail)
        refine plain_all (fun w' => Below w3.heap.size w3 w') (Below.refl _ _) ?_
        refine q_run rfl (fun K hK => ?_)
        refine q_load 25 (.tmp 7) rfl _ rfl _ (vc a) (0, 0) _ (fun w' h' => keep X7 h') Try.underlying25 rfl (by kernel_rfl) ?_
        go_simp
        refine hK _ ?_
        clear hK K
        refine q_run rfl (fun K hK => ?_)
        refine q_load 25 (.tmp 8) rfl _ rfl _ (vc b) (0, 0) _ (fun w' h' => keep X8 h') Try.underlying25 rfl (by kernel_rfl) ?_
        go_simp
        refine hK _ ?_
        clear hK K
        refine q_run rfl (fun K hK => ?_)
        refine q_call (Nat.le_refl _) hP (fun w' => ?_) ?_
        · first | (go_simp; done) | (go_simp; rfl)
        go_simp
        refine hK _ ?_
        clear hK K
        refine wpQuiet_nil ?_
        intro w4 h4
        replace X7 := keep X7 h4
        replace X8 := keep X8 h4
        replace X9 := keep X9 h4
        replace hB := hB.trans (h4.mono hB.size)
        clear h4
        go_upto_region 9 with (fail)
        refine plain_all (fun w' => Below w4.heap.size w4 w') (Below.refl _ _) ?_
        refine q_run rfl (fun K hK => ?_)
        refine q_load 25 (.tmp 8) rfl _ rfl _ (vc b) (0, 0) _ (fun w' h' => keep X8 h') Try.underlying25 rfl (by kernel_rfl) ?_
        go_simp
        refine hK _ ?_
        clear hK K
        refine q_run rfl (fun K hK => ?_)
        refine q_load 25 (.tmp 7) rfl _ rfl _ (vc a) (0, 0) _ (fun w' h' => keep X7 h') Try.underlying25 rfl (by kernel_rfl) ?_
        go_simp
        refine hK _ ?_
        clear hK K
        refine q_run rfl (fun K hK => ?_)
        refine q_call (Nat.le_refl _) hQ (fun w' => ?_) ?_
        · first | (go_simp; done) | (go_simp; rfl)
        go_simp
        refine hK _ ?_
        clear hK K
        refine wpQuiet_nil ?_
        intro w5 h5
        replace X7 := keep X7 h5
        replace X8 := keep X8 h5
        replace X9 := keep X9 h5
        replace hB := hB.trans (h5.mono hB.size)
        clear h5
        go_upto_region 11 with (fail)
        refine plain_all (fun w' => Below w5.heap.size w5 w') (Below.refl _ _) ?_
        refine q_run rfl (fun K hK => ?_)
        refine q_load 25 (.tmp 7) rfl _ rfl _ (vc a) (0, 0) _ (fun w' h' => keep X7 h') Try.underlying25 rfl (by kernel_rfl) ?_
        go_simp
        refine hK _ ?_
        clear hK K
        refine q_run rfl (fun K hK => ?_)
        refine q_load 25 (.tmp 8) rfl _ rfl _ (vc b) (0, 0) _ (fun w' h' => keep X8 h') Try.underlying25 rfl (by kernel_rfl) ?_
        go_simp
        refine hK _ ?_
        clear hK K
        refine q_run rfl (fun K hK => ?_)
        refine q_call (Nat.le_refl _) hS (fun w' => ?_) ?_
        · first | (go_simp; done) | (go_simp; rfl)
        go_simp
        refine hK _ ?_
        clear hK K
        refine wpQuiet_nil ?_
        intro w6 h6
        replace X7 := keep X7 h6
        replace X8 := keep X8 h6
        replace X9 := keep X9 h6
        replace hB := hB.trans (h6.mono hB.size)
        clear h6
        go_upto_region 13 with (fail)
        refine plain_all (fun w' => Below w6.heap.size w6 w') (Below.refl _ _) ?_
        refine q_run rfl (fun K hK => ?_)
        refine q_value ?_ (fun w' h' => ?_) ?_
        rotate_left
        · go_simp; try with_reducible rfl
        go_simp
        refine hK _ ?_
        clear hK K
        refine q_run rfl (fun K hK => ?_)
        refine q_value ?_ (fun w' h' => ?_) ?_
        rotate_left
        · go_simp; try with_reducible rfl
        go_simp
        refine hK _ ?_
        clear hK K
        refine q_run rfl (fun K hK => ?_)
        refine q_value ?_ (fun w' h' => ?_) ?_
        rotate_left
        · go_simp; try with_reducible rfl
        go_simp
        refine hK _ ?_
        clear hK K
        refine q_run rfl (fun K hK => ?_)
        refine q_load 25 (.tmp 7) rfl _ rfl _ (vc a) (0, 0) _ (fun w' h' => keep X7 h') Try.underlying25 rfl (by kernel_rfl) ?_
        go_simp
        refine hK _ ?_
        clear hK K
        refine q_run rfl (fun K hK => ?_)
        refine q_load 25 (.tmp 8) rfl _ rfl _ (vc b) (0, 0) _ (fun w' h' => keep X8 h') Try.underlying25 rfl (by kernel_rfl) ?_
        go_simp
        refine hK _ ?_
        clear hK K
        refine q_run rfl (fun K hK => ?_)
        refine q_call (Nat.le_refl _) hP (fun w' => ?_) ?_
        · first | (go_simp; done) | (go_simp; rfl)
        go_simp
        refine hK _ ?_
        clear hK K
        refine q_run rfl (fun K hK => ?_)
        refine q_value ?_ (fun w' h' => ?_) ?_
        rotate_left
        · go_simp; try with_reducible rfl
        go_simp
        refine hK _ ?_
        clear hK K
        refine q_run rfl (fun K hK => ?_)
        refine q_value ?_ (fun w' h' => ?_) ?_
        rotate_left
        · go_simp; try with_reducible rfl
        go_simp
        refine hK _ ?_
        clear hK K
        refine q_run rfl (fun K hK => ?_)
        refine q_load 25 (.tmp 8) rfl _ rfl _ (vc b) (0, 0) _ (fun w' h' => keep X8 h') Try.underlying25 rfl (by kernel_rfl) ?_
        go_simp
        refine hK _ ?_
        clear hK K
        refine q_run rfl (fun K hK => ?_)
        refine q_load 25 (.tmp 9) rfl _ rfl _ (vc c) (0, 0) _ (fun w' h' => keep X9 h') Try.underlying25 rfl (by kernel_rfl) ?_
        go_simp
        refine hK _ ?_
        clear hK K
        refine q_run rfl (fun K hK => ?_)
        refine q_call (Nat.le_refl _) hBC (fun w' => ?_) ?_
        · first | (go_simp; done) | (go_simp; rfl)
        go_simp
        refine hK _ ?_
        clear hK K
        refine q_run rfl (fun K hK => ?_)
        refine q_value ?_ (fun w' h' => ?_) ?_
        rotate_left
        · go_simp; try with_reducible rfl
        go_simp
        refine hK _ ?_
        clear hK K
        refine q_run rfl (fun K hK => ?_)
        refine q_value ?_ (fun w' h' => ?_) ?_
        rotate_left
        · go_simp; try with_reducible rfl
        go_simp
        refine hK _ ?_
        clear hK K
        refine q_run rfl (fun K hK => ?_)
        refine q_value ?_ (fun w' h' => ?_) ?_
        rotate_left
        · go_simp; try with_reducible rfl
        go_simp
        refine hK _ ?_
        clear hK K
        refine q_run rfl (fun K hK => ?_)
        refine q_load 25 (.tmp 7) rfl _ rfl _ (vc a) (0, 0) _ (fun w' h' => keep X7 h') Try.underlying25 rfl (by kernel_rfl) ?_
        go_simp
        refine hK _ ?_
        clear hK K
        refine q_run rfl (fun K hK => ?_)
        refine q_load 25 (.tmp 9) rfl _ rfl _ (vc c) (0, 0) _ (fun w' h' => keep X9 h') Try.underlying25 rfl (by kernel_rfl) ?_
        go_simp
        refine hK _ ?_
        clear hK K
        refine q_run rfl (fun K hK => ?_)
        refine q_call (Nat.le_refl _) hAC (fun w' => ?_) ?_
        · first | (go_simp; done) | (go_simp; rfl)
        go_simp
        refine hK _ ?_
        clear hK K
        refine q_run rfl (fun K hK => ?_)
        refine q_value ?_ (fun w' h' => ?_) ?_
        rotate_left
        · go_simp; try with_reducible rfl
        go_simp
        refine hK _ ?_
        clear hK K
        refine q_run rfl (fun K hK => ?_)
        refine q_value ?_ (fun w' h' => ?_) ?_
        rotate_left
        · go_simp; try with_reducible rfl
        go_simp
        refine hK _ ?_
        clear hK K
        refine q_run rfl (fun K hK => ?_)
        refine q_value ?_ (fun w' h' => ?_) ?_
        rotate_left
        · go_simp; try with_reducible rfl
        go_simp
        refine hK _ ?_
        clear hK K
        refine q_run rfl (fun K hK => ?_)
        refine q_load 25 (.tmp 7) rfl _ rfl _ (vc a) (0, 0) _ (fun w' h' => keep X7 h') Try.underlying25 rfl (by kernel_rfl) ?_
        go_simp
        refine hK _ ?_
        clear hK K
        refine q_run rfl (fun K hK => ?_)
        refine q_load 25 (.tmp 7) rfl _ rfl _ (vc a) (0, 0) _ (fun w' h' => keep X7 h') Try.underlying25 rfl (by kernel_rfl) ?_
        go_simp
        refine hK _ ?_
        clear hK K
        refine q_run rfl (fun K hK => ?_)
        refine q_call (Nat.le_refl _) hKn (fun w' => ?_) ?_
        · first | (go_simp; done) | (go_simp; rfl)
        go_simp
        refine hK _ ?_
        clear hK K
        refine q_run rfl (fun K hK => ?_)
        refine q_value ?_ (fun w' h' => ?_) ?_
        rotate_left
        · go_simp; try with_reducible rfl
        go_simp
        refine hK _ ?_
        clear hK K
        refine q_run rfl (fun K hK => ?_)
        refine q_value ?_ (fun w' h' => ?_) ?_
        rotate_left
        · go_simp; try with_reducible rfl
        go_simp
        refine hK _ ?_
        clear hK K
        refine q_run rfl (fun K hK => ?_)
        refine q_load 25 (.tmp 7) rfl _ rfl _ (vc a) (0, 0) _ (fun w' h' => keep X7 h') Try.underlying25 rfl (by kernel_rfl) ?_
        go_simp
        refine hK _ ?_
        clear hK K
        refine q_run rfl (fun K hK => ?_)
        refine q_load 25 (.tmp 7) rfl _ rfl _ (vc a) (0, 0) _ (fun w' h' => keep X7 h') Try.underlying25 rfl (by kernel_rfl) ?_
        go_simp
        refine hK _ ?_
        clear hK K
        refine q_run rfl (fun K hK => ?_)
        refine q_call (Nat.le_refl _) hA (fun w' => ?_) ?_
        · first | (go_simp; done) | (go_simp; rfl)
        go_simp
        refine hK _ ?_
        clear hK K
        refine q_run rfl (fun K hK => ?_)
        refine q_value ?_ (fun w' h' => ?_) ?_
        rotate_left
        · go_simp; try with_reducible rfl
        go_simp
        refine hK _ ?_
        clear hK K
        refine q_run rfl (fun K hK => ?_)
        refine q_value ?_ (fun w' h' => ?_) ?_
        rotate_left
        · go_simp; try with_reducible rfl
        go_simp
        refine hK _ ?_
        clear hK K
        refine q_run rfl (fun K hK => ?_)
        refine q_value ?_ (fun w' h' => ?_) ?_
        rotate_left
        · go_simp; try with_reducible rfl
        go_simp
        refine hK _ ?_
        clear hK K
        refine wpQuiet_nil ?_
        intro w7 h7
        replace X7 := keep X7 h7
        replace X8 := keep X8 h7
        replace X9 := keep X9 h7
        replace hB := hB.trans (h7.mono hB.size)
        clear h7
        go_wp2
        go_ret
        exact ⟨rfl, hB⟩
    · rw [e1] at hE; rw [e2] at hP; rw [e3] at hQ; rw [e4] at hS; clear e1 e3 e4; clear e2 hBC hAC
      refine plain_all (fun w' => Below w2.heap.size w2 w') (Below.refl _ _) ?_
      refine q_run rfl (fun K hK => ?_)
      refine q_load 25 (.tmp 7) rfl _ rfl _ (vc a) (0, 0) _ (fun w' h' => keep X7 h') Try.underlying25 rfl (by kernel_rfl) ?_
      go_simp
      refine hK _ ?_
      clear hK K
      refine q_run rfl (fun K hK => ?_)
      refine q_load 25 (.tmp 8) rfl _ rfl _ (vc b) (0, 0) _ (fun w' h' => keep X8 h') Try.underlying25 rfl (by kernel_rfl) ?_
      go_simp
      refine hK _ ?_
      clear hK K
      refine q_run rfl (fun K hK => ?_)
      refine q_value ?_ (fun w' h' => ?_) ?_
      rotate_left
      · go_simp; try with_reducible rfl
      go_simp
      refine hK _ ?_
      clear hK K
      refine wpQuiet_nil ?_
      intro w3 h3
      replace X7 := keep X7 h3
      replace X8 := keep X8 h3
      replace X9 := keep X9 h3
      replace hB := hB.trans (h3.mono hB.size)
      clear h3
      go_upto_region 7 with (fail)
      refine plain_all (fun w' => Below w3.heap.size w3 w') (Below.refl _ _) ?_
      refine q_run rfl (fun K hK => ?_)
      refine q_load 25 (.tmp 7) rfl _ rfl _ (vc a) (0, 0) _ (fun w' h' => keep X7 h') Try.underlying25 rfl (by kernel_rfl) ?_
      go_simp
      refine hK _ ?_
      clear hK K
      refine q_run rfl (fun K hK => ?_)
      refine q_load 25 (.tmp 8) rfl _ rfl _ (vc b) (0, 0) _ (fun w' h' => keep X8 h') Try.underlying25 rfl (by kernel_rfl) ?_
      go_simp
      refine hK _ ?_
      clear hK K
      refine q_run rfl (fun K hK => ?_)
      refine q_call (Nat.le_refl _) hP (fun w' => ?_) ?_
      · first | (go_simp; done) | (go_simp; rfl)
      go_simp
      refine hK _ ?_
      clear hK K
      refine wpQuiet_nil ?_
      intro w4 h4
      replace X7 := keep X7 h4
      replace X8 := keep X8 h4
      replace X9 := keep X9 h4
      replace hB := hB.trans (h4.mono hB.size)
      clear h4
      go_upto_region 9 with (fail)
      refine plain_all (fun w' => Below w4.heap.size w4 w') (Below.refl _ _) ?_
      refine q_run rfl (fun K hK => ?_)
      refine q_load 25 (.tmp 8) rfl _ rfl _ (vc b) (0, 0) _ (fun w' h' => keep X8 h') Try.underlying25 rfl (by kernel_rfl) ?_
      go_simp
      refine hK _ ?_
      clear hK K
      refine q_run rfl (fun K hK => ?_)
      refine q_load 25 (.tmp 7) rfl _ rfl _ (vc a) (0, 0) _ (fun w' h' => keep X7 h') Try.underlying25 rfl (by kernel_rfl) ?_
      go_simp
      refine hK _ ?_
      clear hK K
      refine q_run rfl (fun K hK => ?_)
      refine q_call (Nat.le_refl _) hQ (fun w' => ?_) ?_
      · first | (go_simp; done) | (go_simp; rfl)
      go_simp
      refine hK _ ?_
      clear hK K
      refine wpQuiet_nil ?_
      intro w5 h5
      replace X7 := keep X7 h5
      replace X8 := keep X8 h5
      replace X9 := keep X9 h5
      replace hB := hB.trans (h5.mono hB.size)
      clear h5
      go_upto_region 11 with (fail)
      refine plain_all (fun w' => Below w5.heap.size w5 w') (Below.refl _ _) ?_
      refine q_run rfl (fun K hK => ?_)
      refine q_load 25 (.tmp 7) rfl _ rfl _ (vc a) (0, 0) _ (fun w' h' => keep X7 h') Try.underlying25 rfl (by kernel_rfl) ?_
      go_simp
      refine hK _ ?_
      clear hK K
      refine q_run rfl (fun K hK => ?_)
      refine q_load 25 (.tmp 8) rfl _ rfl _ (vc b) (0, 0) _ (fun w' h' => keep X8 h') Try.underlying25 rfl (by kernel_rfl) ?_
      go_simp
      refine hK _ ?_
      clear hK K
      refine q_run rfl (fun K hK => ?_)
      refine q_call (Nat.le_refl _) hS (fun w' => ?_) ?_
      · first | (go_simp; done) | (go_simp; rfl)
      go_simp
      refine hK _ ?_
      clear hK K
      refine wpQuiet_nil ?_
      intro w6 h6
      replace X7 := keep X7 h6
      replace X8 := keep X8 h6
      replace X9 := keep X9 h6
      replace hB := hB.trans (h6.mono hB.size)
      clear h6
      go_upto_region 13 with (fail)
      refine plain_all (fun w' => Below w6.heap.size w6 w') (Below.refl _ _) ?_
      refine q_run rfl (fun K hK => ?_)
      refine q_value ?_ (fun w' h' => ?_) ?_
      rotate_left
      · go_simp; try with_reducible rfl
      go_simp
      refine hK _ ?_
      clear hK K
      refine q_run rfl (fun K hK => ?_)
      refine q_value ?_ (fun w' h' => ?_) ?_
      rotate_left
      · go_simp; try with_reducible rfl
      go_simp
      refine hK _ ?_
      clear hK K
      refine q_run rfl (fun K hK => ?_)
      refine q_value ?_ (fun w' h' => ?_) ?_
      rotate_left
      · go_simp; try with_reducible rfl
      go_simp
      refine hK _ ?_
      clear hK K
      refine q_run rfl (fun K hK => ?_)
      refine q_load 25 (.tmp 7) rfl _ rfl _ (vc a) (0, 0) _ (fun w' h' => keep X7 h') Try.underlying25 rfl (by kernel_rfl) ?_
      go_simp
      refine hK _ ?_
      clear hK K
      refine q_run rfl (fun K hK => ?_)
      refine q_load 25 (.tmp 8) rfl _ rfl _ (vc b) (0, 0) _ (fun w' h' => keep X8 h') Try.underlying25 rfl (by kernel_rfl) ?_
      go_simp
      refine hK _ ?_
      clear hK K
      refine q_run rfl (fun K hK => ?_)
      refine q_call (Nat.le_refl _) hP (fun w' => ?_) ?_
      · first | (go_simp; done) | (go_simp; rfl)
      go_simp
      refine hK _ ?_
      clear hK K
      refine q_run rfl (fun K hK => ?_)
      refine q_value ?_ (fun w' h' => ?_) ?_
      rotate_left
      · go_simp; try with_reducible rfl
      go_simp
      refine hK _ ?_
      clear hK K
      refine q_run rfl (fun K hK => ?_)
      refine q_value ?_ (fun w' h' => ?_) ?_
      rotate_left
      · go_simp; try with_reducible rfl
      go_simp
      refine hK _ ?_
      clear hK K
      refine q_skip rfl (fun K hK => ?_)
      go_simp
      refine hK _ ?_
      clear hK K
      refine q_skip rfl (fun K hK => ?_)
      go_simp
      refine hK _ ?_
      clear hK K
      refine q_skip rfl (fun K hK => ?_)
      go_simp
      refine hK _ ?_
      clear hK K
      refine q_skip rfl (fun K hK => ?_)
      go_simp
      refine hK _ ?_
      clear hK K
      refine q_run rfl (fun K hK => ?_)
      refine q_value ?_ (fun w' h' => ?_) ?_
      rotate_left
      · go_simp; try with_reducible rfl
      go_simp
      refine hK _ ?_
      clear hK K
      refine q_run rfl (fun K hK => ?_)
      refine q_value ?_ (fun w' h' => ?_) ?_
      rotate_left
      · go_simp; try with_reducible rfl
      go_simp
      refine hK _ ?_
      clear hK K
      refine q_skip rfl (fun K hK => ?_)
      go_simp
      refine hK _ ?_
      clear hK K
      refine q_skip rfl (fun K hK => ?_)
      go_simp
      refine hK _ ?_
      clear hK K
      refine q_skip rfl (fun K hK => ?_)
      go_simp
      refine hK _ ?_
      clear hK K
      refine q_run rfl (fun K hK => ?_)
      refine q_value ?_ (fun w' h' => ?_) ?_
      rotate_left
      · go_simp; try with_reducible rfl
      go_simp
      refine hK _ ?_
      clear hK K
      refine q_run rfl (fun K hK => ?_)
      refine q_value ?_ (fun w' h' => ?_) ?_
      rotate_left
      · go_simp; try with_reducible rfl
      go_simp
      refine hK _ ?_
      clear hK K
      refine q_run rfl (fun K hK => ?_)
      refine q_value ?_ (fun w' h' => ?_) ?_
      rotate_left
      · go_simp; try with_reducible rfl
      go_simp
      refine hK _ ?_
      clear hK K
      refine q_run rfl (fun K hK => ?_)
      refine q_load 25 (.tmp 7) rfl _ rfl _ (vc a) (0, 0) _ (fun w' h' => keep X7 h') Try.underlying25 rfl (by kernel_rfl) ?_
      go_simp
      refine hK _ ?_
      clear hK K
      refine q_run rfl (fun K hK => ?_)
      refine q_load 25 (.tmp 7) rfl _ rfl _ (vc a) (0, 0) _ (fun w' h' => keep X7 h') Try.underlying25 rfl (by kernel_rfl) ?_
      go_simp
      refine hK _ ?_
      clear hK K
      refine q_run rfl (fun K hK => ?_)
      refine q_call (Nat.le_refl _) hKn (fun w' => ?_) ?_
      · first | (go_simp; done) | (go_simp; rfl)
      go_simp
      refine hK _ ?_
      clear hK K
      refine q_run rfl (fun K hK => ?_)
      refine q_value ?_ (fun w' h' => ?_) ?_
      rotate_left
      · go_simp; try with_reducible rfl
      go_simp
      refine hK _ ?_
      clear hK K
      refine q_run rfl (fun K hK => ?_)
      refine q_value ?_ (fun w' h' => ?_) ?_
      rotate_left
      · go_simp; try with_reducible rfl
      go_simp
      refine hK _ ?_
      clear hK K
      refine q_run rfl (fun K hK => ?_)
      refine q_load 25 (.tmp 7) rfl _ rfl _ (vc a) (0, 0) _ (fun w' h' => keep X7 h') Try.underlying25 rfl (by kernel_rfl) ?_
      go_simp
      refine hK _ ?_
      clear hK K
      refine q_run rfl (fun K hK => ?_)
      refine q_load 25 (.tmp 7) rfl _ rfl _ (vc a) (0, 0) _ (fun w' h' => keep X7 h') Try.underlying25 rfl (by kernel_rfl) ?_
      go_simp
      refine hK _ ?_
      clear hK K
      refine q_run rfl (fun K hK => ?_)
      refine q_call (Nat.le_refl _) hA (fun w' => ?_) ?_
      · first | (go_simp; done) | (go_simp; rfl)
      go_simp
      refine hK _ ?_
      clear hK K
      refine q_run rfl (fun K hK => ?_)
      refine q_value ?_ (fun w' h' => ?_) ?_
      rotate_left
      · go_simp; try with_reducible rfl
      go_simp
      refine hK _ ?_
      clear hK K
      refine q_run rfl (fun K hK => ?_)
      refine q_value ?_ (fun w' h' => ?_) ?_
      rotate_left
      · go_simp; try with_reducible rfl
      go_simp
      refine hK _ ?_
      clear hK K
      refine q_run rfl (fun K hK => ?_)
      refine q_value ?_ (fun w' h' => ?_) ?_
      rotate_left
      · go_simp; try with_reducible rfl
      go_simp
      refine hK _ ?_
      clear hK K
      refine wpQuiet_nil ?_
      intro w7 h7
      replace X7 := keep X7 h7
      replace X8 := keep X8 h7
      replace X9 := keep X9 h7
      replace hB := hB.trans (h7.mono hB.size)
      clear h7
      go_wp2
      go_ret
      exact ⟨rfl, hB⟩
    · rw [e1] at hE; rw [e2] at hP; rw [e3] at hQ; rw [e4] at hS; clear e1 e3 e4; clear e2 hBC hAC
      refine plain_all (fun w' => Below w2.heap.size w2 w') (Below.refl _ _) ?_
      refine q_run rfl (fun K hK => ?_)
      refine q_load 25 (.tmp 7) rfl _ rfl _ (vc a) (0, 0) _ (fun w' h' => keep X7 h') Try.underlying25 rfl (by kernel_rfl) ?_
      go_simp
      refine hK _ ?_
      clear hK K
      refine q_run rfl (fun K hK => ?_)
      refine q_load 25 (.tmp 8) rfl _ rfl _ (vc b) (0, 0) _ (fun w' h' => keep X8 h') Try.underlying25 rfl (by kernel_rfl) ?_
      go_simp
      refine hK _ ?_
      clear hK K
      refine q_run rfl (fun K hK => ?_)
      refine q_value ?_ (fun w' h' => ?_) ?_
      rotate_left
      · go_simp; try with_reducible rfl
      go_simp
      refine hK _ ?_
      clear hK K
      refine wpQuiet_nil ?_
      intro w3 h3
      replace X7 := keep X7 h3
      replace X8 := keep X8 h3
      replace X9 := keep X9 h3
      replace hB := hB.trans (h3.mono hB.size)
      clear h3
      go_upto_region 7 with (fail)
      refine plain_all (fun w' => Below w3.heap.size w3 w') (Below.refl _ _) ?_
      refine q_run rfl (fun K hK => ?_)
      refine q_load 25 (.tmp 7) rfl _ rfl _ (vc a) (0, 0) _ (fun w' h' => keep X7 h') Try.underlying25 rfl (by kernel_rfl) ?_
      go_simp
      refine hK _ ?_
      clear hK K
      refine q_run rfl (fun K hK => ?_)
      refine q_load 25 (.tmp 8) rfl _ rfl _ (vc b) (0, 0) _ (fun w' h' => keep X8 h') Try.underlying25 rfl (by kernel_rfl) ?_
      go_simp
      refine hK _ ?_
      clear hK K
      refine q_run rfl (fun K hK => ?_)
      refine q_call (Nat.le_refl _) hP (fun w' => ?_) ?_
      · first | (go_simp; done) | (go_simp; rfl)
      go_simp
      refine hK _ ?_
      clear hK K
      refine wpQuiet_nil ?_
      intro w4 h4
      replace X7 := keep X7 h4
      replace X8 := keep X8 h4
      replace X9 := keep X9 h4
      replace hB := hB.trans (h4.mono hB.size)
      clear h4
      go_upto_region 9 with (fail)
      refine plain_all (fun w' => Below w4.heap.size w4 w') (Below.refl _ _) ?_
      refine q_run rfl (fun K hK => ?_)
      refine q_load 25 (.tmp 8) rfl _ rfl _ (vc b) (0, 0) _ (fun w' h' => keep X8 h') Try.underlying25 rfl (by kernel_rfl) ?_
      go_simp
      refine hK _ ?_
      clear hK K
      refine q_run rfl (fun K hK => ?_)
      refine q_load 25 (.tmp 7) rfl _ rfl _ (vc a) (0, 0) _ (fun w' h' => keep X7 h') Try.underlying25 rfl (by kernel_rfl) ?_
      go_simp
      refine hK _ ?_
      clear hK K
      refine q_run rfl (fun K hK => ?_)
      refine q_call (Nat.le_refl _) hQ (fun w' => ?_) ?_
      · first | (go_simp; done) | (go_simp; rfl)
      go_simp
      refine hK _ ?_
      clear hK K
      refine wpQuiet_nil ?_
      intro w5 h5
      replace X7 := keep X7 h5
      replace X8 := keep X8 h5
      replace X9 := keep X9 h5
      replace hB := hB.trans (h5.mono hB.size)
      clear h5
      go_upto_region 11 with (fail)
      refine plain_all (fun w' => Below w5.heap.size w5 w') (Below.refl _ _) ?_
      refine q_run rfl (fun K hK => ?_)
      refine q_load 25 (.tmp 7) rfl _ rfl _ (vc a) (0, 0) _ (fun w' h' => keep X7 h') Try.underlying25 rfl (by kernel_rfl) ?_
      go_simp
      refine hK _ ?_
      clear hK K
      refine q_run rfl (fun K hK => ?_)
      refine q_load 25 (.tmp 8) rfl _ rfl _ (vc b) (0, 0) _ (fun w' h' => keep X8 h') Try.underlying25 rfl (by kernel_rfl) ?_
      go_simp
      refine hK _ ?_
      clear hK K
      refine q_run rfl (fun K hK => ?_)
      refine q_call (Nat.le_refl _) hS (fun w' => ?_) ?_
      · first | (go_simp; done) | (go_simp; rfl)
      go_simp
      refine hK _ ?_
      clear hK K
      refine wpQuiet_nil ?_
      intro w6 h6
      replace X7 := keep X7 h6
      replace X8 := keep X8 h6
      replace X9 := keep X9 h6
      replace hB := hB.trans (h6.mono hB.size)
      clear h6
      go_upto_region 13 with (fail)
      refine plain_all (fun w' => Below w6.heap.size w6 w') (Below.refl _ _) ?_
      refine q_run rfl (fun K hK => ?_)
      refine q_value ?_ (fun w' h' => ?_) ?_
      rotate_left
      · go_simp; try with_reducible rfl
      go_simp
      refine hK _ ?_
      clear hK K
      refine q_run rfl (fun K hK => ?_)
      refine q_value ?_ (fun w' h' => ?_) ?_
      rotate_left
      · go_simp; try with_reducible rfl
      go_simp
      refine hK _ ?_
      clear hK K
      refine q_run rfl (fun K hK => ?_)
      refine q_value ?_ (fun w' h' => ?_) ?_
      rotate_left
      · go_simp; try with_reducible rfl
      go_simp
      refine hK _ ?_
      clear hK K
      refine q_run rfl (fun K hK => ?_)
      refine q_load 25 (.tmp 7) rfl _ rfl _ (vc a) (0, 0) _ (fun w' h' => keep X7 h') Try.underlying25 rfl (by kernel_rfl) ?_
      go_simp
      refine hK _ ?_
      clear hK K
      refine q_run rfl (fun K hK => ?_)
      refine q_load 25 (.tmp 8) rfl _ rfl _ (vc b) (0, 0) _ (fun w' h' => keep X8 h') Try.underlying25 rfl (by kernel_rfl) ?_
      go_simp
      refine hK _ ?_
      clear hK K
      refine q_run rfl (fun K hK => ?_)
      refine q_call (Nat.le_refl _) hP (fun w' => ?_) ?_
      · first | (go_simp; done) | (go_simp; rfl)
      go_simp
      refine hK _ ?_
      clear hK K
      refine q_run rfl (fun K hK => ?_)
      refine q_value ?_ (fun w' h' => ?_) ?_
      rotate_left
      · go_simp; try with_reducible rfl
      go_simp
      refine hK _ ?_
      clear hK K
      refine q_run rfl (fun K hK => ?_)
      refine q_value ?_ (fun w' h' => ?_) ?_
      rotate_left
      · go_simp; try with_reducible rfl
      go_simp
      refine hK _ ?_
      clear hK K
      refine q_skip rfl (fun K hK => ?_)
      go_simp
      refine hK _ ?_
      clear hK K
      refine q_skip rfl (fun K hK => ?_)
      go_simp
      refine hK _ ?_
      clear hK K
      refine q_skip rfl (fun K hK => ?_)
      go_simp
      refine hK _ ?_
      clear hK K
      refine q_skip rfl (fun K hK => ?_)
      go_simp
      refine hK _ ?_
      clear hK K
      refine q_run rfl (fun K hK => ?_)
      refine q_value ?_ (fun w' h' => ?_) ?_
      rotate_left
      · go_simp; try with_reducible rfl
      go_simp
      refine hK _ ?_
      clear hK K
      refine q_run rfl (fun K hK => ?_)
      refine q_value ?_ (fun w' h' => ?_) ?_
      rotate_left
      · go_simp; try with_reducible rfl
      go_simp
      refine hK _ ?_
      clear hK K
      refine q_skip rfl (fun K hK => ?_)
      go_simp
      refine hK _ ?_
      clear hK K
      refine q_skip rfl (fun K hK => ?_)
      go_simp
      refine hK _ ?_
      clear hK K
      refine q_skip rfl (fun K hK => ?_)
      go_simp
      refine hK _ ?_
      clear hK K
      refine q_run rfl (fun K hK => ?_)
      refine q_value ?_ (fun w' h' => ?_) ?_
      rotate_left
      · go_simp; try with_reducible rfl
      go_simp
      refine hK _ ?_
      clear hK K
      refine q_run rfl (fun K hK => ?_)
      refine q_value ?_ (fun w' h' => ?_) ?_
      rotate_left
      · go_simp; try with_reducible rfl
      go_simp
      refine hK _ ?_
      clear hK K
      refine q_run rfl (fun K hK => ?_)
      refine q_value ?_ (fun w' h' => ?_) ?_
      rotate_left
      · go_simp; try with_reducible rfl
      go_simp
      refine hK _ ?_
      clear hK K
      refine q_run rfl (fun K hK => ?_)
      refine q_load 25 (.tmp 7) rfl _ rfl _ (vc a) (0, 0) _ (fun w' h' => keep X7 h') Try.underlying25 rfl (by kernel_rfl) ?_
      go_simp
      refine hK _ ?_
      clear hK K
      refine q_run rfl (fun K hK => ?_)
      refine q_load 25 (.tmp 7) rfl _ rfl _ (vc a) (0, 0) _ (fun w' h' => keep X7 h') Try.underlying25 rfl (by kernel_rfl) ?_
      go_simp
      refine hK _ ?_
      clear hK K
      refine q_run rfl (fun K hK => ?_)
      refine q_call (Nat.le_refl _) hKn (fun w' => ?_) ?_
      · first | (go_simp; done) | (go_simp; rfl)
      go_simp
      refine hK _ ?_
      clear hK K
      refine q_run rfl (fun K hK => ?_)
      refine q_value ?_ (fun w' h' => ?_) ?_
      rotate_left
      · go_simp; try with_reducible rfl
      go_simp
      refine hK _ ?_
      clear hK K
      refine q_run rfl (fun K hK => ?_)
      refine q_value ?_ (fun w' h' => ?_) ?_
      rotate_left
      · go_simp; try with_reducible rfl
      go_simp
      refine hK _ ?_
      clear hK K
      refine q_run rfl (fun K hK => ?_)
      refine q_load 25 (.tmp 7) rfl _ rfl _ (vc a) (0, 0) _ (fun w' h' => keep X7 h') Try.underlying25 rfl (by kernel_rfl) ?_
      go_simp
      refine hK _ ?_
      clear hK K
      refine q_run rfl (fun K hK => ?_)
      refine q_load 25 (.tmp 7) rfl _ rfl _ (vc a) (0, 0) _ (fun w' h' => keep X7 h') Try.underlying25 rfl (by kernel_rfl) ?_
      go_simp
      refine hK _ ?_
      clear hK K
      refine q_run rfl (fun K hK => ?_)
      refine q_call (Nat.le_refl _) hA (fun w' => ?_) ?_
      · first | (go_simp; done) | (go_simp; rfl)
      go_simp
      refine hK _ ?_
      clear hK K
      refine q_run rfl (fun K hK => ?_)
      refine q_value ?_ (fun w' h' => ?_) ?_
      rotate_left
      · go_simp; try with_reducible rfl
      go_simp
      refine hK _ ?_
      clear hK K
      refine q_run rfl (fun K hK => ?_)
      refine q_value ?_ (fun w' h' => ?_) ?_
      rotate_left
      · go_simp; try with_reducible rfl
      go_simp
      refine hK _ ?_
      clear hK K
      refine q_run rfl (fun K hK => ?_)
      refine q_value ?_ (fun w' h' => ?_) ?_
      rotate_left
      · go_simp; try with_reducible rfl
      go_simp
      refine hK _ ?_
      clear hK K
      refine wpQuiet_nil ?_
      intro w7 h7
      replace X7 := keep X7 h7
      replace X8 := keep X8 h7
      replace X9 := keep X9 h7
      replace hB := hB.trans (h7.mono hB.size)
      clear h7
      go_wp2
      go_ret
      exact ⟨rfl, hB⟩
end Go.Proofs.Ytfnaoaejbpeelaa
