/- The reference's search of the first race. -/
import Derived.Test.YtnchafbaipeagaaRefKnown
namespace Go.Proofs.Ytnchafbaipeagaa
open Go.RowKit
set_option linter.unusedVariables false
set_option linter.unusedSimpArgs false
theorem zero42 (w : World) : (zeroValue 42).run Try.prog w = .ok (.agg #[.int .i64 0, .int .i64 0, .int .i64 0]) w := by kernel_rfl
def KAt (w : World) (g : Nat) (R : Nat → Nat) (n : Nat) (f : Nat → Plain.A) : Prop := g < w.heap.size ∧ ∀ k, k < n → w.cell? ⟨g, k, none⟩ = some (rowV n (R k)) ∧ R k < w.heap.size ∧ ∀ i, i < n → w.cell? ⟨R k, i, none⟩ = some (.bool (kn f i k))
theorem krows_at {w : World} {O : Option Addr} {n : Nat} {f : Nat → Plain.A} (h : KRows w O n f) (hn : 0 < n) : ∃ g R, O = some ⟨g, 0, none⟩ ∧ KAt w g R n f := by
  obtain ⟨g, R, h⟩ := h hn
  exact ⟨g, R, h⟩
theorem KAt.below {w w' : World} {g : Nat} {R : Nat → Nat} {n : Nat} {f : Nat → Plain.A} (h : KAt w g R n f) (hb : Below w.heap.size w w') : KAt w' g R n f := by
  refine ⟨Nat.lt_of_lt_of_le h.1 hb.size, fun k hk => ?_⟩
  obtain ⟨c1, c2, c3⟩ := h.2 k hk
  exact ⟨(hb.cell (p := ⟨g, k, none⟩) h.1).trans c1, Nat.lt_of_lt_of_le c2 hb.size, fun i hi => (hb.cell (p := ⟨R k, i, none⟩) c2).trans (c3 i hi)⟩
def foundR : Option (Nat × Nat) → Value
  | none => .tuple #[.int .i64 0, .int .i64 0, .int .i64 0]
  | some p => .tuple #[.int .i64 p.1, .int .i64 p.2, .int .i64 1]
theorem raceK_eq (f : Nat → Plain.A) (i k : Nat) : Plain.raceK f i k = (Plain.right (f i) && Plain.right (f k) && decide ((f i).kind ≤ 2) && decide ((f k).kind ≤ 2) && decide ((f i).place = (f k).place) && decide ((f i).kind + (f k).kind > 2) && !kn f i k) := rfl
theorem right_kind {x : Plain.A} (h : Plain.right x = true) : 1 ≤ x.kind ∧ x.kind ≤ 4 := by
  simp only [Plain.right, Bool.and_eq_true, decide_eq_true_eq] at h; omega
theorem ld_42 (w : World) (b off : Nat) (x : Plain.A) (h0 : w.cell? ⟨b, off, none⟩ = some (.int .i64 x.kind)) (h1 : w.cell? ⟨b, off + 1, none⟩ = some (.int .i64 x.who)) (h2 : w.cell? ⟨b, off + 2, none⟩ = some (.int .i64 x.place)) :
    (loadVar 42 ⟨b, off, none⟩).run Try.prog w = .ok (act x) w := by
  have hl : (loadCells ⟨b, off, none⟩ 3).run Try.prog w = .ok #[.int .i64 x.kind, .int .i64 x.who, .int .i64 x.place] w := by
    have := run_loadCells_list (P := Try.prog) w ⟨b, off, none⟩ [.int .i64 x.kind, .int .i64 x.who, .int .i64 x.place] (fun j v hv => by
      rw [add_off]
      match j, hv with
      | 0, hv => simp at hv; rw [← hv]; exact h0
      | 1, hv => simp at hv; rw [← hv]; exact h1
      | 2, hv => simp at hv; rw [← hv]; exact h2
      | j + 3, hv => simp at hv)
    exact this
  have h1 := Try.isAgg42
  have h2 := Try.sizeOf42
  unfold loadVar
  simp only [Sem.run_bind, h1, h2, Result.andThen_ok, if_true, hl, Sem.run_pure]
  rfl
theorem run_ld42 {o : Oper} {a : Act} {w : World} (y : Operand) (ho : o.op = .load 42 y) (b off : Nat) (x : Plain.A) (hx : a.eval y = .pointer (some ⟨b, off, none⟩))
    (h0 : w.cell? ⟨b, off, none⟩ = some (.int .i64 x.kind)) (h1 : w.cell? ⟨b, off + 1, none⟩ = some (.int .i64 x.who)) (h2 : w.cell? ⟨b, off + 2, none⟩ = some (.int .i64 x.place)) : (execOp a.eval o).run Try.prog w = .ok (.value (act x)) w := by
  unfold execOp
  simp only [ho, hx, Instr.loadAt, Instr.sureAddr, Sem.run_bind, Sem.run_pure, Result.andThen_ok, ld_42 w b off x h0 h1 h2]

set_option maxRecDepth 100000 in
set_option maxHeartbeats 4000000 in
theorem refFind (A : Option Addr) (n cn : Nat) (f : Nat → Plain.A) (hn : n ≤ 4000) (w : World) (hA : Acts w A n f) :
    Calls Try.prog 10 #[.slice A n cn] w fun e w' => e = .returned (foundR (Plain.findR (Plain.raceK f) n)) ∧ Below w.heap.size w w' := by
  go_enter Try.func10, Try.ntmps10
  go_wp2_with fail
  refine (refKnown A n cn f hn w hA).mono ?_
  rintro e w1 ⟨O, co, rfl, hK1, hB⟩
  have hA1 := hA.below hB
  go_upto_region 3 with (fail)
  go_loopw [6] (fun i wr => ∃ k : Nat, k ≤ n ∧ i = .int .i64 k ∧ (∀ k', k' < k → ∀ i', i' < k' → Plain.raceK f i' k' = false) ∧ Below w1.heap.size w1 wr) (fun i _ => n - (intOf i).toNat)
  case atStart => exact ⟨0, by omega, rfl, fun k' h => absurd h (by omega), Below.refl _ _⟩
  case round =>
    obtain ⟨k, hk, rfl, hno, hb1⟩ := hrel
    by_cases hlt : k < n
    · have hl : (k : Int) < n := by omega
      have hl0 : (0 : Int) ≤ k := by omega
      go_upto_region 6 with (fail)
      go_loopw [7] (fun i' wr' => ∃ i : Nat, i ≤ k ∧ i' = .int .i64 i ∧ (∀ i', i' < i → Plain.raceK f i' k = false) ∧ Below w1.heap.size w1 wr') (fun i' _ => k - (intOf i').toNat)
      case atStart => exact ⟨0, by omega, rfl, fun k' h => absurd h (by omega), hb1⟩
      case round =>
        obtain ⟨i, hik, rfl, hno', hb2⟩ := hrel
        by_cases hlt' : i < k
        · have hl' : (i : Int) < k := by omega
          have hl0' : (0 : Int) ≤ i := by omega
          have hi : i < n := by omega
          have hAr := hA1.below hb2
          obtain ⟨b, off, rfl⟩ := acts_ptr hA1 (by omega)
          obtain ⟨g, R, rfl, hKA⟩ := krows_at hK1 (by omega)
          have hKr := hKA.below hb2
          have hin : (i : Int) < n := by omega
          obtain ⟨w2, hx2⟩ : ∃ x, x = wr := ⟨_, rfl⟩
          subst hx2
          have hB2 : Below w2.heap.size w2 w2 := Below.refl _ _
          go_upto_region 8 with (fail)
          go_cut [8, 9] (fun s8 s9 wx => ∃ bX8 bX9 : Nat, s8 = .pointer (some ⟨bX8, 0, none⟩) ∧ s9 = .pointer (some ⟨bX9, 0, none⟩) ∧ wx.heap[bX8]? = some (.cells #[.int .i64 (f i).kind, .int .i64 (f i).who, .int .i64 (f i).place] 42 (0, 0)) ∧ wx.heap[bX9]? = some (.cells #[.int .i64 (f k).kind, .int .i64 (f k).who, .int .i64 (f k).place] 42 (0, 0)) ∧ bX8 ≠ bX9 ∧ w2.heap.size ≤ bX8 ∧ w2.heap.size ≤ bX9 ∧ Below w2.heap.size w2 wx)
          case first =>
            refine grow_head 8 (fun w' => Below w2.heap.size w2 w') (by kernel_rfl) (by kernel_rfl) (by decide) (by kernel_rfl) ?_
            simp only [List.take_succ_cons, List.take_zero]
            refine g_run rfl ?_ (fun w' h' => ga_value ?_) (fun K hK => ?_)
            rotate_left
            · go_simp; try with_reducible rfl
            go_simp
            refine hK _ ?_
            clear hK K
            refine g_run rfl ?_ (fun w' h' => ga_value ?_) (fun K hK => ?_)
            rotate_left
            · go_simp; try with_reducible rfl
            go_simp
            refine hK _ ?_
            clear hK K
            refine g_run rfl ?_ (fun w' h' => ga_value ?_) (fun K hK => ?_)
            rotate_left
            · go_simp; try with_reducible rfl
            go_simp
            refine hK _ ?_
            clear hK K
            refine g_run rfl (act (f i)) (fun w' h' => ga_value (by obtain ⟨c0, c1, c2⟩ := at_act hAr h' hi; exact run_ld42 (.tmp 25) rfl b (off + i * 3) (f i) rfl c0 c1 c2)) (fun K hK => ?_)
            go_simp
            refine hK _ ?_
            clear hK K
            refine g_run rfl ?_ (fun w' h' => ga_value ?_) (fun K hK => ?_)
            rotate_left
            · go_simp; try with_reducible rfl
            go_simp
            refine hK _ ?_
            clear hK K
            refine g_run rfl ?_ (fun w' h' => ga_value ?_) (fun K hK => ?_)
            rotate_left
            · go_simp; try with_reducible rfl
            go_simp
            refine hK _ ?_
            clear hK K
            refine g_run rfl ?_ (fun w' h' => ga_value ?_) (fun K hK => ?_)
            rotate_left
            · go_simp; try with_reducible rfl
            go_simp
            refine hK _ ?_
            clear hK K
            refine g_run rfl (act (f k)) (fun w' h' => ga_value (by obtain ⟨c0, c1, c2⟩ := at_act hAr h' hlt; exact run_ld42 (.tmp 29) rfl b (off + k * 3) (f k) rfl c0 c1 c2)) (fun K hK => ?_)
            go_simp
            refine hK _ ?_
            clear hK K
            refine g_nil ?_
            show anyG _ _ _ _ _ _ _ _ _
            have hg0 : Below w2.heap.size w2 w2.drew := Below.drew (Below.refl _ _)
            refine anyG_ready [8, 9] (by kernel_rfl) (by simp) (fun v1 g1 => ⟨hg0.trans (g1.mono hg0.size), ?_⟩)
            have hg1 := hg0.trans (g1.mono hg0.size)
            intro i hi
            simp only [List.mem_cons, List.not_mem_nil, or_false] at hi
            rcases hi with rfl | rfl
            · refine op_alloc rfl rfl 42 rfl _ _ zero42 rfl (fun u1 bX8 X8 l1 f1 => ?_)
              have e1 := f1.out
              have zX8 : w2.heap.size ≤ bX8 := by have := hg1.size; omega
              have hh1 := hg1.trans (l1.mono hg1.size)
              clear e1 f1 l1
              refine anyG_ready [9] (by kernel_rfl) (by simp) (fun v2 g2 => ⟨hh1.trans (g2.mono hh1.size), ?_⟩)
              replace X8 := keep X8 g2
              have hg2 := hh1.trans (g2.mono hh1.size)
              intro i hi
              simp only [List.mem_cons, List.not_mem_nil, or_false] at hi
              subst hi
              refine op_alloc rfl rfl 42 rfl _ _ zero42 rfl (fun u2 bX9 X9 l2 f2 => ?_)
              have e2 := f2.out
              have nX8X9 : bX8 ≠ bX9 := by have := blk_lt X8; omega
              have zX9 : w2.heap.size ≤ bX9 := by have := hg2.size; omega
              replace X8 := keep X8 l2
              have hh2 := hg2.trans (l2.mono hg2.size)
              clear e2 f2 l2
              refine anyG_ready [10] (by kernel_rfl) (by simp) (fun v4 g4 => ⟨hh2.trans (g4.mono hh2.size), ?_⟩)
              replace X8 := keep X8 g4
              replace X9 := keep X9 g4
              have hg4 := hh2.trans (g4.mono hh2.size)
              intro i hi
              simp only [List.mem_cons, List.not_mem_nil, or_false] at hi
              subst hi
              refine op_store rfl rfl 42 (.tmp 8) (.tmp 26) rfl bX8 #[.int .i64 (f i).kind, .int .i64 (f i).who, .int .i64 (f i).place] rfl rfl 42 _ X8 (by kernel_rfl) rfl (by simp [Value.oneCell']) (fun u4 p4 m4 q4 => ?_)
              replace X9 := (m4 _ nX8X9.symm).trans X9
              replace X8 := p4
              have hh4 := hg4.trans (q4 _ zX8)
              refine anyG_ready [11] (by kernel_rfl) (by simp) (fun v5 g5 => ⟨hh4.trans (g5.mono hh4.size), ?_⟩)
              replace X8 := keep X8 g5
              replace X9 := keep X9 g5
              have hg5 := hh4.trans (g5.mono hh4.size)
              intro i hi
              simp only [List.mem_cons, List.not_mem_nil, or_false] at hi
              subst hi
              refine op_store rfl rfl 42 (.tmp 9) (.tmp 30) rfl bX9 #[.int .i64 (f k).kind, .int .i64 (f k).who, .int .i64 (f k).place] rfl rfl 42 _ X9 (by kernel_rfl) rfl (by simp [Value.oneCell']) (fun u5 p5 m5 q5 => ?_)
              replace X8 := (m5 _ nX8X9).trans X8
              replace X9 := p5
              have hh5 := hg5.trans (q5 _ zX9)
              refine anyG_end (by kernel_rfl) (fun v6 g6 => ⟨hh5.trans (g6.mono hh5.size), ?_⟩)
              replace X8 := keep X8 g6
              replace X9 := keep X9 g6
              have hg6 := hh5.trans (g6.mono hh5.size)
              go_wp2_with (fail)
              go_meet
              exact ⟨bX8, bX9, rfl, rfl, X8, X9, nX8X9, zX8, zX9, hg6⟩
            · refine op_alloc rfl rfl 42 rfl _ _ zero42 rfl (fun u1 bX9 X9 l1 f1 => ?_)
              have e1 := f1.out
              have zX9 : w2.heap.size ≤ bX9 := by have := hg1.size; omega
              have hh1 := hg1.trans (l1.mono hg1.size)
              clear e1 f1 l1
              refine anyG_ready [8] (by kernel_rfl) (by simp) (fun v7 g7 => ⟨hh1.trans (g7.mono hh1.size), ?_⟩)
              replace X9 := keep X9 g7
              have hg7 := hh1.trans (g7.mono hh1.size)
              intro i hi
              simp only [List.mem_cons, List.not_mem_nil, or_false] at hi
              subst hi
              refine op_alloc rfl rfl 42 rfl _ _ zero42 rfl (fun u7 bX8 X8 l7 f7 => ?_)
              have e7 := f7.out
              have nX8X9 : bX8 ≠ bX9 := by have := blk_lt X9; omega
              have zX8 : w2.heap.size ≤ bX8 := by have := hg7.size; omega
              replace X9 := keep X9 l7
              have hh7 := hg7.trans (l7.mono hg7.size)
              clear e7 f7 l7
              refine anyG_ready [10] (by kernel_rfl) (by simp) (fun v9 g9 => ⟨hh7.trans (g9.mono hh7.size), ?_⟩)
              replace X8 := keep X8 g9
              replace X9 := keep X9 g9
              have hg9 := hh7.trans (g9.mono hh7.size)
              intro i hi
              simp only [List.mem_cons, List.not_mem_nil, or_false] at hi
              subst hi
              refine op_store rfl rfl 42 (.tmp 8) (.tmp 26) rfl bX8 #[.int .i64 (f i).kind, .int .i64 (f i).who, .int .i64 (f i).place] rfl rfl 42 _ X8 (by kernel_rfl) rfl (by simp [Value.oneCell']) (fun u9 p9 m9 q9 => ?_)
              replace X9 := (m9 _ nX8X9.symm).trans X9
              replace X8 := p9
              have hh9 := hg9.trans (q9 _ zX8)
              refine anyG_ready [11] (by kernel_rfl) (by simp) (fun v10 g10 => ⟨hh9.trans (g10.mono hh9.size), ?_⟩)
              replace X8 := keep X8 g10
              replace X9 := keep X9 g10
              have hg10 := hh9.trans (g10.mono hh9.size)
              intro i hi
              simp only [List.mem_cons, List.not_mem_nil, or_false] at hi
              subst hi
              refine op_store rfl rfl 42 (.tmp 9) (.tmp 30) rfl bX9 #[.int .i64 (f k).kind, .int .i64 (f k).who, .int .i64 (f k).place] rfl rfl 42 _ X9 (by kernel_rfl) rfl (by simp [Value.oneCell']) (fun u10 p10 m10 q10 => ?_)
              replace X8 := (m10 _ nX8X9).trans X8
              replace X9 := p10
              have hh10 := hg10.trans (q10 _ zX9)
              refine anyG_end (by kernel_rfl) (fun v11 g11 => ⟨hh10.trans (g11.mono hh10.size), ?_⟩)
              replace X8 := keep X8 g11
              replace X9 := keep X9 g11
              have hg11 := hh10.trans (g11.mono hh10.size)
              go_wp2_with (fail)
              go_meet
              exact ⟨bX8, bX9, rfl, rfl, X8, X9, nX8X9, zX8, zX9, hg11⟩
          case rest =>
            obtain ⟨bX8, bX9, rfl, rfl, X8, X9, NX8X9, ZX8, ZX9, h1⟩ := hcut
            obtain ⟨w1, hx1⟩ : ∃ x, x = wc := ⟨_, rfl⟩
            subst hx1
            replace hB2 := hB2.trans (h1.mono hB2.size)
            clear h1
            have hAs := hAr.below hB2
            have hKs := hKr.below hB2
            go_upto_region 9 with (fail)
            go_cut [71] (fun s71 wx => s71 = .bool (Plain.raceK f i k) ∧ Below w1.heap.size w1 wx)
            case first =>
              have hR1 := refRight (f i)
              have hR2 := refRight (f k)
              unfold act at hR1 hR2
              cases e1 : Plain.right (f i)
              · rw [e1] at hR1
                refine plain_all (fun w' => Below w1.heap.size w1 w') (Below.refl _ _) ?_
                refine q_run rfl (fun K hK => ?_)
                refine q_load 42 (.tmp 8) rfl _ rfl _ #[.int .i64 (f i).kind, .int .i64 (f i).who, .int .i64 (f i).place] (0, 0) _ (fun w' h' => keep X8 h') Try.underlying42 rfl (by kernel_rfl) ?_
                go_simp
                refine hK _ ?_
                clear hK K
                refine q_run rfl (fun K hK => ?_)
                refine q_call (Nat.le_refl _) hR1 (fun w' => ?_) ?_
                · first | (go_simp; done) | (go_simp; rfl)
                go_simp
                refine hK _ ?_
                clear hK K
                refine q_run rfl (fun K hK => ?_)
                refine q_value ?_ (fun w' h' => ?_) ?_
                rotate_left
                · go_simp; try with_reducible rfl
                go_simp
                refine hK _ ?_
                clear hK K
                refine q_skip rfl (fun K hK => ?_)
                go_simp
                refine hK _ ?_
                clear hK K
                refine q_skip rfl (fun K hK => ?_)
                go_simp
                refine hK _ ?_
                clear hK K
                refine q_run rfl (fun K hK => ?_)
                refine q_value ?_ (fun w' h' => ?_) ?_
                rotate_left
                · go_simp; try with_reducible rfl
                go_simp
                refine hK _ ?_
                clear hK K
                refine q_run rfl (fun K hK => ?_)
                refine q_value ?_ (fun w' h' => ?_) ?_
                rotate_left
                · go_simp; try with_reducible rfl
                go_simp
                refine hK _ ?_
                clear hK K
                refine q_skip rfl (fun K hK => ?_)
                go_simp
                refine hK _ ?_
                clear hK K
                refine q_skip rfl (fun K hK => ?_)
                go_simp
                refine hK _ ?_
                clear hK K
                refine q_skip rfl (fun K hK => ?_)
                go_simp
                refine hK _ ?_
                clear hK K
                refine q_run rfl (fun K hK => ?_)
                refine q_value ?_ (fun w' h' => ?_) ?_
                rotate_left
                · go_simp; try with_reducible rfl
                go_simp
                refine hK _ ?_
                clear hK K
                refine q_run rfl (fun K hK => ?_)
                refine q_value ?_ (fun w' h' => ?_) ?_
                rotate_left
                · go_simp; try with_reducible rfl
                go_simp
                refine hK _ ?_
                clear hK K
                refine q_skip rfl (fun K hK => ?_)
                go_simp
                refine hK _ ?_
                clear hK K
                refine q_skip rfl (fun K hK => ?_)
                go_simp
                refine hK _ ?_
                clear hK K
                refine q_skip rfl (fun K hK => ?_)
                go_simp
                refine hK _ ?_
                clear hK K
                refine q_run rfl (fun K hK => ?_)
                refine q_value ?_ (fun w' h' => ?_) ?_
                rotate_left
                · go_simp; try with_reducible rfl
                go_simp
                refine hK _ ?_
                clear hK K
                refine q_run rfl (fun K hK => ?_)
                refine q_value ?_ (fun w' h' => ?_) ?_
                rotate_left
                · go_simp; try with_reducible rfl
                go_simp
                refine hK _ ?_
                clear hK K
                refine q_skip rfl (fun K hK => ?_)
                go_simp
                refine hK _ ?_
                clear hK K
                refine q_skip rfl (fun K hK => ?_)
                go_simp
                refine hK _ ?_
                clear hK K
                refine q_skip rfl (fun K hK => ?_)
                go_simp
                refine hK _ ?_
                clear hK K
                refine q_skip rfl (fun K hK => ?_)
                go_simp
                refine hK _ ?_
                clear hK K
                refine q_skip rfl (fun K hK => ?_)
                go_simp
                refine hK _ ?_
                clear hK K
                refine q_run rfl (fun K hK => ?_)
                refine q_value ?_ (fun w' h' => ?_) ?_
                rotate_left
                · go_simp; try with_reducible rfl
                go_simp
                refine hK _ ?_
                clear hK K
                refine q_run rfl (fun K hK => ?_)
                refine q_value ?_ (fun w' h' => ?_) ?_
                rotate_left
                · go_simp; try with_reducible rfl
                go_simp
                refine hK _ ?_
                clear hK K
                refine q_skip rfl (fun K hK => ?_)
                go_simp
                refine hK _ ?_
                clear hK K
                refine q_skip rfl (fun K hK => ?_)
                go_simp
                refine hK _ ?_
                clear hK K
                refine q_skip rfl (fun K hK => ?_)
                go_simp
                refine hK _ ?_
                clear hK K
                refine q_skip rfl (fun K hK => ?_)
                go_simp
                refine hK _ ?_
                clear hK K
                refine q_skip rfl (fun K hK => ?_)
                go_simp
                refine hK _ ?_
                clear hK K
                refine q_skip rfl (fun K hK => ?_)
                go_simp
                refine hK _ ?_
                clear hK K
                refine q_run rfl (fun K hK => ?_)
                refine q_value ?_ (fun w' h' => ?_) ?_
                rotate_left
                · go_simp; try with_reducible rfl
                go_simp
                refine hK _ ?_
                clear hK K
                refine q_run rfl (fun K hK => ?_)
                refine q_value ?_ (fun w' h' => ?_) ?_
                rotate_left
                · go_simp; try with_reducible rfl
                go_simp
                refine hK _ ?_
                clear hK K
                refine q_skip rfl (fun K hK => ?_)
                go_simp
                refine hK _ ?_
                clear hK K
                refine q_skip rfl (fun K hK => ?_)
                go_simp
                refine hK _ ?_
                clear hK K
                refine q_skip rfl (fun K hK => ?_)
                go_simp
                refine hK _ ?_
                clear hK K
                refine q_skip rfl (fun K hK => ?_)
                go_simp
                refine hK _ ?_
                clear hK K
                refine q_skip rfl (fun K hK => ?_)
                go_simp
                refine hK _ ?_
                clear hK K
                refine q_skip rfl (fun K hK => ?_)
                go_simp
                refine hK _ ?_
                clear hK K
                refine q_skip rfl (fun K hK => ?_)
                go_simp
                refine hK _ ?_
                clear hK K
                refine q_skip rfl (fun K hK => ?_)
                go_simp
                refine hK _ ?_
                clear hK K
                refine q_run rfl (fun K hK => ?_)
                refine q_value ?_ (fun w' h' => ?_) ?_
                rotate_left
                · go_simp; try with_reducible rfl
                go_simp
                refine hK _ ?_
                clear hK K
                refine qd_nil ?_
                intro w9 h9
                go_wp2_with (fail)
                go_meet
                exact ⟨by rw [raceK_eq]; simp [e1] <;> omega, h9⟩
              · rw [e1] at hR1
                have hk1 := right_kind e1
                cases e2 : Plain.right (f k)
                · rw [e2] at hR2
                  refine plain_all (fun w' => Below w1.heap.size w1 w') (Below.refl _ _) ?_
                  refine q_run rfl (fun K hK => ?_)
                  refine q_load 42 (.tmp 8) rfl _ rfl _ #[.int .i64 (f i).kind, .int .i64 (f i).who, .int .i64 (f i).place] (0, 0) _ (fun w' h' => keep X8 h') Try.underlying42 rfl (by kernel_rfl) ?_
                  go_simp
                  refine hK _ ?_
                  clear hK K
                  refine q_run rfl (fun K hK => ?_)
                  refine q_call (Nat.le_refl _) hR1 (fun w' => ?_) ?_
                  · first | (go_simp; done) | (go_simp; rfl)
                  go_simp
                  refine hK _ ?_
                  clear hK K
                  refine q_run rfl (fun K hK => ?_)
                  refine q_value ?_ (fun w' h' => ?_) ?_
                  rotate_left
                  · go_simp; try with_reducible rfl
                  go_simp
                  refine hK _ ?_
                  clear hK K
                  refine q_run rfl (fun K hK => ?_)
                  refine q_load 42 (.tmp 9) rfl _ rfl _ #[.int .i64 (f k).kind, .int .i64 (f k).who, .int .i64 (f k).place] (0, 0) _ (fun w' h' => keep X9 h') Try.underlying42 rfl (by kernel_rfl) ?_
                  go_simp
                  refine hK _ ?_
                  clear hK K
                  refine q_run rfl (fun K hK => ?_)
                  refine q_call (Nat.le_refl _) hR2 (fun w' => ?_) ?_
                  · first | (go_simp; done) | (go_simp; rfl)
                  go_simp
                  refine hK _ ?_
                  clear hK K
                  refine q_run rfl (fun K hK => ?_)
                  refine q_value ?_ (fun w' h' => ?_) ?_
                  rotate_left
                  · go_simp; try with_reducible rfl
                  go_simp
                  refine hK _ ?_
                  clear hK K
                  refine q_run rfl (fun K hK => ?_)
                  refine q_value ?_ (fun w' h' => ?_) ?_
                  rotate_left
                  · go_simp; try with_reducible rfl
                  go_simp
                  refine hK _ ?_
                  clear hK K
                  refine q_skip rfl (fun K hK => ?_)
                  go_simp
                  refine hK _ ?_
                  clear hK K
                  refine q_skip rfl (fun K hK => ?_)
                  go_simp
                  refine hK _ ?_
                  clear hK K
                  refine q_skip rfl (fun K hK => ?_)
                  go_simp
                  refine hK _ ?_
                  clear hK K
                  refine q_run rfl (fun K hK => ?_)
                  refine q_value ?_ (fun w' h' => ?_) ?_
                  rotate_left
                  · go_simp; try with_reducible rfl
                  go_simp
                  refine hK _ ?_
                  clear hK K
                  refine q_run rfl (fun K hK => ?_)
                  refine q_value ?_ (fun w' h' => ?_) ?_
                  rotate_left
                  · go_simp; try with_reducible rfl
                  go_simp
                  refine hK _ ?_
                  clear hK K
                  refine q_skip rfl (fun K hK => ?_)
                  go_simp
                  refine hK _ ?_
                  clear hK K
                  refine q_skip rfl (fun K hK => ?_)
                  go_simp
                  refine hK _ ?_
                  clear hK K
                  refine q_skip rfl (fun K hK => ?_)
                  go_simp
                  refine hK _ ?_
                  clear hK K
                  refine q_run rfl (fun K hK => ?_)
                  refine q_value ?_ (fun w' h' => ?_) ?_
                  rotate_left
                  · go_simp; try with_reducible rfl
                  go_simp
                  refine hK _ ?_
                  clear hK K
                  refine q_run rfl (fun K hK => ?_)
                  refine q_value ?_ (fun w' h' => ?_) ?_
                  rotate_left
                  · go_simp; try with_reducible rfl
                  go_simp
                  refine hK _ ?_
                  clear hK K
                  refine q_skip rfl (fun K hK => ?_)
                  go_simp
                  refine hK _ ?_
                  clear hK K
                  refine q_skip rfl (fun K hK => ?_)
                  go_simp
                  refine hK _ ?_
                  clear hK K
                  refine q_skip rfl (fun K hK => ?_)
                  go_simp
                  refine hK _ ?_
                  clear hK K
                  refine q_skip rfl (fun K hK => ?_)
                  go_simp
                  refine hK _ ?_
                  clear hK K
                  refine q_skip rfl (fun K hK => ?_)
                  go_simp
                  refine hK _ ?_
                  clear hK K
                  refine q_run rfl (fun K hK => ?_)
                  refine q_value ?_ (fun w' h' => ?_) ?_
                  rotate_left
                  · go_simp; try with_reducible rfl
                  go_simp
                  refine hK _ ?_
                  clear hK K
                  refine q_run rfl (fun K hK => ?_)
                  refine q_value ?_ (fun w' h' => ?_) ?_
                  rotate_left
                  · go_simp; try with_reducible rfl
                  go_simp
                  refine hK _ ?_
                  clear hK K
                  refine q_skip rfl (fun K hK => ?_)
                  go_simp
                  refine hK _ ?_
                  clear hK K
                  refine q_skip rfl (fun K hK => ?_)
                  go_simp
                  refine hK _ ?_
                  clear hK K
                  refine q_skip rfl (fun K hK => ?_)
                  go_simp
                  refine hK _ ?_
                  clear hK K
                  refine q_skip rfl (fun K hK => ?_)
                  go_simp
                  refine hK _ ?_
                  clear hK K
                  refine q_skip rfl (fun K hK => ?_)
                  go_simp
                  refine hK _ ?_
                  clear hK K
                  refine q_skip rfl (fun K hK => ?_)
                  go_simp
                  refine hK _ ?_
                  clear hK K
                  refine q_run rfl (fun K hK => ?_)
                  refine q_value ?_ (fun w' h' => ?_) ?_
                  rotate_left
                  · go_simp; try with_reducible rfl
                  go_simp
                  refine hK _ ?_
                  clear hK K
                  refine q_run rfl (fun K hK => ?_)
                  refine q_value ?_ (fun w' h' => ?_) ?_
                  rotate_left
                  · go_simp; try with_reducible rfl
                  go_simp
                  refine hK _ ?_
                  clear hK K
                  refine q_skip rfl (fun K hK => ?_)
                  go_simp
                  refine hK _ ?_
                  clear hK K
                  refine q_skip rfl (fun K hK => ?_)
                  go_simp
                  refine hK _ ?_
                  clear hK K
                  refine q_skip rfl (fun K hK => ?_)
                  go_simp
                  refine hK _ ?_
                  clear hK K
                  refine q_skip rfl (fun K hK => ?_)
                  go_simp
                  refine hK _ ?_
                  clear hK K
                  refine q_skip rfl (fun K hK => ?_)
                  go_simp
                  refine hK _ ?_
                  clear hK K
                  refine q_skip rfl (fun K hK => ?_)
                  go_simp
                  refine hK _ ?_
                  clear hK K
                  refine q_skip rfl (fun K hK => ?_)
                  go_simp
                  refine hK _ ?_
                  clear hK K
                  refine q_skip rfl (fun K hK => ?_)
                  go_simp
                  refine hK _ ?_
                  clear hK K
                  refine q_run rfl (fun K hK => ?_)
                  refine q_value ?_ (fun w' h' => ?_) ?_
                  rotate_left
                  · go_simp; try with_reducible rfl
                  go_simp
                  refine hK _ ?_
                  clear hK K
                  refine qd_nil ?_
                  intro w9 h9
                  go_wp2_with (fail)
                  go_meet
                  exact ⟨by rw [raceK_eq]; simp [e1, e2] <;> omega, h9⟩
                · rw [e2] at hR2
                  have hk2 := right_kind e2
                  by_cases e3 : (f i).kind ≤ 2
                  · by_cases e4 : (f k).kind ≤ 2
                    · by_cases e5 : (f i).place = (f k).place
                      · have e5' : ((f k).place == (f k).place) = true := by simp
                        have e6w : IntKind.i64.wrap ((f i).kind + (f k).kind) = (f i).kind + (f k).kind := by rw [IntKind.wrap_i64]; omega
                        by_cases e6 : 2 < (f i).kind + (f k).kind
                        · cases e7 : kn f i k
                          · refine plain_all (fun w' => Below w1.heap.size w1 w') (Below.refl _ _) ?_
                            refine q_run rfl (fun K hK => ?_)
                            refine q_load 42 (.tmp 8) rfl _ rfl _ #[.int .i64 (f i).kind, .int .i64 (f i).who, .int .i64 (f i).place] (0, 0) _ (fun w' h' => keep X8 h') Try.underlying42 rfl (by kernel_rfl) ?_
                            go_simp
                            refine hK _ ?_
                            clear hK K
                            refine q_run rfl (fun K hK => ?_)
                            refine q_call (Nat.le_refl _) hR1 (fun w' => ?_) ?_
                            · first | (go_simp; done) | (go_simp; rfl)
                            go_simp
                            refine hK _ ?_
                            clear hK K
                            refine q_run rfl (fun K hK => ?_)
                            refine q_value ?_ (fun w' h' => ?_) ?_
                            rotate_left
                            · go_simp; try with_reducible rfl
                            go_simp
                            refine hK _ ?_
                            clear hK K
                            refine q_run rfl (fun K hK => ?_)
                            refine q_load 42 (.tmp 9) rfl _ rfl _ #[.int .i64 (f k).kind, .int .i64 (f k).who, .int .i64 (f k).place] (0, 0) _ (fun w' h' => keep X9 h') Try.underlying42 rfl (by kernel_rfl) ?_
                            go_simp
                            refine hK _ ?_
                            clear hK K
                            refine q_run rfl (fun K hK => ?_)
                            refine q_call (Nat.le_refl _) hR2 (fun w' => ?_) ?_
                            · first | (go_simp; done) | (go_simp; rfl)
                            go_simp
                            refine hK _ ?_
                            clear hK K
                            refine q_run rfl (fun K hK => ?_)
                            refine q_value ?_ (fun w' h' => ?_) ?_
                            rotate_left
                            · go_simp; try with_reducible rfl
                            go_simp
                            refine hK _ ?_
                            clear hK K
                            refine q_run rfl (fun K hK => ?_)
                            refine q_value ?_ (fun w' h' => ?_) ?_
                            rotate_left
                            · go_simp; try with_reducible rfl
                            go_simp
                            refine hK _ ?_
                            clear hK K
                            refine q_run rfl (fun K hK => ?_)
                            refine q_value ?_ (fun w' h' => ?_) ?_
                            rotate_left
                            · go_simp; try with_reducible rfl
                            go_simp
                            refine hK _ ?_
                            clear hK K
                            refine q_run rfl (fun K hK => ?_)
                            refine q_value ?_ (fun w' h' => ?_) ?_
                            rotate_left
                            · have c := cell_of_row w' bX8 0 _ 42 _ (keep X8 h'); go_simp; try with_reducible rfl
                            go_simp
                            refine hK _ ?_
                            clear hK K
                            refine q_run rfl (fun K hK => ?_)
                            refine q_value ?_ (fun w' h' => ?_) ?_
                            rotate_left
                            · go_simp; try with_reducible rfl
                            go_simp
                            refine hK _ ?_
                            clear hK K
                            refine q_run rfl (fun K hK => ?_)
                            refine q_value ?_ (fun w' h' => ?_) ?_
                            rotate_left
                            · go_simp; try with_reducible rfl
                            go_simp
                            refine hK _ ?_
                            clear hK K
                            refine q_run rfl (fun K hK => ?_)
                            refine q_value ?_ (fun w' h' => ?_) ?_
                            rotate_left
                            · go_simp; try with_reducible rfl
                            go_simp
                            refine hK _ ?_
                            clear hK K
                            refine q_run rfl (fun K hK => ?_)
                            refine q_value ?_ (fun w' h' => ?_) ?_
                            rotate_left
                            · go_simp; try with_reducible rfl
                            go_simp
                            refine hK _ ?_
                            clear hK K
                            refine q_run rfl (fun K hK => ?_)
                            refine q_value ?_ (fun w' h' => ?_) ?_
                            rotate_left
                            · have c := cell_of_row w' bX9 0 _ 42 _ (keep X9 h'); go_simp; try with_reducible rfl
                            go_simp
                            refine hK _ ?_
                            clear hK K
                            refine q_run rfl (fun K hK => ?_)
                            refine q_value ?_ (fun w' h' => ?_) ?_
                            rotate_left
                            · go_simp; try with_reducible rfl
                            go_simp
                            refine hK _ ?_
                            clear hK K
                            refine q_run rfl (fun K hK => ?_)
                            refine q_value ?_ (fun w' h' => ?_) ?_
                            rotate_left
                            · go_simp; try with_reducible rfl
                            go_simp
                            refine hK _ ?_
                            clear hK K
                            refine q_run rfl (fun K hK => ?_)
                            refine q_value ?_ (fun w' h' => ?_) ?_
                            rotate_left
                            · go_simp; try with_reducible rfl
                            go_simp
                            refine hK _ ?_
                            clear hK K
                            refine q_run rfl (fun K hK => ?_)
                            refine q_value ?_ (fun w' h' => ?_) ?_
                            rotate_left
                            · go_simp; try with_reducible rfl
                            go_simp
                            refine hK _ ?_
                            clear hK K
                            refine q_run rfl (fun K hK => ?_)
                            refine q_value ?_ (fun w' h' => ?_) ?_
                            rotate_left
                            · have c := cell_of_row w' bX8 2 _ 42 _ (keep X8 h'); go_simp; try with_reducible rfl
                            go_simp
                            refine hK _ ?_
                            clear hK K
                            refine q_run rfl (fun K hK => ?_)
                            refine q_value ?_ (fun w' h' => ?_) ?_
                            rotate_left
                            · go_simp; try with_reducible rfl
                            go_simp
                            refine hK _ ?_
                            clear hK K
                            refine q_run rfl (fun K hK => ?_)
                            refine q_value ?_ (fun w' h' => ?_) ?_
                            rotate_left
                            · have c := cell_of_row w' bX9 2 _ 42 _ (keep X9 h'); go_simp; try with_reducible rfl
                            go_simp
                            refine hK _ ?_
                            clear hK K
                            refine q_run rfl (fun K hK => ?_)
                            refine q_value ?_ (fun w' h' => ?_) ?_
                            rotate_left
                            · go_simp; try with_reducible rfl
                            go_simp
                            refine hK _ ?_
                            clear hK K
                            refine q_run rfl (fun K hK => ?_)
                            refine q_value ?_ (fun w' h' => ?_) ?_
                            rotate_left
                            · go_simp; try with_reducible rfl
                            go_simp
                            refine hK _ ?_
                            clear hK K
                            refine q_run rfl (fun K hK => ?_)
                            refine q_value ?_ (fun w' h' => ?_) ?_
                            rotate_left
                            · go_simp; try with_reducible rfl
                            go_simp
                            refine hK _ ?_
                            clear hK K
                            refine q_run rfl (fun K hK => ?_)
                            refine q_value ?_ (fun w' h' => ?_) ?_
                            rotate_left
                            · go_simp; try with_reducible rfl
                            go_simp
                            refine hK _ ?_
                            clear hK K
                            refine q_run rfl (fun K hK => ?_)
                            refine q_value ?_ (fun w' h' => ?_) ?_
                            rotate_left
                            · have c := cell_of_row w' bX8 0 _ 42 _ (keep X8 h'); go_simp; try with_reducible rfl
                            go_simp
                            refine hK _ ?_
                            clear hK K
                            refine q_run rfl (fun K hK => ?_)
                            refine q_value ?_ (fun w' h' => ?_) ?_
                            rotate_left
                            · go_simp; try with_reducible rfl
                            go_simp
                            refine hK _ ?_
                            clear hK K
                            refine q_run rfl (fun K hK => ?_)
                            refine q_value ?_ (fun w' h' => ?_) ?_
                            rotate_left
                            · have c := cell_of_row w' bX9 0 _ 42 _ (keep X9 h'); go_simp; try with_reducible rfl
                            go_simp
                            refine hK _ ?_
                            clear hK K
                            refine q_run rfl (fun K hK => ?_)
                            refine q_value ?_ (fun w' h' => ?_) ?_
                            rotate_left
                            · go_simp; try with_reducible rfl
                            go_simp
                            refine hK _ ?_
                            clear hK K
                            refine q_run rfl (fun K hK => ?_)
                            refine q_value ?_ (fun w' h' => ?_) ?_
                            rotate_left
                            · go_simp; try with_reducible rfl
                            go_simp
                            refine hK _ ?_
                            clear hK K
                            refine q_run rfl (fun K hK => ?_)
                            refine q_value ?_ (fun w' h' => ?_) ?_
                            rotate_left
                            · go_simp; try with_reducible rfl
                            go_simp
                            refine hK _ ?_
                            clear hK K
                            refine q_run rfl (fun K hK => ?_)
                            refine q_value ?_ (fun w' h' => ?_) ?_
                            rotate_left
                            · go_simp; try with_reducible rfl
                            go_simp
                            refine hK _ ?_
                            clear hK K
                            refine q_run rfl (fun K hK => ?_)
                            refine q_value ?_ (fun w' h' => ?_) ?_
                            rotate_left
                            · go_simp; try with_reducible rfl
                            go_simp
                            refine hK _ ?_
                            clear hK K
                            refine q_run rfl (fun K hK => ?_)
                            refine q_value ?_ (fun w' h' => ?_) ?_
                            rotate_left
                            · go_simp; try with_reducible rfl
                            go_simp
                            refine hK _ ?_
                            clear hK K
                            refine q_run rfl (fun K hK => ?_)
                            refine q_value ?_ (fun w' h' => ?_) ?_
                            rotate_left
                            · go_simp; try with_reducible rfl
                            go_simp
                            refine hK _ ?_
                            clear hK K
                            refine q_run rfl (fun K hK => ?_)
                            refine q_value ?_ (fun w' h' => ?_) ?_
                            rotate_left
                            · have c := ((hKs.below h').2 k hlt).1; unfold rowV at c; go_simp; try with_reducible rfl
                            go_simp
                            refine hK _ ?_
                            clear hK K
                            refine q_run rfl (fun K hK => ?_)
                            refine q_value ?_ (fun w' h' => ?_) ?_
                            rotate_left
                            · go_simp; try with_reducible rfl
                            go_simp
                            refine hK _ ?_
                            clear hK K
                            refine q_run rfl (fun K hK => ?_)
                            refine q_value ?_ (fun w' h' => ?_) ?_
                            rotate_left
                            · go_simp; try with_reducible rfl
                            go_simp
                            refine hK _ ?_
                            clear hK K
                            refine q_run rfl (fun K hK => ?_)
                            refine q_value ?_ (fun w' h' => ?_) ?_
                            rotate_left
                            · have c := ((hKs.below h').2 k hlt).2.2 i hi; rw [e7] at c; go_simp; try with_reducible rfl
                            go_simp
                            refine hK _ ?_
                            clear hK K
                            refine q_run rfl (fun K hK => ?_)
                            refine q_value ?_ (fun w' h' => ?_) ?_
                            rotate_left
                            · go_simp; try with_reducible rfl
                            go_simp
                            refine hK _ ?_
                            clear hK K
                            refine q_run rfl (fun K hK => ?_)
                            refine q_value ?_ (fun w' h' => ?_) ?_
                            rotate_left
                            · go_simp; try with_reducible rfl
                            go_simp
                            refine hK _ ?_
                            clear hK K
                            refine qd_nil ?_
                            intro w9 h9
                            go_wp2_with (fail)
                            go_meet
                            exact ⟨by rw [raceK_eq]; simp [e1, e2, e3, e4, e5, e6, e7] <;> omega, h9⟩
                          · refine plain_all (fun w' => Below w1.heap.size w1 w') (Below.refl _ _) ?_
                            refine q_run rfl (fun K hK => ?_)
                            refine q_load 42 (.tmp 8) rfl _ rfl _ #[.int .i64 (f i).kind, .int .i64 (f i).who, .int .i64 (f i).place] (0, 0) _ (fun w' h' => keep X8 h') Try.underlying42 rfl (by kernel_rfl) ?_
                            go_simp
                            refine hK _ ?_
                            clear hK K
                            refine q_run rfl (fun K hK => ?_)
                            refine q_call (Nat.le_refl _) hR1 (fun w' => ?_) ?_
                            · first | (go_simp; done) | (go_simp; rfl)
                            go_simp
                            refine hK _ ?_
                            clear hK K
                            refine q_run rfl (fun K hK => ?_)
                            refine q_value ?_ (fun w' h' => ?_) ?_
                            rotate_left
                            · go_simp; try with_reducible rfl
                            go_simp
                            refine hK _ ?_
                            clear hK K
                            refine q_run rfl (fun K hK => ?_)
                            refine q_load 42 (.tmp 9) rfl _ rfl _ #[.int .i64 (f k).kind, .int .i64 (f k).who, .int .i64 (f k).place] (0, 0) _ (fun w' h' => keep X9 h') Try.underlying42 rfl (by kernel_rfl) ?_
                            go_simp
                            refine hK _ ?_
                            clear hK K
                            refine q_run rfl (fun K hK => ?_)
                            refine q_call (Nat.le_refl _) hR2 (fun w' => ?_) ?_
                            · first | (go_simp; done) | (go_simp; rfl)
                            go_simp
                            refine hK _ ?_
                            clear hK K
                            refine q_run rfl (fun K hK => ?_)
                            refine q_value ?_ (fun w' h' => ?_) ?_
                            rotate_left
                            · go_simp; try with_reducible rfl
                            go_simp
                            refine hK _ ?_
                            clear hK K
                            refine q_run rfl (fun K hK => ?_)
                            refine q_value ?_ (fun w' h' => ?_) ?_
                            rotate_left
                            · go_simp; try with_reducible rfl
                            go_simp
                            refine hK _ ?_
                            clear hK K
                            refine q_run rfl (fun K hK => ?_)
                            refine q_value ?_ (fun w' h' => ?_) ?_
                            rotate_left
                            · go_simp; try with_reducible rfl
                            go_simp
                            refine hK _ ?_
                            clear hK K
                            refine q_run rfl (fun K hK => ?_)
                            refine q_value ?_ (fun w' h' => ?_) ?_
                            rotate_left
                            · have c := cell_of_row w' bX8 0 _ 42 _ (keep X8 h'); go_simp; try with_reducible rfl
                            go_simp
                            refine hK _ ?_
                            clear hK K
                            refine q_run rfl (fun K hK => ?_)
                            refine q_value ?_ (fun w' h' => ?_) ?_
                            rotate_left
                            · go_simp; try with_reducible rfl
                            go_simp
                            refine hK _ ?_
                            clear hK K
                            refine q_run rfl (fun K hK => ?_)
                            refine q_value ?_ (fun w' h' => ?_) ?_
                            rotate_left
                            · go_simp; try with_reducible rfl
                            go_simp
                            refine hK _ ?_
                            clear hK K
                            refine q_run rfl (fun K hK => ?_)
                            refine q_value ?_ (fun w' h' => ?_) ?_
                            rotate_left
                            · go_simp; try with_reducible rfl
                            go_simp
                            refine hK _ ?_
                            clear hK K
                            refine q_run rfl (fun K hK => ?_)
                            refine q_value ?_ (fun w' h' => ?_) ?_
                            rotate_left
                            · go_simp; try with_reducible rfl
                            go_simp
                            refine hK _ ?_
                            clear hK K
                            refine q_run rfl (fun K hK => ?_)
                            refine q_value ?_ (fun w' h' => ?_) ?_
                            rotate_left
                            · have c := cell_of_row w' bX9 0 _ 42 _ (keep X9 h'); go_simp; try with_reducible rfl
                            go_simp
                            refine hK _ ?_
                            clear hK K
                            refine q_run rfl (fun K hK => ?_)
                            refine q_value ?_ (fun w' h' => ?_) ?_
                            rotate_left
                            · go_simp; try with_reducible rfl
                            go_simp
                            refine hK _ ?_
                            clear hK K
                            refine q_run rfl (fun K hK => ?_)
                            refine q_value ?_ (fun w' h' => ?_) ?_
                            rotate_left
                            · go_simp; try with_reducible rfl
                            go_simp
                            refine hK _ ?_
                            clear hK K
                            refine q_run rfl (fun K hK => ?_)
                            refine q_value ?_ (fun w' h' => ?_) ?_
                            rotate_left
                            · go_simp; try with_reducible rfl
                            go_simp
                            refine hK _ ?_
                            clear hK K
                            refine q_run rfl (fun K hK => ?_)
                            refine q_value ?_ (fun w' h' => ?_) ?_
                            rotate_left
                            · go_simp; try with_reducible rfl
                            go_simp
                            refine hK _ ?_
                            clear hK K
                            refine q_run rfl (fun K hK => ?_)
                            refine q_value ?_ (fun w' h' => ?_) ?_
                            rotate_left
                            · have c := cell_of_row w' bX8 2 _ 42 _ (keep X8 h'); go_simp; try with_reducible rfl
                            go_simp
                            refine hK _ ?_
                            clear hK K
                            refine q_run rfl (fun K hK => ?_)
                            refine q_value ?_ (fun w' h' => ?_) ?_
                            rotate_left
                            · go_simp; try with_reducible rfl
                            go_simp
                            refine hK _ ?_
                            clear hK K
                            refine q_run rfl (fun K hK => ?_)
                            refine q_value ?_ (fun w' h' => ?_) ?_
                            rotate_left
                            · have c := cell_of_row w' bX9 2 _ 42 _ (keep X9 h'); go_simp; try with_reducible rfl
                            go_simp
                            refine hK _ ?_
                            clear hK K
                            refine q_run rfl (fun K hK => ?_)
                            refine q_value ?_ (fun w' h' => ?_) ?_
                            rotate_left
                            · go_simp; try with_reducible rfl
                            go_simp
                            refine hK _ ?_
                            clear hK K
                            refine q_run rfl (fun K hK => ?_)
                            refine q_value ?_ (fun w' h' => ?_) ?_
                            rotate_left
                            · go_simp; try with_reducible rfl
                            go_simp
                            refine hK _ ?_
                            clear hK K
                            refine q_run rfl (fun K hK => ?_)
                            refine q_value ?_ (fun w' h' => ?_) ?_
                            rotate_left
                            · go_simp; try with_reducible rfl
                            go_simp
                            refine hK _ ?_
                            clear hK K
                            refine q_run rfl (fun K hK => ?_)
                            refine q_value ?_ (fun w' h' => ?_) ?_
                            rotate_left
                            · go_simp; try with_reducible rfl
                            go_simp
                            refine hK _ ?_
                            clear hK K
                            refine q_run rfl (fun K hK => ?_)
                            refine q_value ?_ (fun w' h' => ?_) ?_
                            rotate_left
                            · have c := cell_of_row w' bX8 0 _ 42 _ (keep X8 h'); go_simp; try with_reducible rfl
                            go_simp
                            refine hK _ ?_
                            clear hK K
                            refine q_run rfl (fun K hK => ?_)
                            refine q_value ?_ (fun w' h' => ?_) ?_
                            rotate_left
                            · go_simp; try with_reducible rfl
                            go_simp
                            refine hK _ ?_
                            clear hK K
                            refine q_run rfl (fun K hK => ?_)
                            refine q_value ?_ (fun w' h' => ?_) ?_
                            rotate_left
                            · have c := cell_of_row w' bX9 0 _ 42 _ (keep X9 h'); go_simp; try with_reducible rfl
                            go_simp
                            refine hK _ ?_
                            clear hK K
                            refine q_run rfl (fun K hK => ?_)
                            refine q_value ?_ (fun w' h' => ?_) ?_
                            rotate_left
                            · go_simp; try with_reducible rfl
                            go_simp
                            refine hK _ ?_
                            clear hK K
                            refine q_run rfl (fun K hK => ?_)
                            refine q_value ?_ (fun w' h' => ?_) ?_
                            rotate_left
                            · go_simp; try with_reducible rfl
                            go_simp
                            refine hK _ ?_
                            clear hK K
                            refine q_run rfl (fun K hK => ?_)
                            refine q_value ?_ (fun w' h' => ?_) ?_
                            rotate_left
                            · go_simp; try with_reducible rfl
                            go_simp
                            refine hK _ ?_
                            clear hK K
                            refine q_run rfl (fun K hK => ?_)
                            refine q_value ?_ (fun w' h' => ?_) ?_
                            rotate_left
                            · go_simp; try with_reducible rfl
                            go_simp
                            refine hK _ ?_
                            clear hK K
                            refine q_run rfl (fun K hK => ?_)
                            refine q_value ?_ (fun w' h' => ?_) ?_
                            rotate_left
                            · go_simp; try with_reducible rfl
                            go_simp
                            refine hK _ ?_
                            clear hK K
                            refine q_run rfl (fun K hK => ?_)
                            refine q_value ?_ (fun w' h' => ?_) ?_
                            rotate_left
                            · go_simp; try with_reducible rfl
                            go_simp
                            refine hK _ ?_
                            clear hK K
                            refine q_run rfl (fun K hK => ?_)
                            refine q_value ?_ (fun w' h' => ?_) ?_
                            rotate_left
                            · go_simp; try with_reducible rfl
                            go_simp
                            refine hK _ ?_
                            clear hK K
                            refine q_run rfl (fun K hK => ?_)
                            refine q_value ?_ (fun w' h' => ?_) ?_
                            rotate_left
                            · have c := ((hKs.below h').2 k hlt).1; unfold rowV at c; go_simp; try with_reducible rfl
                            go_simp
                            refine hK _ ?_
                            clear hK K
                            refine q_run rfl (fun K hK => ?_)
                            refine q_value ?_ (fun w' h' => ?_) ?_
                            rotate_left
                            · go_simp; try with_reducible rfl
                            go_simp
                            refine hK _ ?_
                            clear hK K
                            refine q_run rfl (fun K hK => ?_)
                            refine q_value ?_ (fun w' h' => ?_) ?_
                            rotate_left
                            · go_simp; try with_reducible rfl
                            go_simp
                            refine hK _ ?_
                            clear hK K
                            refine q_run rfl (fun K hK => ?_)
                            refine q_value ?_ (fun w' h' => ?_) ?_
                            rotate_left
                            · have c := ((hKs.below h').2 k hlt).2.2 i hi; rw [e7] at c; go_simp; try with_reducible rfl
                            go_simp
                            refine hK _ ?_
                            clear hK K
                            refine q_run rfl (fun K hK => ?_)
                            refine q_value ?_ (fun w' h' => ?_) ?_
                            rotate_left
                            · go_simp; try with_reducible rfl
                            go_simp
                            refine hK _ ?_
                            clear hK K
                            refine q_run rfl (fun K hK => ?_)
                            refine q_value ?_ (fun w' h' => ?_) ?_
                            rotate_left
                            · go_simp; try with_reducible rfl
                            go_simp
                            refine hK _ ?_
                            clear hK K
                            refine qd_nil ?_
                            intro w9 h9
                            go_wp2_with (fail)
                            go_meet
                            exact ⟨by rw [raceK_eq]; simp [e1, e2, e3, e4, e5, e6, e7] <;> omega, h9⟩
                        · refine plain_all (fun w' => Below w1.heap.size w1 w') (Below.refl _ _) ?_
                          refine q_run rfl (fun K hK => ?_)
                          refine q_load 42 (.tmp 8) rfl _ rfl _ #[.int .i64 (f i).kind, .int .i64 (f i).who, .int .i64 (f i).place] (0, 0) _ (fun w' h' => keep X8 h') Try.underlying42 rfl (by kernel_rfl) ?_
                          go_simp
                          refine hK _ ?_
                          clear hK K
                          refine q_run rfl (fun K hK => ?_)
                          refine q_call (Nat.le_refl _) hR1 (fun w' => ?_) ?_
                          · first | (go_simp; done) | (go_simp; rfl)
                          go_simp
                          refine hK _ ?_
                          clear hK K
                          refine q_run rfl (fun K hK => ?_)
                          refine q_value ?_ (fun w' h' => ?_) ?_
                          rotate_left
                          · go_simp; try with_reducible rfl
                          go_simp
                          refine hK _ ?_
                          clear hK K
                          refine q_run rfl (fun K hK => ?_)
                          refine q_load 42 (.tmp 9) rfl _ rfl _ #[.int .i64 (f k).kind, .int .i64 (f k).who, .int .i64 (f k).place] (0, 0) _ (fun w' h' => keep X9 h') Try.underlying42 rfl (by kernel_rfl) ?_
                          go_simp
                          refine hK _ ?_
                          clear hK K
                          refine q_run rfl (fun K hK => ?_)
                          refine q_call (Nat.le_refl _) hR2 (fun w' => ?_) ?_
                          · first | (go_simp; done) | (go_simp; rfl)
                          go_simp
                          refine hK _ ?_
                          clear hK K
                          refine q_run rfl (fun K hK => ?_)
                          refine q_value ?_ (fun w' h' => ?_) ?_
                          rotate_left
                          · go_simp; try with_reducible rfl
                          go_simp
                          refine hK _ ?_
                          clear hK K
                          refine q_run rfl (fun K hK => ?_)
                          refine q_value ?_ (fun w' h' => ?_) ?_
                          rotate_left
                          · go_simp; try with_reducible rfl
                          go_simp
                          refine hK _ ?_
                          clear hK K
                          refine q_run rfl (fun K hK => ?_)
                          refine q_value ?_ (fun w' h' => ?_) ?_
                          rotate_left
                          · go_simp; try with_reducible rfl
                          go_simp
                          refine hK _ ?_
                          clear hK K
                          refine q_run rfl (fun K hK => ?_)
                          refine q_value ?_ (fun w' h' => ?_) ?_
                          rotate_left
                          · have c := cell_of_row w' bX8 0 _ 42 _ (keep X8 h'); go_simp; try with_reducible rfl
                          go_simp
                          refine hK _ ?_
                          clear hK K
                          refine q_run rfl (fun K hK => ?_)
                          refine q_value ?_ (fun w' h' => ?_) ?_
                          rotate_left
                          · go_simp; try with_reducible rfl
                          go_simp
                          refine hK _ ?_
                          clear hK K
                          refine q_run rfl (fun K hK => ?_)
                          refine q_value ?_ (fun w' h' => ?_) ?_
                          rotate_left
                          · go_simp; try with_reducible rfl
                          go_simp
                          refine hK _ ?_
                          clear hK K
                          refine q_run rfl (fun K hK => ?_)
                          refine q_value ?_ (fun w' h' => ?_) ?_
                          rotate_left
                          · go_simp; try with_reducible rfl
                          go_simp
                          refine hK _ ?_
                          clear hK K
                          refine q_run rfl (fun K hK => ?_)
                          refine q_value ?_ (fun w' h' => ?_) ?_
                          rotate_left
                          · go_simp; try with_reducible rfl
                          go_simp
                          refine hK _ ?_
                          clear hK K
                          refine q_run rfl (fun K hK => ?_)
                          refine q_value ?_ (fun w' h' => ?_) ?_
                          rotate_left
                          · have c := cell_of_row w' bX9 0 _ 42 _ (keep X9 h'); go_simp; try with_reducible rfl
                          go_simp
                          refine hK _ ?_
                          clear hK K
                          refine q_run rfl (fun K hK => ?_)
                          refine q_value ?_ (fun w' h' => ?_) ?_
                          rotate_left
                          · go_simp; try with_reducible rfl
                          go_simp
                          refine hK _ ?_
                          clear hK K
                          refine q_run rfl (fun K hK => ?_)
                          refine q_value ?_ (fun w' h' => ?_) ?_
                          rotate_left
                          · go_simp; try with_reducible rfl
                          go_simp
                          refine hK _ ?_
                          clear hK K
                          refine q_run rfl (fun K hK => ?_)
                          refine q_value ?_ (fun w' h' => ?_) ?_
                          rotate_left
                          · go_simp; try with_reducible rfl
                          go_simp
                          refine hK _ ?_
                          clear hK K
                          refine q_run rfl (fun K hK => ?_)
                          refine q_value ?_ (fun w' h' => ?_) ?_
                          rotate_left
                          · go_simp; try with_reducible rfl
                          go_simp
                          refine hK _ ?_
                          clear hK K
                          refine q_run rfl (fun K hK => ?_)
                          refine q_value ?_ (fun w' h' => ?_) ?_
                          rotate_left
                          · have c := cell_of_row w' bX8 2 _ 42 _ (keep X8 h'); go_simp; try with_reducible rfl
                          go_simp
                          refine hK _ ?_
                          clear hK K
                          refine q_run rfl (fun K hK => ?_)
                          refine q_value ?_ (fun w' h' => ?_) ?_
                          rotate_left
                          · go_simp; try with_reducible rfl
                          go_simp
                          refine hK _ ?_
                          clear hK K
                          refine q_run rfl (fun K hK => ?_)
                          refine q_value ?_ (fun w' h' => ?_) ?_
                          rotate_left
                          · have c := cell_of_row w' bX9 2 _ 42 _ (keep X9 h'); go_simp; try with_reducible rfl
                          go_simp
                          refine hK _ ?_
                          clear hK K
                          refine q_run rfl (fun K hK => ?_)
                          refine q_value ?_ (fun w' h' => ?_) ?_
                          rotate_left
                          · go_simp; try with_reducible rfl
                          go_simp
                          refine hK _ ?_
                          clear hK K
                          refine q_run rfl (fun K hK => ?_)
                          refine q_value ?_ (fun w' h' => ?_) ?_
                          rotate_left
                          · go_simp; try with_reducible rfl
                          go_simp
                          refine hK _ ?_
                          clear hK K
                          refine q_run rfl (fun K hK => ?_)
                          refine q_value ?_ (fun w' h' => ?_) ?_
                          rotate_left
                          · go_simp; try with_reducible rfl
                          go_simp
                          refine hK _ ?_
                          clear hK K
                          refine q_run rfl (fun K hK => ?_)
                          refine q_value ?_ (fun w' h' => ?_) ?_
                          rotate_left
                          · go_simp; try with_reducible rfl
                          go_simp
                          refine hK _ ?_
                          clear hK K
                          refine q_run rfl (fun K hK => ?_)
                          refine q_value ?_ (fun w' h' => ?_) ?_
                          rotate_left
                          · have c := cell_of_row w' bX8 0 _ 42 _ (keep X8 h'); go_simp; try with_reducible rfl
                          go_simp
                          refine hK _ ?_
                          clear hK K
                          refine q_run rfl (fun K hK => ?_)
                          refine q_value ?_ (fun w' h' => ?_) ?_
                          rotate_left
                          · go_simp; try with_reducible rfl
                          go_simp
                          refine hK _ ?_
                          clear hK K
                          refine q_run rfl (fun K hK => ?_)
                          refine q_value ?_ (fun w' h' => ?_) ?_
                          rotate_left
                          · have c := cell_of_row w' bX9 0 _ 42 _ (keep X9 h'); go_simp; try with_reducible rfl
                          go_simp
                          refine hK _ ?_
                          clear hK K
                          refine q_run rfl (fun K hK => ?_)
                          refine q_value ?_ (fun w' h' => ?_) ?_
                          rotate_left
                          · go_simp; try with_reducible rfl
                          go_simp
                          refine hK _ ?_
                          clear hK K
                          refine q_run rfl (fun K hK => ?_)
                          refine q_value ?_ (fun w' h' => ?_) ?_
                          rotate_left
                          · go_simp; try with_reducible rfl
                          go_simp
                          refine hK _ ?_
                          clear hK K
                          refine q_run rfl (fun K hK => ?_)
                          refine q_value ?_ (fun w' h' => ?_) ?_
                          rotate_left
                          · go_simp; try with_reducible rfl
                          go_simp
                          refine hK _ ?_
                          clear hK K
                          refine q_run rfl (fun K hK => ?_)
                          refine q_value ?_ (fun w' h' => ?_) ?_
                          rotate_left
                          · go_simp; try with_reducible rfl
                          go_simp
                          refine hK _ ?_
                          clear hK K
                          refine q_skip rfl (fun K hK => ?_)
                          go_simp
                          refine hK _ ?_
                          clear hK K
                          refine q_skip rfl (fun K hK => ?_)
                          go_simp
                          refine hK _ ?_
                          clear hK K
                          refine q_skip rfl (fun K hK => ?_)
                          go_simp
                          refine hK _ ?_
                          clear hK K
                          refine q_skip rfl (fun K hK => ?_)
                          go_simp
                          refine hK _ ?_
                          clear hK K
                          refine q_skip rfl (fun K hK => ?_)
                          go_simp
                          refine hK _ ?_
                          clear hK K
                          refine q_skip rfl (fun K hK => ?_)
                          go_simp
                          refine hK _ ?_
                          clear hK K
                          refine q_skip rfl (fun K hK => ?_)
                          go_simp
                          refine hK _ ?_
                          clear hK K
                          refine q_skip rfl (fun K hK => ?_)
                          go_simp
                          refine hK _ ?_
                          clear hK K
                          refine q_run rfl (fun K hK => ?_)
                          refine q_value ?_ (fun w' h' => ?_) ?_
                          rotate_left
                          · go_simp; try with_reducible rfl
                          go_simp
                          refine hK _ ?_
                          clear hK K
                          refine qd_nil ?_
                          intro w9 h9
                          go_wp2_with (fail)
                          go_meet
                          exact ⟨by rw [raceK_eq]; simp [e1, e2, e3, e4, e5, e6] <;> omega, h9⟩
                      · have e5' : ((f i).place == (f k).place) = false := by simp [e5]
                        refine plain_all (fun w' => Below w1.heap.size w1 w') (Below.refl _ _) ?_
                        refine q_run rfl (fun K hK => ?_)
                        refine q_load 42 (.tmp 8) rfl _ rfl _ #[.int .i64 (f i).kind, .int .i64 (f i).who, .int .i64 (f i).place] (0, 0) _ (fun w' h' => keep X8 h') Try.underlying42 rfl (by kernel_rfl) ?_
                        go_simp
                        refine hK _ ?_
                        clear hK K
                        refine q_run rfl (fun K hK => ?_)
                        refine q_call (Nat.le_refl _) hR1 (fun w' => ?_) ?_
                        · first | (go_simp; done) | (go_simp; rfl)
                        go_simp
                        refine hK _ ?_
                        clear hK K
                        refine q_run rfl (fun K hK => ?_)
                        refine q_value ?_ (fun w' h' => ?_) ?_
                        rotate_left
                        · go_simp; try with_reducible rfl
                        go_simp
                        refine hK _ ?_
                        clear hK K
                        refine q_run rfl (fun K hK => ?_)
                        refine q_load 42 (.tmp 9) rfl _ rfl _ #[.int .i64 (f k).kind, .int .i64 (f k).who, .int .i64 (f k).place] (0, 0) _ (fun w' h' => keep X9 h') Try.underlying42 rfl (by kernel_rfl) ?_
                        go_simp
                        refine hK _ ?_
                        clear hK K
                        refine q_run rfl (fun K hK => ?_)
                        refine q_call (Nat.le_refl _) hR2 (fun w' => ?_) ?_
                        · first | (go_simp; done) | (go_simp; rfl)
                        go_simp
                        refine hK _ ?_
                        clear hK K
                        refine q_run rfl (fun K hK => ?_)
                        refine q_value ?_ (fun w' h' => ?_) ?_
                        rotate_left
                        · go_simp; try with_reducible rfl
                        go_simp
                        refine hK _ ?_
                        clear hK K
                        refine q_run rfl (fun K hK => ?_)
                        refine q_value ?_ (fun w' h' => ?_) ?_
                        rotate_left
                        · go_simp; try with_reducible rfl
                        go_simp
                        refine hK _ ?_
                        clear hK K
                        refine q_run rfl (fun K hK => ?_)
                        refine q_value ?_ (fun w' h' => ?_) ?_
                        rotate_left
                        · go_simp; try with_reducible rfl
                        go_simp
                        refine hK _ ?_
                        clear hK K
                        refine q_run rfl (fun K hK => ?_)
                        refine q_value ?_ (fun w' h' => ?_) ?_
                        rotate_left
                        · have c := cell_of_row w' bX8 0 _ 42 _ (keep X8 h'); go_simp; try with_reducible rfl
                        go_simp
                        refine hK _ ?_
                        clear hK K
                        refine q_run rfl (fun K hK => ?_)
                        refine q_value ?_ (fun w' h' => ?_) ?_
                        rotate_left
                        · go_simp; try with_reducible rfl
                        go_simp
                        refine hK _ ?_
                        clear hK K
                        refine q_run rfl (fun K hK => ?_)
                        refine q_value ?_ (fun w' h' => ?_) ?_
                        rotate_left
                        · go_simp; try with_reducible rfl
                        go_simp
                        refine hK _ ?_
                        clear hK K
                        refine q_run rfl (fun K hK => ?_)
                        refine q_value ?_ (fun w' h' => ?_) ?_
                        rotate_left
                        · go_simp; try with_reducible rfl
                        go_simp
                        refine hK _ ?_
                        clear hK K
                        refine q_run rfl (fun K hK => ?_)
                        refine q_value ?_ (fun w' h' => ?_) ?_
                        rotate_left
                        · go_simp; try with_reducible rfl
                        go_simp
                        refine hK _ ?_
                        clear hK K
                        refine q_run rfl (fun K hK => ?_)
                        refine q_value ?_ (fun w' h' => ?_) ?_
                        rotate_left
                        · have c := cell_of_row w' bX9 0 _ 42 _ (keep X9 h'); go_simp; try with_reducible rfl
                        go_simp
                        refine hK _ ?_
                        clear hK K
                        refine q_run rfl (fun K hK => ?_)
                        refine q_value ?_ (fun w' h' => ?_) ?_
                        rotate_left
                        · go_simp; try with_reducible rfl
                        go_simp
                        refine hK _ ?_
                        clear hK K
                        refine q_run rfl (fun K hK => ?_)
                        refine q_value ?_ (fun w' h' => ?_) ?_
                        rotate_left
                        · go_simp; try with_reducible rfl
                        go_simp
                        refine hK _ ?_
                        clear hK K
                        refine q_run rfl (fun K hK => ?_)
                        refine q_value ?_ (fun w' h' => ?_) ?_
                        rotate_left
                        · go_simp; try with_reducible rfl
                        go_simp
                        refine hK _ ?_
                        clear hK K
                        refine q_run rfl (fun K hK => ?_)
                        refine q_value ?_ (fun w' h' => ?_) ?_
                        rotate_left
                        · go_simp; try with_reducible rfl
                        go_simp
                        refine hK _ ?_
                        clear hK K
                        refine q_run rfl (fun K hK => ?_)
                        refine q_value ?_ (fun w' h' => ?_) ?_
                        rotate_left
                        · have c := cell_of_row w' bX8 2 _ 42 _ (keep X8 h'); go_simp; try with_reducible rfl
                        go_simp
                        refine hK _ ?_
                        clear hK K
                        refine q_run rfl (fun K hK => ?_)
                        refine q_value ?_ (fun w' h' => ?_) ?_
                        rotate_left
                        · go_simp; try with_reducible rfl
                        go_simp
                        refine hK _ ?_
                        clear hK K
                        refine q_run rfl (fun K hK => ?_)
                        refine q_value ?_ (fun w' h' => ?_) ?_
                        rotate_left
                        · have c := cell_of_row w' bX9 2 _ 42 _ (keep X9 h'); go_simp; try with_reducible rfl
                        go_simp
                        refine hK _ ?_
                        clear hK K
                        refine q_run rfl (fun K hK => ?_)
                        refine q_value ?_ (fun w' h' => ?_) ?_
                        rotate_left
                        · go_simp; try with_reducible rfl
                        go_simp
                        refine hK _ ?_
                        clear hK K
                        refine q_run rfl (fun K hK => ?_)
                        refine q_value ?_ (fun w' h' => ?_) ?_
                        rotate_left
                        · go_simp; try with_reducible rfl
                        go_simp
                        refine hK _ ?_
                        clear hK K
                        refine q_run rfl (fun K hK => ?_)
                        refine q_value ?_ (fun w' h' => ?_) ?_
                        rotate_left
                        · go_simp; try with_reducible rfl
                        go_simp
                        refine hK _ ?_
                        clear hK K
                        refine q_skip rfl (fun K hK => ?_)
                        go_simp
                        refine hK _ ?_
                        clear hK K
                        refine q_skip rfl (fun K hK => ?_)
                        go_simp
                        refine hK _ ?_
                        clear hK K
                        refine q_skip rfl (fun K hK => ?_)
                        go_simp
                        refine hK _ ?_
                        clear hK K
                        refine q_skip rfl (fun K hK => ?_)
                        go_simp
                        refine hK _ ?_
                        clear hK K
                        refine q_skip rfl (fun K hK => ?_)
                        go_simp
                        refine hK _ ?_
                        clear hK K
                        refine q_skip rfl (fun K hK => ?_)
                        go_simp
                        refine hK _ ?_
                        clear hK K
                        refine q_run rfl (fun K hK => ?_)
                        refine q_value ?_ (fun w' h' => ?_) ?_
                        rotate_left
                        · go_simp; try with_reducible rfl
                        go_simp
                        refine hK _ ?_
                        clear hK K
                        refine q_run rfl (fun K hK => ?_)
                        refine q_value ?_ (fun w' h' => ?_) ?_
                        rotate_left
                        · go_simp; try with_reducible rfl
                        go_simp
                        refine hK _ ?_
                        clear hK K
                        refine q_skip rfl (fun K hK => ?_)
                        go_simp
                        refine hK _ ?_
                        clear hK K
                        refine q_skip rfl (fun K hK => ?_)
                        go_simp
                        refine hK _ ?_
                        clear hK K
                        refine q_skip rfl (fun K hK => ?_)
                        go_simp
                        refine hK _ ?_
                        clear hK K
                        refine q_skip rfl (fun K hK => ?_)
                        go_simp
                        refine hK _ ?_
                        clear hK K
                        refine q_skip rfl (fun K hK => ?_)
                        go_simp
                        refine hK _ ?_
                        clear hK K
                        refine q_skip rfl (fun K hK => ?_)
                        go_simp
                        refine hK _ ?_
                        clear hK K
                        refine q_skip rfl (fun K hK => ?_)
                        go_simp
                        refine hK _ ?_
                        clear hK K
                        refine q_skip rfl (fun K hK => ?_)
                        go_simp
                        refine hK _ ?_
                        clear hK K
                        refine q_run rfl (fun K hK => ?_)
                        refine q_value ?_ (fun w' h' => ?_) ?_
                        rotate_left
                        · go_simp; try with_reducible rfl
                        go_simp
                        refine hK _ ?_
                        clear hK K
                        refine qd_nil ?_
                        intro w9 h9
                        go_wp2_with (fail)
                        go_meet
                        exact ⟨by rw [raceK_eq]; simp [e1, e2, e3, e4, e5] <;> omega, h9⟩
                    · refine plain_all (fun w' => Below w1.heap.size w1 w') (Below.refl _ _) ?_
                      refine q_run rfl (fun K hK => ?_)
                      refine q_load 42 (.tmp 8) rfl _ rfl _ #[.int .i64 (f i).kind, .int .i64 (f i).who, .int .i64 (f i).place] (0, 0) _ (fun w' h' => keep X8 h') Try.underlying42 rfl (by kernel_rfl) ?_
                      go_simp
                      refine hK _ ?_
                      clear hK K
                      refine q_run rfl (fun K hK => ?_)
                      refine q_call (Nat.le_refl _) hR1 (fun w' => ?_) ?_
                      · first | (go_simp; done) | (go_simp; rfl)
                      go_simp
                      refine hK _ ?_
                      clear hK K
                      refine q_run rfl (fun K hK => ?_)
                      refine q_value ?_ (fun w' h' => ?_) ?_
                      rotate_left
                      · go_simp; try with_reducible rfl
                      go_simp
                      refine hK _ ?_
                      clear hK K
                      refine q_run rfl (fun K hK => ?_)
                      refine q_load 42 (.tmp 9) rfl _ rfl _ #[.int .i64 (f k).kind, .int .i64 (f k).who, .int .i64 (f k).place] (0, 0) _ (fun w' h' => keep X9 h') Try.underlying42 rfl (by kernel_rfl) ?_
                      go_simp
                      refine hK _ ?_
                      clear hK K
                      refine q_run rfl (fun K hK => ?_)
                      refine q_call (Nat.le_refl _) hR2 (fun w' => ?_) ?_
                      · first | (go_simp; done) | (go_simp; rfl)
                      go_simp
                      refine hK _ ?_
                      clear hK K
                      refine q_run rfl (fun K hK => ?_)
                      refine q_value ?_ (fun w' h' => ?_) ?_
                      rotate_left
                      · go_simp; try with_reducible rfl
                      go_simp
                      refine hK _ ?_
                      clear hK K
                      refine q_run rfl (fun K hK => ?_)
                      refine q_value ?_ (fun w' h' => ?_) ?_
                      rotate_left
                      · go_simp; try with_reducible rfl
                      go_simp
                      refine hK _ ?_
                      clear hK K
                      refine q_run rfl (fun K hK => ?_)
                      refine q_value ?_ (fun w' h' => ?_) ?_
                      rotate_left
                      · go_simp; try with_reducible rfl
                      go_simp
                      refine hK _ ?_
                      clear hK K
                      refine q_run rfl (fun K hK => ?_)
                      refine q_value ?_ (fun w' h' => ?_) ?_
                      rotate_left
                      · have c := cell_of_row w' bX8 0 _ 42 _ (keep X8 h'); go_simp; try with_reducible rfl
                      go_simp
                      refine hK _ ?_
                      clear hK K
                      refine q_run rfl (fun K hK => ?_)
                      refine q_value ?_ (fun w' h' => ?_) ?_
                      rotate_left
                      · go_simp; try with_reducible rfl
                      go_simp
                      refine hK _ ?_
                      clear hK K
                      refine q_run rfl (fun K hK => ?_)
                      refine q_value ?_ (fun w' h' => ?_) ?_
                      rotate_left
                      · go_simp; try with_reducible rfl
                      go_simp
                      refine hK _ ?_
                      clear hK K
                      refine q_run rfl (fun K hK => ?_)
                      refine q_value ?_ (fun w' h' => ?_) ?_
                      rotate_left
                      · go_simp; try with_reducible rfl
                      go_simp
                      refine hK _ ?_
                      clear hK K
                      refine q_run rfl (fun K hK => ?_)
                      refine q_value ?_ (fun w' h' => ?_) ?_
                      rotate_left
                      · go_simp; try with_reducible rfl
                      go_simp
                      refine hK _ ?_
                      clear hK K
                      refine q_run rfl (fun K hK => ?_)
                      refine q_value ?_ (fun w' h' => ?_) ?_
                      rotate_left
                      · have c := cell_of_row w' bX9 0 _ 42 _ (keep X9 h'); go_simp; try with_reducible rfl
                      go_simp
                      refine hK _ ?_
                      clear hK K
                      refine q_run rfl (fun K hK => ?_)
                      refine q_value ?_ (fun w' h' => ?_) ?_
                      rotate_left
                      · go_simp; try with_reducible rfl
                      go_simp
                      refine hK _ ?_
                      clear hK K
                      refine q_run rfl (fun K hK => ?_)
                      refine q_value ?_ (fun w' h' => ?_) ?_
                      rotate_left
                      · go_simp; try with_reducible rfl
                      go_simp
                      refine hK _ ?_
                      clear hK K
                      refine q_run rfl (fun K hK => ?_)
                      refine q_value ?_ (fun w' h' => ?_) ?_
                      rotate_left
                      · go_simp; try with_reducible rfl
                      go_simp
                      refine hK _ ?_
                      clear hK K
                      refine q_skip rfl (fun K hK => ?_)
                      go_simp
                      refine hK _ ?_
                      clear hK K
                      refine q_skip rfl (fun K hK => ?_)
                      go_simp
                      refine hK _ ?_
                      clear hK K
                      refine q_skip rfl (fun K hK => ?_)
                      go_simp
                      refine hK _ ?_
                      clear hK K
                      refine q_skip rfl (fun K hK => ?_)
                      go_simp
                      refine hK _ ?_
                      clear hK K
                      refine q_skip rfl (fun K hK => ?_)
                      go_simp
                      refine hK _ ?_
                      clear hK K
                      refine q_run rfl (fun K hK => ?_)
                      refine q_value ?_ (fun w' h' => ?_) ?_
                      rotate_left
                      · go_simp; try with_reducible rfl
                      go_simp
                      refine hK _ ?_
                      clear hK K
                      refine q_run rfl (fun K hK => ?_)
                      refine q_value ?_ (fun w' h' => ?_) ?_
                      rotate_left
                      · go_simp; try with_reducible rfl
                      go_simp
                      refine hK _ ?_
                      clear hK K
                      refine q_skip rfl (fun K hK => ?_)
                      go_simp
                      refine hK _ ?_
                      clear hK K
                      refine q_skip rfl (fun K hK => ?_)
                      go_simp
                      refine hK _ ?_
                      clear hK K
                      refine q_skip rfl (fun K hK => ?_)
                      go_simp
                      refine hK _ ?_
                      clear hK K
                      refine q_skip rfl (fun K hK => ?_)
                      go_simp
                      refine hK _ ?_
                      clear hK K
                      refine q_skip rfl (fun K hK => ?_)
                      go_simp
                      refine hK _ ?_
                      clear hK K
                      refine q_skip rfl (fun K hK => ?_)
                      go_simp
                      refine hK _ ?_
                      clear hK K
                      refine q_run rfl (fun K hK => ?_)
                      refine q_value ?_ (fun w' h' => ?_) ?_
                      rotate_left
                      · go_simp; try with_reducible rfl
                      go_simp
                      refine hK _ ?_
                      clear hK K
                      refine q_run rfl (fun K hK => ?_)
                      refine q_value ?_ (fun w' h' => ?_) ?_
                      rotate_left
                      · go_simp; try with_reducible rfl
                      go_simp
                      refine hK _ ?_
                      clear hK K
                      refine q_skip rfl (fun K hK => ?_)
                      go_simp
                      refine hK _ ?_
                      clear hK K
                      refine q_skip rfl (fun K hK => ?_)
                      go_simp
                      refine hK _ ?_
                      clear hK K
                      refine q_skip rfl (fun K hK => ?_)
                      go_simp
                      refine hK _ ?_
                      clear hK K
                      refine q_skip rfl (fun K hK => ?_)
                      go_simp
                      refine hK _ ?_
                      clear hK K
                      refine q_skip rfl (fun K hK => ?_)
                      go_simp
                      refine hK _ ?_
                      clear hK K
                      refine q_skip rfl (fun K hK => ?_)
                      go_simp
                      refine hK _ ?_
                      clear hK K
                      refine q_skip rfl (fun K hK => ?_)
                      go_simp
                      refine hK _ ?_
                      clear hK K
                      refine q_skip rfl (fun K hK => ?_)
                      go_simp
                      refine hK _ ?_
                      clear hK K
                      refine q_run rfl (fun K hK => ?_)
                      refine q_value ?_ (fun w' h' => ?_) ?_
                      rotate_left
                      · go_simp; try with_reducible rfl
                      go_simp
                      refine hK _ ?_
                      clear hK K
                      refine qd_nil ?_
                      intro w9 h9
                      go_wp2_with (fail)
                      go_meet
                      exact ⟨by rw [raceK_eq]; simp [e1, e2, e3, e4] <;> omega, h9⟩
                  · refine plain_all (fun w' => Below w1.heap.size w1 w') (Below.refl _ _) ?_
                    refine q_run rfl (fun K hK => ?_)
                    refine q_load 42 (.tmp 8) rfl _ rfl _ #[.int .i64 (f i).kind, .int .i64 (f i).who, .int .i64 (f i).place] (0, 0) _ (fun w' h' => keep X8 h') Try.underlying42 rfl (by kernel_rfl) ?_
                    go_simp
                    refine hK _ ?_
                    clear hK K
                    refine q_run rfl (fun K hK => ?_)
                    refine q_call (Nat.le_refl _) hR1 (fun w' => ?_) ?_
                    · first | (go_simp; done) | (go_simp; rfl)
                    go_simp
                    refine hK _ ?_
                    clear hK K
                    refine q_run rfl (fun K hK => ?_)
                    refine q_value ?_ (fun w' h' => ?_) ?_
                    rotate_left
                    · go_simp; try with_reducible rfl
                    go_simp
                    refine hK _ ?_
                    clear hK K
                    refine q_run rfl (fun K hK => ?_)
                    refine q_load 42 (.tmp 9) rfl _ rfl _ #[.int .i64 (f k).kind, .int .i64 (f k).who, .int .i64 (f k).place] (0, 0) _ (fun w' h' => keep X9 h') Try.underlying42 rfl (by kernel_rfl) ?_
                    go_simp
                    refine hK _ ?_
                    clear hK K
                    refine q_run rfl (fun K hK => ?_)
                    refine q_call (Nat.le_refl _) hR2 (fun w' => ?_) ?_
                    · first | (go_simp; done) | (go_simp; rfl)
                    go_simp
                    refine hK _ ?_
                    clear hK K
                    refine q_run rfl (fun K hK => ?_)
                    refine q_value ?_ (fun w' h' => ?_) ?_
                    rotate_left
                    · go_simp; try with_reducible rfl
                    go_simp
                    refine hK _ ?_
                    clear hK K
                    refine q_run rfl (fun K hK => ?_)
                    refine q_value ?_ (fun w' h' => ?_) ?_
                    rotate_left
                    · go_simp; try with_reducible rfl
                    go_simp
                    refine hK _ ?_
                    clear hK K
                    refine q_run rfl (fun K hK => ?_)
                    refine q_value ?_ (fun w' h' => ?_) ?_
                    rotate_left
                    · go_simp; try with_reducible rfl
                    go_simp
                    refine hK _ ?_
                    clear hK K
                    refine q_run rfl (fun K hK => ?_)
                    refine q_value ?_ (fun w' h' => ?_) ?_
                    rotate_left
                    · have c := cell_of_row w' bX8 0 _ 42 _ (keep X8 h'); go_simp; try with_reducible rfl
                    go_simp
                    refine hK _ ?_
                    clear hK K
                    refine q_run rfl (fun K hK => ?_)
                    refine q_value ?_ (fun w' h' => ?_) ?_
                    rotate_left
                    · go_simp; try with_reducible rfl
                    go_simp
                    refine hK _ ?_
                    clear hK K
                    refine q_run rfl (fun K hK => ?_)
                    refine q_value ?_ (fun w' h' => ?_) ?_
                    rotate_left
                    · go_simp; try with_reducible rfl
                    go_simp
                    refine hK _ ?_
                    clear hK K
                    refine q_run rfl (fun K hK => ?_)
                    refine q_value ?_ (fun w' h' => ?_) ?_
                    rotate_left
                    · go_simp; try with_reducible rfl
                    go_simp
                    refine hK _ ?_
                    clear hK K
                    refine q_skip rfl (fun K hK => ?_)
                    go_simp
                    refine hK _ ?_
                    clear hK K
                    refine q_skip rfl (fun K hK => ?_)
                    go_simp
                    refine hK _ ?_
                    clear hK K
                    refine q_skip rfl (fun K hK => ?_)
                    go_simp
                    refine hK _ ?_
                    clear hK K
                    refine q_run rfl (fun K hK => ?_)
                    refine q_value ?_ (fun w' h' => ?_) ?_
                    rotate_left
                    · go_simp; try with_reducible rfl
                    go_simp
                    refine hK _ ?_
                    clear hK K
                    refine q_run rfl (fun K hK => ?_)
                    refine q_value ?_ (fun w' h' => ?_) ?_
                    rotate_left
                    · go_simp; try with_reducible rfl
                    go_simp
                    refine hK _ ?_
                    clear hK K
                    refine q_skip rfl (fun K hK => ?_)
                    go_simp
                    refine hK _ ?_
                    clear hK K
                    refine q_skip rfl (fun K hK => ?_)
                    go_simp
                    refine hK _ ?_
                    clear hK K
                    refine q_skip rfl (fun K hK => ?_)
                    go_simp
                    refine hK _ ?_
                    clear hK K
                    refine q_skip rfl (fun K hK => ?_)
                    go_simp
                    refine hK _ ?_
                    clear hK K
                    refine q_skip rfl (fun K hK => ?_)
                    go_simp
                    refine hK _ ?_
                    clear hK K
                    refine q_run rfl (fun K hK => ?_)
                    refine q_value ?_ (fun w' h' => ?_) ?_
                    rotate_left
                    · go_simp; try with_reducible rfl
                    go_simp
                    refine hK _ ?_
                    clear hK K
                    refine q_run rfl (fun K hK => ?_)
                    refine q_value ?_ (fun w' h' => ?_) ?_
                    rotate_left
                    · go_simp; try with_reducible rfl
                    go_simp
                    refine hK _ ?_
                    clear hK K
                    refine q_skip rfl (fun K hK => ?_)
                    go_simp
                    refine hK _ ?_
                    clear hK K
                    refine q_skip rfl (fun K hK => ?_)
                    go_simp
                    refine hK _ ?_
                    clear hK K
                    refine q_skip rfl (fun K hK => ?_)
                    go_simp
                    refine hK _ ?_
                    clear hK K
                    refine q_skip rfl (fun K hK => ?_)
                    go_simp
                    refine hK _ ?_
                    clear hK K
                    refine q_skip rfl (fun K hK => ?_)
                    go_simp
                    refine hK _ ?_
                    clear hK K
                    refine q_skip rfl (fun K hK => ?_)
                    go_simp
                    refine hK _ ?_
                    clear hK K
                    refine q_run rfl (fun K hK => ?_)
                    refine q_value ?_ (fun w' h' => ?_) ?_
                    rotate_left
                    · go_simp; try with_reducible rfl
                    go_simp
                    refine hK _ ?_
                    clear hK K
                    refine q_run rfl (fun K hK => ?_)
                    refine q_value ?_ (fun w' h' => ?_) ?_
                    rotate_left
                    · go_simp; try with_reducible rfl
                    go_simp
                    refine hK _ ?_
                    clear hK K
                    refine q_skip rfl (fun K hK => ?_)
                    go_simp
                    refine hK _ ?_
                    clear hK K
                    refine q_skip rfl (fun K hK => ?_)
                    go_simp
                    refine hK _ ?_
                    clear hK K
                    refine q_skip rfl (fun K hK => ?_)
                    go_simp
                    refine hK _ ?_
                    clear hK K
                    refine q_skip rfl (fun K hK => ?_)
                    go_simp
                    refine hK _ ?_
                    clear hK K
                    refine q_skip rfl (fun K hK => ?_)
                    go_simp
                    refine hK _ ?_
                    clear hK K
                    refine q_skip rfl (fun K hK => ?_)
                    go_simp
                    refine hK _ ?_
                    clear hK K
                    refine q_skip rfl (fun K hK => ?_)
                    go_simp
                    refine hK _ ?_
                    clear hK K
                    refine q_skip rfl (fun K hK => ?_)
                    go_simp
                    refine hK _ ?_
                    clear hK K
                    refine q_run rfl (fun K hK => ?_)
                    refine q_value ?_ (fun w' h' => ?_) ?_
                    rotate_left
                    · go_simp; try with_reducible rfl
                    go_simp
                    refine hK _ ?_
                    clear hK K
                    refine qd_nil ?_
                    intro w9 h9
                    go_wp2_with (fail)
                    go_meet
                    exact ⟨by rw [raceK_eq]; simp [e1, e2, e3] <;> omega, h9⟩
            case rest =>
              obtain ⟨rfl, h10⟩ := hcut
              have hb3 := hb2.trans ((hB2.trans (h10.mono hB2.size)).mono hb2.size)
              cases hrc : Plain.raceK f i k
              · go_wp2
                go_roundw
                case rel => exact ⟨i + 1, by omega, by go_num, lt_step hno' hrc, hb3⟩
                case measure => simp [intOf]; omega
              · go_wp2
                go_ret3
                refine ⟨?_, hB.trans (hb3.mono hB.size)⟩
                rw [Plain.findR_some hlt hlt' hrc hno' hno]; rfl
        · have hl' : ¬ (i : Int) < k := by omega
          have hik' : i = k := by omega
          subst hik'
          go_wp2
          go_roundw
          case rel => exact ⟨i + 1, by omega, by go_num, le_step hno hno', hb2⟩
          case measure => simp [intOf]; omega
    · have hl : ¬ (k : Int) < n := by omega
      have hkn : k = n := by omega
      subst hkn
      go_wp2
      go_ret3
      refine ⟨?_, hB.trans (hb1.mono hB.size)⟩
      rw [Plain.findR_none hno]; rfl
end Go.Proofs.Ytnchafbaipeagaa
