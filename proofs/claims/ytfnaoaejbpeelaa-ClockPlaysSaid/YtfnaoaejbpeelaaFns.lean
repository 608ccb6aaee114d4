/- The walks of the functions on clocks: what each computes; what is new, is new memory alone. -/
import Derived.Test.YtfnaoaejbpeelaaEach
import Derived.Deep.Cut
import Derived.DeepKeys
namespace Go.Proofs.Ytfnaoaejbpeelaa
open Go.RowKit
set_option linter.unusedVariables false
def eqB (f g : Nat → Int) : Bool := f 0 == g 0 && f 1 == g 1 && f 2 == g 2 && f 3 == g 3 && f 4 == g 4 && f 5 == g 5 && f 6 == g 6 && f 7 == g 7
theorem eqv (f g : Nat → Int) (w : World) : (Op.equalIn 10000 25 (.agg (vc f)) (.agg (vc g))).run Try.prog w = .ok (eqB f g) w := by
  have u22 := Try.underlying22
  have hi : ∃ i, Try.prog.info? 22 = some i := by
    have : (Try.prog.info? 22).isSome = true := by kernel_rfl
    exact Option.isSome_iff_exists.1 this
  obtain ⟨i, hi⟩ := hi
  have hz := Try.sizeOf22
  have ha := Try.isAgg22
  have hc : Try.prog.cellsOf 22 = 1 := by kernel_rfl
  rw [show (10000 : Nat) = 9998 + 1 + 1 from rfl, run_equalIn_array w 9999 (vc f) (vc g) Try.underlying25 hi, hc]
  unfold vc
  simp only [Op.eqItems, List.range, List.range.loop]
  go_simp
  unfold eqB
  repeat (first | (split <;> simp_all; done) | split)
  all_goals simp_all
theorem eql25 (f g : Nat → Int) (w : World) : (binOp .eql 25 (.agg (vc f)) (.agg (vc g))).run Try.prog w = .ok (.bool (eqB f g)) w := by
  rw [run_eql_struct, eqv]; rfl
theorem neq25 (f g : Nat → Int) (w : World) : (binOp .neq 25 (.agg (vc f)) (.agg (vc g))).run Try.prog w = .ok (.bool (!eqB f g)) w := by
  rw [run_neq_struct, eqv]; rfl
theorem vc_one (f : Nat → Int) : (vc f).all (·.oneCell') = true := by simp [vc, Value.oneCell']
theorem alloc3_0 (w : World) (A B C : Obj) : (((w.alloc A).alloc B).alloc C).heap[w.heap.size]? = some A := by
  rw [Below.heap_alloc _ _ _ (by simp; omega)]; exact heap_alloc2_old _ _ _
theorem alloc3_1 (w : World) (A B C : Obj) : (((w.alloc A).alloc B).alloc C).heap[w.heap.size + 1]? = some B := by
  rw [Below.heap_alloc _ _ _ (by simp)]; exact heap_alloc2_new _ _ _
theorem alloc3_2 (w : World) (A B C : Obj) : (((w.alloc A).alloc B).alloc C).heap[w.heap.size + 1 + 1]? = some C := heap_alloc2_new (w.alloc A) B C ▸ by simp
def knB (f g : Nat → Int) : Bool := eqB (fun i => mx (f i) (g i)) f
def ahB (f g : Nat → Int) : Bool := knB g f && !eqB f g
def apB (f g : Nat → Int) : Bool := !knB f g && !knB g f
set_option maxHeartbeats 400000 in
theorem Join (f g : Nat → Int) (w : World) : Calls Try.prog 8 #[.agg (vc f), .agg (vc g)] w fun e w' => e = .returned (.agg (vc fun i => mx (f i) (g i))) ∧ Below w.heap.size w w' := by
  go_enter Try.func8, Try.ntmps8
  go_upto_region 1 with (fail)
  have hA : (((w.alloc (.cells (vc f) 25)).alloc (.cells (vc g) 25)).alloc (.cells (vc fun _ => 0) 25)).heap[w.heap.size]? = some (.cells (vc f) 25) := alloc3_0 _ _ _ _
  have hB : (((w.alloc (.cells (vc f) 25)).alloc (.cells (vc g) 25)).alloc (.cells (vc fun _ => 0) 25)).heap[w.heap.size + 1]? = some (.cells (vc g) 25) := alloc3_1 _ _ _ _
  have hR : (((w.alloc (.cells (vc f) 25)).alloc (.cells (vc g) 25)).alloc (.cells (vc fun _ => 0) 25)).heap[w.heap.size + 1 + 1]? = some (.cells (vc fun _ => 0) 25) := alloc3_2 _ _ _ _
  have hw := below3 w (.cells (vc f) 25) (.cells (vc g) 25) (.cells (vc fun _ => 0) 25)
  refine plain_head 3 (fun w' => Below (w.heap.size + 3) (((w.alloc (.cells (vc f) 25)).alloc (.cells (vc g) 25)).alloc (.cells (vc fun _ => 0) 25)) w') (Below.refl _ _) ?_
  simp only [List.take_succ_cons, List.take_zero, List.drop_succ_cons, List.drop_zero]
  refine q_run rfl (fun K hK => ?_)
  refine q_load 25 (.tmp 2) rfl _ rfl _ (vc f) (0, 0) _ (fun w' h' => blk_below hA h' (by omega)) Try.underlying25 rfl (by kernel_rfl) ?_
  go_simp
  refine hK _ ?_
  clear hK K
  refine q_run rfl (fun K hK => ?_)
  refine q_load 25 (.tmp 3) rfl _ rfl _ (vc g) (0, 0) _ (fun w' h' => blk_below hB h' (by omega)) Try.underlying25 rfl (by kernel_rfl) ?_
  go_simp
  refine hK _ ?_
  clear hK K
  refine q_run rfl (fun K hK => ?_)
  refine q_call (by simp) (each_more f g) (fun w' => ?_) ?_
  · go_simp
  go_simp
  refine hK _ ?_
  clear hK K
  refine wpQuiet_nil ?_
  intro w1 h1
  have hR1 := blk_below hR h1 (by omega)
  refine wl_store rfl 25 (.tmp 4) (.tmp 7) rfl (w.heap.size + 1 + 1) (vc fun i => mx (f i) (g i)) rfl rfl 25 _ hR1 (by kernel_rfl) rfl (vc_one _) (fun w2 g1 g2 g3 g4 K hK => ?_)
  go_simp
  refine hK _ _ ?_
  clear hK K
  go_wp2
  exact bodyPost_ret (results_cell_row rfl _ _ _ _ _ _ _ rfl g1 Try.underlying25 rfl (by kernel_rfl)) rfl ⟨rfl, (hw.trans (h1.mono (by omega))).trans (g3 _ (by omega))⟩
set_option maxHeartbeats 400000 in
theorem Meet (f g : Nat → Int) (w : World) : Calls Try.prog 9 #[.agg (vc f), .agg (vc g)] w fun e w' => e = .returned (.agg (vc fun i => mn (f i) (g i))) ∧ Below w.heap.size w w' := by
  go_enter Try.func9, Try.ntmps9
  go_upto_region 1 with (fail)
  have hA : (((w.alloc (.cells (vc f) 25)).alloc (.cells (vc g) 25)).alloc (.cells (vc fun _ => 0) 25)).heap[w.heap.size]? = some (.cells (vc f) 25) := alloc3_0 _ _ _ _
  have hB : (((w.alloc (.cells (vc f) 25)).alloc (.cells (vc g) 25)).alloc (.cells (vc fun _ => 0) 25)).heap[w.heap.size + 1]? = some (.cells (vc g) 25) := alloc3_1 _ _ _ _
  have hR : (((w.alloc (.cells (vc f) 25)).alloc (.cells (vc g) 25)).alloc (.cells (vc fun _ => 0) 25)).heap[w.heap.size + 1 + 1]? = some (.cells (vc fun _ => 0) 25) := alloc3_2 _ _ _ _
  have hw := below3 w (.cells (vc f) 25) (.cells (vc g) 25) (.cells (vc fun _ => 0) 25)
  refine plain_head 3 (fun w' => Below (w.heap.size + 3) (((w.alloc (.cells (vc f) 25)).alloc (.cells (vc g) 25)).alloc (.cells (vc fun _ => 0) 25)) w') (Below.refl _ _) ?_
  simp only [List.take_succ_cons, List.take_zero, List.drop_succ_cons, List.drop_zero]
  refine q_run rfl (fun K hK => ?_)
  refine q_load 25 (.tmp 2) rfl _ rfl _ (vc f) (0, 0) _ (fun w' h' => blk_below hA h' (by omega)) Try.underlying25 rfl (by kernel_rfl) ?_
  go_simp
  refine hK _ ?_
  clear hK K
  refine q_run rfl (fun K hK => ?_)
  refine q_load 25 (.tmp 3) rfl _ rfl _ (vc g) (0, 0) _ (fun w' h' => blk_below hB h' (by omega)) Try.underlying25 rfl (by kernel_rfl) ?_
  go_simp
  refine hK _ ?_
  clear hK K
  refine q_run rfl (fun K hK => ?_)
  refine q_call (by simp) (each_fewer f g) (fun w' => ?_) ?_
  · go_simp
  go_simp
  refine hK _ ?_
  clear hK K
  refine wpQuiet_nil ?_
  intro w1 h1
  have hR1 := blk_below hR h1 (by omega)
  refine wl_store rfl 25 (.tmp 4) (.tmp 7) rfl (w.heap.size + 1 + 1) (vc fun i => mn (f i) (g i)) rfl rfl 25 _ hR1 (by kernel_rfl) rfl (vc_one _) (fun w2 g1 g2 g3 g4 K hK => ?_)
  go_simp
  refine hK _ _ ?_
  clear hK K
  go_wp2
  exact bodyPost_ret (results_cell_row rfl _ _ _ _ _ _ _ rfl g1 Try.underlying25 rfl (by kernel_rfl)) rfl ⟨rfl, (hw.trans (h1.mono (by omega))).trans (g3 _ (by omega))⟩
set_option maxHeartbeats 400000 in
theorem Knows (f g : Nat → Int) (w : World) : Calls Try.prog 10 #[.agg (vc f), .agg (vc g)] w fun e w' => e = .returned (.bool (knB f g)) ∧ Below w.heap.size w w' := by
  unfold knB
  have he := eql25 (fun i => mx (f i) (g i)) f
  go_enter Try.func10, Try.ntmps10
  go_wp2_with fail
  have hA : ((w.alloc (.cells (vc f) 25)).alloc (.cells (vc g) 25)).heap[w.heap.size]? = some (.cells (vc f) 25) := heap_alloc2_old _ _ _
  have hB : ((w.alloc (.cells (vc f) 25)).alloc (.cells (vc g) 25)).heap[w.heap.size + 1]? = some (.cells (vc g) 25) := heap_alloc2_new _ _ _
  have hw := below2 w (.cells (vc f) 25) (.cells (vc g) 25)
  refine quiet_all (fun w' => Below (w.heap.size + 2) ((w.alloc (.cells (vc f) 25)).alloc (.cells (vc g) 25)) w') (by kernel_rfl) (by kernel_rfl) (Below.drew (Below.refl _ _)) ?_
  refine q_run rfl (fun K hK => ?_)
  refine q_load 25 (.tmp 2) rfl _ rfl _ (vc f) (0, 0) _ (fun w' h' => blk_below hA h' (by omega)) Try.underlying25 rfl (by kernel_rfl) ?_
  go_simp
  refine hK _ ?_
  clear hK K
  refine q_run rfl (fun K hK => ?_)
  refine q_load 25 (.tmp 3) rfl _ rfl _ (vc g) (0, 0) _ (fun w' h' => blk_below hB h' (by omega)) Try.underlying25 rfl (by kernel_rfl) ?_
  go_simp
  refine hK _ ?_
  clear hK K
  refine q_run rfl (fun K hK => ?_)
  refine q_call (by simp) (Join f g) (fun w' => ?_) ?_
  · go_simp
  go_simp
  refine hK _ ?_
  clear hK K
  refine q_run rfl (fun K hK => ?_)
  refine q_load 25 (.tmp 2) rfl _ rfl _ (vc f) (0, 0) _ (fun w' h' => blk_below hA h' (by omega)) Try.underlying25 rfl (by kernel_rfl) ?_
  go_simp
  refine hK _ ?_
  clear hK K
  refine q_run rfl (fun K hK => ?_)
  refine q_value ?_ (fun w' h' => ?_) ?_
  rotate_left
  · go_simp; try with_reducible rfl
  go_simp
  refine hK _ ?_
  clear hK K
  refine q_run rfl (fun K hK => ?_)
  refine q_value ?_ (fun w' h' => ?_) ?_
  rotate_left
  · go_simp; try with_reducible rfl
  go_simp
  refine hK _ ?_
  clear hK K
  refine wpQuiet_nil ?_
  intro w1 h1
  go_wp2
  go_ret
  exact ⟨rfl, hw.trans (h1.mono (by omega))⟩

set_option maxHeartbeats 400000 in
theorem Ahead (f g : Nat → Int) (w : World) : Calls Try.prog 12 #[.agg (vc f), .agg (vc g)] w fun e w' => e = .returned (.bool (ahB f g)) ∧ Below w.heap.size w w' := by
  unfold ahB
  have he := neq25 f g
  have hkn := Knows g f
  cases hk : knB g f
  · rw [hk] at hkn
    clear hk
    go_enter Try.func12, Try.ntmps12
    go_upto_region 1 with (fail)
    have hA : ((w.alloc (.cells (vc f) 25)).alloc (.cells (vc g) 25)).heap[w.heap.size]? = some (.cells (vc f) 25) := heap_alloc2_old _ _ _
    have hB : ((w.alloc (.cells (vc f) 25)).alloc (.cells (vc g) 25)).heap[w.heap.size + 1]? = some (.cells (vc g) 25) := heap_alloc2_new _ _ _
    have hw := below2 w (.cells (vc f) 25) (.cells (vc g) 25)
    refine plain_all (fun w' => Below (w.heap.size + 2) ((w.alloc (.cells (vc f) 25)).alloc (.cells (vc g) 25)) w') (Below.refl _ _) ?_
    refine q_run rfl (fun K hK => ?_)
    refine q_load 25 (.tmp 3) rfl _ rfl _ (vc g) (0, 0) _ (fun w' h' => blk_below hB h' (by omega)) Try.underlying25 rfl (by kernel_rfl) ?_
    go_simp
    refine hK _ ?_
    clear hK K
    refine q_run rfl (fun K hK => ?_)
    refine q_load 25 (.tmp 2) rfl _ rfl _ (vc f) (0, 0) _ (fun w' h' => blk_below hA h' (by omega)) Try.underlying25 rfl (by kernel_rfl) ?_
    go_simp
    refine hK _ ?_
    clear hK K
    refine q_run rfl (fun K hK => ?_)
    refine q_call (by simp) hkn (fun w' => ?_) ?_
    · go_simp
    go_simp
    refine hK _ ?_
    clear hK K
    refine q_run rfl (fun K hK => ?_)
    refine q_value ?_ (fun w' h' => ?_) ?_
    rotate_left
    · go_simp; try with_reducible rfl
    go_simp
    refine hK _ ?_
    clear hK K
    refine q_skip rfl (fun K hK => ?_)
    go_simp
    refine hK _ ?_
    clear hK K
    refine q_skip rfl (fun K hK => ?_)
    go_simp
    refine hK _ ?_
    clear hK K
    refine q_skip rfl (fun K hK => ?_)
    go_simp
    refine hK _ ?_
    clear hK K
    refine q_run rfl (fun K hK => ?_)
    refine q_value ?_ (fun w' h' => ?_) ?_
    rotate_left
    · go_simp; try with_reducible rfl
    go_simp
    refine hK _ ?_
    clear hK K
    refine q_run rfl (fun K hK => ?_)
    refine q_value ?_ (fun w' h' => ?_) ?_
    rotate_left
    · go_simp; try with_reducible rfl
    go_simp
    refine hK _ ?_
    clear hK K
    refine wpQuiet_nil ?_
    intro w1 h1
    go_wp2
    go_ret
    exact ⟨rfl, hw.trans (h1.mono (by omega))⟩
  · rw [hk] at hkn
    clear hk
    go_enter Try.func12, Try.ntmps12
    go_upto_region 1 with (fail)
    have hA : ((w.alloc (.cells (vc f) 25)).alloc (.cells (vc g) 25)).heap[w.heap.size]? = some (.cells (vc f) 25) := heap_alloc2_old _ _ _
    have hB : ((w.alloc (.cells (vc f) 25)).alloc (.cells (vc g) 25)).heap[w.heap.size + 1]? = some (.cells (vc g) 25) := heap_alloc2_new _ _ _
    have hw := below2 w (.cells (vc f) 25) (.cells (vc g) 25)
    refine plain_all (fun w' => Below (w.heap.size + 2) ((w.alloc (.cells (vc f) 25)).alloc (.cells (vc g) 25)) w') (Below.refl _ _) ?_
    refine q_run rfl (fun K hK => ?_)
    refine q_load 25 (.tmp 3) rfl _ rfl _ (vc g) (0, 0) _ (fun w' h' => blk_below hB h' (by omega)) Try.underlying25 rfl (by kernel_rfl) ?_
    go_simp
    refine hK _ ?_
    clear hK K
    refine q_run rfl (fun K hK => ?_)
    refine q_load 25 (.tmp 2) rfl _ rfl _ (vc f) (0, 0) _ (fun w' h' => blk_below hA h' (by omega)) Try.underlying25 rfl (by kernel_rfl) ?_
    go_simp
    refine hK _ ?_
    clear hK K
    refine q_run rfl (fun K hK => ?_)
    refine q_call (by simp) hkn (fun w' => ?_) ?_
    · go_simp
    go_simp
    refine hK _ ?_
    clear hK K
    refine q_run rfl (fun K hK => ?_)
    refine q_value ?_ (fun w' h' => ?_) ?_
    rotate_left
    · go_simp; try with_reducible rfl
    go_simp
    refine hK _ ?_
    clear hK K
    refine q_run rfl (fun K hK => ?_)
    refine q_load 25 (.tmp 2) rfl _ rfl _ (vc f) (0, 0) _ (fun w' h' => blk_below hA h' (by omega)) Try.underlying25 rfl (by kernel_rfl) ?_
    go_simp
    refine hK _ ?_
    clear hK K
    refine q_run rfl (fun K hK => ?_)
    refine q_load 25 (.tmp 3) rfl _ rfl _ (vc g) (0, 0) _ (fun w' h' => blk_below hB h' (by omega)) Try.underlying25 rfl (by kernel_rfl) ?_
    go_simp
    refine hK _ ?_
    clear hK K
    refine q_run rfl (fun K hK => ?_)
    refine q_value ?_ (fun w' h' => ?_) ?_
    rotate_left
    · go_simp; try with_reducible rfl
    go_simp
    refine hK _ ?_
    clear hK K
    refine q_run rfl (fun K hK => ?_)
    refine q_value ?_ (fun w' h' => ?_) ?_
    rotate_left
    · go_simp; try with_reducible rfl
    go_simp
    refine hK _ ?_
    clear hK K
    refine q_run rfl (fun K hK => ?_)
    refine q_value ?_ (fun w' h' => ?_) ?_
    rotate_left
    · go_simp; try with_reducible rfl
    go_simp
    refine hK _ ?_
    clear hK K
    refine wpQuiet_nil ?_
    intro w1 h1
    go_wp2
    go_ret
    exact ⟨rfl, hw.trans (h1.mono (by omega))⟩

set_option maxHeartbeats 400000 in
theorem Apart (f g : Nat → Int) (w : World) : Calls Try.prog 13 #[.agg (vc f), .agg (vc g)] w fun e w' => e = .returned (.bool (apB f g)) ∧ Below w.heap.size w w' := by
  unfold apB
  have hkn := Knows f g
  cases hk : knB f g
  · rw [hk] at hkn
    clear hk
    go_enter Try.func13, Try.ntmps13
    go_upto_region 1 with (fail)
    have hA : ((w.alloc (.cells (vc f) 25)).alloc (.cells (vc g) 25)).heap[w.heap.size]? = some (.cells (vc f) 25) := heap_alloc2_old _ _ _
    have hB : ((w.alloc (.cells (vc f) 25)).alloc (.cells (vc g) 25)).heap[w.heap.size + 1]? = some (.cells (vc g) 25) := heap_alloc2_new _ _ _
    have hw := below2 w (.cells (vc f) 25) (.cells (vc g) 25)
    refine plain_all (fun w' => Below (w.heap.size + 2) ((w.alloc (.cells (vc f) 25)).alloc (.cells (vc g) 25)) w') (Below.refl _ _) ?_
    refine q_run rfl (fun K hK => ?_)
    refine q_load 25 (.tmp 2) rfl _ rfl _ (vc f) (0, 0) _ (fun w' h' => blk_below hA h' (by omega)) Try.underlying25 rfl (by kernel_rfl) ?_
    go_simp
    refine hK _ ?_
    clear hK K
    refine q_run rfl (fun K hK => ?_)
    refine q_load 25 (.tmp 3) rfl _ rfl _ (vc g) (0, 0) _ (fun w' h' => blk_below hB h' (by omega)) Try.underlying25 rfl (by kernel_rfl) ?_
    go_simp
    refine hK _ ?_
    clear hK K
    refine q_run rfl (fun K hK => ?_)
    refine q_call (by simp) hkn (fun w' => ?_) ?_
    · go_simp
    go_simp
    refine hK _ ?_
    clear hK K
    refine q_run rfl (fun K hK => ?_)
    refine q_value ?_ (fun w' h' => ?_) ?_
    rotate_left
    · go_simp; try with_reducible rfl
    go_simp
    refine hK _ ?_
    clear hK K
    refine q_run rfl (fun K hK => ?_)
    refine q_value ?_ (fun w' h' => ?_) ?_
    rotate_left
    · go_simp; try with_reducible rfl
    go_simp
    refine hK _ ?_
    clear hK K
    refine q_run rfl (fun K hK => ?_)
    refine q_load 25 (.tmp 3) rfl _ rfl _ (vc g) (0, 0) _ (fun w' h' => blk_below hB h' (by omega)) Try.underlying25 rfl (by kernel_rfl) ?_
    go_simp
    refine hK _ ?_
    clear hK K
    refine q_run rfl (fun K hK => ?_)
    refine q_load 25 (.tmp 2) rfl _ rfl _ (vc f) (0, 0) _ (fun w' h' => blk_below hA h' (by omega)) Try.underlying25 rfl (by kernel_rfl) ?_
    go_simp
    refine hK _ ?_
    clear hK K
    refine q_run rfl (fun K hK => ?_)
    refine q_call (by simp) (Knows g f) (fun w' => ?_) ?_
    · go_simp
    go_simp
    refine hK _ ?_
    clear hK K
    refine q_run rfl (fun K hK => ?_)
    refine q_value ?_ (fun w' h' => ?_) ?_
    rotate_left
    · go_simp; try with_reducible rfl
    go_simp
    refine hK _ ?_
    clear hK K
    refine q_run rfl (fun K hK => ?_)
    refine q_value ?_ (fun w' h' => ?_) ?_
    rotate_left
    · go_simp; try with_reducible rfl
    go_simp
    refine hK _ ?_
    clear hK K
    refine q_run rfl (fun K hK => ?_)
    refine q_value ?_ (fun w' h' => ?_) ?_
    rotate_left
    · go_simp; try with_reducible rfl
    go_simp
    refine hK _ ?_
    clear hK K
    refine wpQuiet_nil ?_
    intro w1 h1
    go_wp2
    go_ret
    exact ⟨rfl, hw.trans (h1.mono (by omega))⟩
  · rw [hk] at hkn
    clear hk
    go_enter Try.func13, Try.ntmps13
    go_upto_region 1 with (fail)
    have hA : ((w.alloc (.cells (vc f) 25)).alloc (.cells (vc g) 25)).heap[w.heap.size]? = some (.cells (vc f) 25) := heap_alloc2_old _ _ _
    have hB : ((w.alloc (.cells (vc f) 25)).alloc (.cells (vc g) 25)).heap[w.heap.size + 1]? = some (.cells (vc g) 25) := heap_alloc2_new _ _ _
    have hw := below2 w (.cells (vc f) 25) (.cells (vc g) 25)
    refine plain_all (fun w' => Below (w.heap.size + 2) ((w.alloc (.cells (vc f) 25)).alloc (.cells (vc g) 25)) w') (Below.refl _ _) ?_
    refine q_run rfl (fun K hK => ?_)
    refine q_load 25 (.tmp 2) rfl _ rfl _ (vc f) (0, 0) _ (fun w' h' => blk_below hA h' (by omega)) Try.underlying25 rfl (by kernel_rfl) ?_
    go_simp
    refine hK _ ?_
    clear hK K
    refine q_run rfl (fun K hK => ?_)
    refine q_load 25 (.tmp 3) rfl _ rfl _ (vc g) (0, 0) _ (fun w' h' => blk_below hB h' (by omega)) Try.underlying25 rfl (by kernel_rfl) ?_
    go_simp
    refine hK _ ?_
    clear hK K
    refine q_run rfl (fun K hK => ?_)
    refine q_call (by simp) hkn (fun w' => ?_) ?_
    · go_simp
    go_simp
    refine hK _ ?_
    clear hK K
    refine q_run rfl (fun K hK => ?_)
    refine q_value ?_ (fun w' h' => ?_) ?_
    rotate_left
    · go_simp; try with_reducible rfl
    go_simp
    refine hK _ ?_
    clear hK K
    refine q_run rfl (fun K hK => ?_)
    refine q_value ?_ (fun w' h' => ?_) ?_
    rotate_left
    · go_simp; try with_reducible rfl
    go_simp
    refine hK _ ?_
    clear hK K
    refine q_skip rfl (fun K hK => ?_)
    go_simp
    refine hK _ ?_
    clear hK K
    refine q_skip rfl (fun K hK => ?_)
    go_simp
    refine hK _ ?_
    clear hK K
    refine q_skip rfl (fun K hK => ?_)
    go_simp
    refine hK _ ?_
    clear hK K
    refine q_skip rfl (fun K hK => ?_)
    go_simp
    refine hK _ ?_
    clear hK K
    refine q_run rfl (fun K hK => ?_)
    refine q_value ?_ (fun w' h' => ?_) ?_
    rotate_left
    · go_simp; try with_reducible rfl
    go_simp
    refine hK _ ?_
    clear hK K
    refine q_run rfl (fun K hK => ?_)
    refine q_value ?_ (fun w' h' => ?_) ?_
    rotate_left
    · go_simp; try with_reducible rfl
    go_simp
    refine hK _ ?_
    clear hK K
    refine wpQuiet_nil ?_
    intro w1 h1
    go_wp2
    go_ret
    exact ⟨rfl, hw.trans (h1.mono (by omega))⟩

theorem tick_0 (f : Nat → Int) (w : World) : Calls Try.prog 14 #[.agg (vc f), .int .i64 0] w fun e w' => e = .returned (.agg #[.int .u32 ((f 0 + 1) % 4294967296), .int .u32 (f 1), .int .u32 (f 2), .int .u32 (f 3), .int .u32 (f 4), .int .u32 (f 5), .int .u32 (f 6), .int .u32 (f 7)]) ∧ Below w.heap.size w w' := by
  unfold vc
  go_enter Try.func14, Try.ntmps14
  go_wp2
  exact bodyPost_ret (v := .agg #[.int .u32 ((f 0 + 1) % 4294967296), .int .u32 (f 1), .int .u32 (f 2), .int .u32 (f 3), .int .u32 (f 4), .int .u32 (f 5), .int .u32 (f 6), .int .u32 (f 7)]) (by simp [results, Try.results14, go_sem]) rfl ⟨rfl, below2 _ _ _⟩
theorem tick_1 (f : Nat → Int) (w : World) : Calls Try.prog 14 #[.agg (vc f), .int .i64 1] w fun e w' => e = .returned (.agg #[.int .u32 (f 0), .int .u32 ((f 1 + 1) % 4294967296), .int .u32 (f 2), .int .u32 (f 3), .int .u32 (f 4), .int .u32 (f 5), .int .u32 (f 6), .int .u32 (f 7)]) ∧ Below w.heap.size w w' := by
  unfold vc
  go_enter Try.func14, Try.ntmps14
  go_wp2
  exact bodyPost_ret (v := .agg #[.int .u32 (f 0), .int .u32 ((f 1 + 1) % 4294967296), .int .u32 (f 2), .int .u32 (f 3), .int .u32 (f 4), .int .u32 (f 5), .int .u32 (f 6), .int .u32 (f 7)]) (by simp [results, Try.results14, go_sem]) rfl ⟨rfl, below2 _ _ _⟩
theorem tick_2 (f : Nat → Int) (w : World) : Calls Try.prog 14 #[.agg (vc f), .int .i64 2] w fun e w' => e = .returned (.agg #[.int .u32 (f 0), .int .u32 (f 1), .int .u32 ((f 2 + 1) % 4294967296), .int .u32 (f 3), .int .u32 (f 4), .int .u32 (f 5), .int .u32 (f 6), .int .u32 (f 7)]) ∧ Below w.heap.size w w' := by
  unfold vc
  go_enter Try.func14, Try.ntmps14
  go_wp2
  exact bodyPost_ret (v := .agg #[.int .u32 (f 0), .int .u32 (f 1), .int .u32 ((f 2 + 1) % 4294967296), .int .u32 (f 3), .int .u32 (f 4), .int .u32 (f 5), .int .u32 (f 6), .int .u32 (f 7)]) (by simp [results, Try.results14, go_sem]) rfl ⟨rfl, below2 _ _ _⟩
theorem tick_3 (f : Nat → Int) (w : World) : Calls Try.prog 14 #[.agg (vc f), .int .i64 3] w fun e w' => e = .returned (.agg #[.int .u32 (f 0), .int .u32 (f 1), .int .u32 (f 2), .int .u32 ((f 3 + 1) % 4294967296), .int .u32 (f 4), .int .u32 (f 5), .int .u32 (f 6), .int .u32 (f 7)]) ∧ Below w.heap.size w w' := by
  unfold vc
  go_enter Try.func14, Try.ntmps14
  go_wp2
  exact bodyPost_ret (v := .agg #[.int .u32 (f 0), .int .u32 (f 1), .int .u32 (f 2), .int .u32 ((f 3 + 1) % 4294967296), .int .u32 (f 4), .int .u32 (f 5), .int .u32 (f 6), .int .u32 (f 7)]) (by simp [results, Try.results14, go_sem]) rfl ⟨rfl, below2 _ _ _⟩
theorem tick_4 (f : Nat → Int) (w : World) : Calls Try.prog 14 #[.agg (vc f), .int .i64 4] w fun e w' => e = .returned (.agg #[.int .u32 (f 0), .int .u32 (f 1), .int .u32 (f 2), .int .u32 (f 3), .int .u32 ((f 4 + 1) % 4294967296), .int .u32 (f 5), .int .u32 (f 6), .int .u32 (f 7)]) ∧ Below w.heap.size w w' := by
  unfold vc
  go_enter Try.func14, Try.ntmps14
  go_wp2
  exact bodyPost_ret (v := .agg #[.int .u32 (f 0), .int .u32 (f 1), .int .u32 (f 2), .int .u32 (f 3), .int .u32 ((f 4 + 1) % 4294967296), .int .u32 (f 5), .int .u32 (f 6), .int .u32 (f 7)]) (by simp [results, Try.results14, go_sem]) rfl ⟨rfl, below2 _ _ _⟩
theorem tick_5 (f : Nat → Int) (w : World) : Calls Try.prog 14 #[.agg (vc f), .int .i64 5] w fun e w' => e = .returned (.agg #[.int .u32 (f 0), .int .u32 (f 1), .int .u32 (f 2), .int .u32 (f 3), .int .u32 (f 4), .int .u32 ((f 5 + 1) % 4294967296), .int .u32 (f 6), .int .u32 (f 7)]) ∧ Below w.heap.size w w' := by
  unfold vc
  go_enter Try.func14, Try.ntmps14
  go_wp2
  exact bodyPost_ret (v := .agg #[.int .u32 (f 0), .int .u32 (f 1), .int .u32 (f 2), .int .u32 (f 3), .int .u32 (f 4), .int .u32 ((f 5 + 1) % 4294967296), .int .u32 (f 6), .int .u32 (f 7)]) (by simp [results, Try.results14, go_sem]) rfl ⟨rfl, below2 _ _ _⟩
theorem tick_6 (f : Nat → Int) (w : World) : Calls Try.prog 14 #[.agg (vc f), .int .i64 6] w fun e w' => e = .returned (.agg #[.int .u32 (f 0), .int .u32 (f 1), .int .u32 (f 2), .int .u32 (f 3), .int .u32 (f 4), .int .u32 (f 5), .int .u32 ((f 6 + 1) % 4294967296), .int .u32 (f 7)]) ∧ Below w.heap.size w w' := by
  unfold vc
  go_enter Try.func14, Try.ntmps14
  go_wp2
  exact bodyPost_ret (v := .agg #[.int .u32 (f 0), .int .u32 (f 1), .int .u32 (f 2), .int .u32 (f 3), .int .u32 (f 4), .int .u32 (f 5), .int .u32 ((f 6 + 1) % 4294967296), .int .u32 (f 7)]) (by simp [results, Try.results14, go_sem]) rfl ⟨rfl, below2 _ _ _⟩
theorem tick_7 (f : Nat → Int) (w : World) : Calls Try.prog 14 #[.agg (vc f), .int .i64 7] w fun e w' => e = .returned (.agg #[.int .u32 (f 0), .int .u32 (f 1), .int .u32 (f 2), .int .u32 (f 3), .int .u32 (f 4), .int .u32 (f 5), .int .u32 (f 6), .int .u32 ((f 7 + 1) % 4294967296)]) ∧ Below w.heap.size w w' := by
  unfold vc
  go_enter Try.func14, Try.ntmps14
  go_wp2
  exact bodyPost_ret (v := .agg #[.int .u32 (f 0), .int .u32 (f 1), .int .u32 (f 2), .int .u32 (f 3), .int .u32 (f 4), .int .u32 (f 5), .int .u32 (f 6), .int .u32 ((f 7 + 1) % 4294967296)]) (by simp [results, Try.results14, go_sem]) rfl ⟨rfl, below2 _ _ _⟩
theorem tick_out (f : Nat → Int) (t : Int) (ht : t < 0 ∨ 8 ≤ t) (w : World) : Calls Try.prog 14 #[.agg (vc f), .int .i64 t] w fun e w' => e = .returned (.agg (vc f)) ∧ Below w.heap.size w w' := by
  unfold vc
  by_cases h0 : t < 0
  · go_enter Try.func14, Try.ntmps14
    go_wp2
    exact bodyPost_ret (v := .agg #[.int .u32 (f 0), .int .u32 (f 1), .int .u32 (f 2), .int .u32 (f 3), .int .u32 (f 4), .int .u32 (f 5), .int .u32 (f 6), .int .u32 (f 7)]) (by simp [results, Try.results14, go_sem]) rfl ⟨rfl, below2 _ _ _⟩
  · have h1 : 0 ≤ t := by omega
    have h2 : ¬ t < 8 := by omega
    clear ht h0
    go_enter Try.func14, Try.ntmps14
    go_wp2
    exact bodyPost_ret (v := .agg #[.int .u32 (f 0), .int .u32 (f 1), .int .u32 (f 2), .int .u32 (f 3), .int .u32 (f 4), .int .u32 (f 5), .int .u32 (f 6), .int .u32 (f 7)]) (by simp [results, Try.results14, go_sem]) rfl ⟨rfl, below2 _ _ _⟩
def tk (f : Nat → Int) (t : Int) : Nat → Int := fun i => if (i : Int) = t then (f i + 1) % 4294967296 else f i
theorem Tick (f : Nat → Int) (t : Int) (w : World) : Calls Try.prog 14 #[.agg (vc f), .int .i64 t] w fun e w' => e = .returned (.agg (vc (tk f t))) ∧ Below w.heap.size w w' := by
  have h : (t < 0 ∨ 8 ≤ t) ∨ t = 0 ∨ t = 1 ∨ t = 2 ∨ t = 3 ∨ t = 4 ∨ t = 5 ∨ t = 6 ∨ t = 7 := by omega
  rcases h with h | rfl | rfl | rfl | rfl | rfl | rfl | rfl | rfl
  · refine (tick_out f t h w).mono fun e w' h' => ⟨?_, h'.2⟩
    rw [h'.1]
    have e : ∀ i : Nat, i < 8 → tk f t i = f i := fun i hi => if_neg (by omega)
    simp only [vc, e 0 (by omega), e 1 (by omega), e 2 (by omega), e 3 (by omega), e 4 (by omega), e 5 (by omega), e 6 (by omega), e 7 (by omega)]
  · exact tick_0 f w
  · exact tick_1 f w
  · exact tick_2 f w
  · exact tick_3 f w
  · exact tick_4 f w
  · exact tick_5 f w
  · exact tick_6 f w
  · exact tick_7 f w
end Go.Proofs.Ytfnaoaejbpeelaa
