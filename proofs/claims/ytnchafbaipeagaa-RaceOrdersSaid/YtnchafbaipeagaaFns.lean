/- The walks of the functions on clocks that the races take. -/
import Derived.Test.YtnchafbaipeagaaEach
namespace Go.Proofs.Ytnchafbaipeagaa
open Go.RowKit
set_option linter.unusedVariables false
theorem vc_one (f : Nat → Int) : (vc f).all (·.oneCell') = true := by simp [vc, Value.oneCell']
theorem alloc3_0 (w : World) (A B C : Obj) : (((w.alloc A).alloc B).alloc C).heap[w.heap.size]? = some A := by
  rw [Below.heap_alloc _ _ _ (by simp; omega)]; exact heap_alloc2_old _ _ _
theorem alloc3_1 (w : World) (A B C : Obj) : (((w.alloc A).alloc B).alloc C).heap[w.heap.size + 1]? = some B := by
  rw [Below.heap_alloc _ _ _ (by simp)]; exact heap_alloc2_new _ _ _
theorem alloc3_2 (w : World) (A B C : Obj) : (((w.alloc A).alloc B).alloc C).heap[w.heap.size + 1 + 1]? = some C := heap_alloc2_new (w.alloc A) B C ▸ by simp
set_option maxHeartbeats 400000 in
theorem Join (f g : Nat → Int) (w : World) : Calls Try.prog 20 #[.agg (vc f), .agg (vc g)] w fun e w' => e = .returned (.agg (vc fun i => mx (f i) (g i))) ∧ Below w.heap.size w w' := by
  go_enter Try.func20, Try.ntmps20
  go_upto_region 1 with (fail)
  have hA : (((w.alloc (.cells (vc f) 52)).alloc (.cells (vc g) 52)).alloc (.cells (vc fun _ => 0) 52)).heap[w.heap.size]? = some (.cells (vc f) 52) := alloc3_0 _ _ _ _
  have hB : (((w.alloc (.cells (vc f) 52)).alloc (.cells (vc g) 52)).alloc (.cells (vc fun _ => 0) 52)).heap[w.heap.size + 1]? = some (.cells (vc g) 52) := alloc3_1 _ _ _ _
  have hR : (((w.alloc (.cells (vc f) 52)).alloc (.cells (vc g) 52)).alloc (.cells (vc fun _ => 0) 52)).heap[w.heap.size + 1 + 1]? = some (.cells (vc fun _ => 0) 52) := alloc3_2 _ _ _ _
  have hw := below3 w (.cells (vc f) 52) (.cells (vc g) 52) (.cells (vc fun _ => 0) 52)
  refine plain_head 3 (fun w' => Below (w.heap.size + 3) (((w.alloc (.cells (vc f) 52)).alloc (.cells (vc g) 52)).alloc (.cells (vc fun _ => 0) 52)) w') (Below.refl _ _) ?_
  simp only [List.take_succ_cons, List.take_zero, List.drop_succ_cons, List.drop_zero]
  refine q_run rfl (fun K hK => ?_)
  refine q_load 52 (.tmp 2) rfl _ rfl _ (vc f) (0, 0) _ (fun w' h' => blk_below hA h' (by omega)) Try.underlying52 rfl (by kernel_rfl) ?_
  go_simp
  refine hK _ ?_
  clear hK K
  refine q_run rfl (fun K hK => ?_)
  refine q_load 52 (.tmp 3) rfl _ rfl _ (vc g) (0, 0) _ (fun w' h' => blk_below hB h' (by omega)) Try.underlying52 rfl (by kernel_rfl) ?_
  go_simp
  refine hK _ ?_
  clear hK K
  refine q_run rfl (fun K hK => ?_)
  refine q_call (by simp) (each_more f g) (fun w' => ?_) ?_
  · first | (go_simp; done) | (go_simp; rfl)
  go_simp
  refine hK _ ?_
  clear hK K
  refine qd_nil ?_
  intro w1 h1
  have hR1 := blk_below hR h1 (by omega)
  refine wl_store rfl 52 (.tmp 4) (.tmp 7) rfl (w.heap.size + 1 + 1) (vc fun i => mx (f i) (g i)) rfl rfl 52 _ hR1 (by kernel_rfl) rfl (vc_one _) (fun w2 g1 g2 g3 g4 K hK => ?_)
  go_simp
  refine hK _ _ ?_
  clear hK K
  go_wp2
  exact bodyPost_ret (results_cell_row rfl _ _ _ _ _ _ _ rfl g1 Try.underlying52 rfl (by kernel_rfl)) rfl ⟨rfl, (hw.trans (h1.mono (by omega))).trans (g3 _ (by omega))⟩
theorem tick_0 (f : Nat → Int) (w : World) : Calls Try.prog 21 #[.agg (vc f), .int .i64 0] w fun e w' => e = .returned (.agg #[.int .u32 ((f 0 + 1) % 4294967296), .int .u32 (f 1), .int .u32 (f 2), .int .u32 (f 3), .int .u32 (f 4), .int .u32 (f 5), .int .u32 (f 6), .int .u32 (f 7)]) ∧ Below w.heap.size w w' := by
  unfold vc
  go_enter Try.func21, Try.ntmps21
  go_wp2
  exact bodyPost_ret (v := .agg #[.int .u32 ((f 0 + 1) % 4294967296), .int .u32 (f 1), .int .u32 (f 2), .int .u32 (f 3), .int .u32 (f 4), .int .u32 (f 5), .int .u32 (f 6), .int .u32 (f 7)]) (by simp [results, Try.results21, go_sem]) rfl ⟨rfl, below2 _ _ _⟩
theorem tick_1 (f : Nat → Int) (w : World) : Calls Try.prog 21 #[.agg (vc f), .int .i64 1] w fun e w' => e = .returned (.agg #[.int .u32 (f 0), .int .u32 ((f 1 + 1) % 4294967296), .int .u32 (f 2), .int .u32 (f 3), .int .u32 (f 4), .int .u32 (f 5), .int .u32 (f 6), .int .u32 (f 7)]) ∧ Below w.heap.size w w' := by
  unfold vc
  go_enter Try.func21, Try.ntmps21
  go_wp2
  exact bodyPost_ret (v := .agg #[.int .u32 (f 0), .int .u32 ((f 1 + 1) % 4294967296), .int .u32 (f 2), .int .u32 (f 3), .int .u32 (f 4), .int .u32 (f 5), .int .u32 (f 6), .int .u32 (f 7)]) (by simp [results, Try.results21, go_sem]) rfl ⟨rfl, below2 _ _ _⟩
theorem tick_2 (f : Nat → Int) (w : World) : Calls Try.prog 21 #[.agg (vc f), .int .i64 2] w fun e w' => e = .returned (.agg #[.int .u32 (f 0), .int .u32 (f 1), .int .u32 ((f 2 + 1) % 4294967296), .int .u32 (f 3), .int .u32 (f 4), .int .u32 (f 5), .int .u32 (f 6), .int .u32 (f 7)]) ∧ Below w.heap.size w w' := by
  unfold vc
  go_enter Try.func21, Try.ntmps21
  go_wp2
  exact bodyPost_ret (v := .agg #[.int .u32 (f 0), .int .u32 (f 1), .int .u32 ((f 2 + 1) % 4294967296), .int .u32 (f 3), .int .u32 (f 4), .int .u32 (f 5), .int .u32 (f 6), .int .u32 (f 7)]) (by simp [results, Try.results21, go_sem]) rfl ⟨rfl, below2 _ _ _⟩
theorem tick_3 (f : Nat → Int) (w : World) : Calls Try.prog 21 #[.agg (vc f), .int .i64 3] w fun e w' => e = .returned (.agg #[.int .u32 (f 0), .int .u32 (f 1), .int .u32 (f 2), .int .u32 ((f 3 + 1) % 4294967296), .int .u32 (f 4), .int .u32 (f 5), .int .u32 (f 6), .int .u32 (f 7)]) ∧ Below w.heap.size w w' := by
  unfold vc
  go_enter Try.func21, Try.ntmps21
  go_wp2
  exact bodyPost_ret (v := .agg #[.int .u32 (f 0), .int .u32 (f 1), .int .u32 (f 2), .int .u32 ((f 3 + 1) % 4294967296), .int .u32 (f 4), .int .u32 (f 5), .int .u32 (f 6), .int .u32 (f 7)]) (by simp [results, Try.results21, go_sem]) rfl ⟨rfl, below2 _ _ _⟩
theorem tick_4 (f : Nat → Int) (w : World) : Calls Try.prog 21 #[.agg (vc f), .int .i64 4] w fun e w' => e = .returned (.agg #[.int .u32 (f 0), .int .u32 (f 1), .int .u32 (f 2), .int .u32 (f 3), .int .u32 ((f 4 + 1) % 4294967296), .int .u32 (f 5), .int .u32 (f 6), .int .u32 (f 7)]) ∧ Below w.heap.size w w' := by
  unfold vc
  go_enter Try.func21, Try.ntmps21
  go_wp2
  exact bodyPost_ret (v := .agg #[.int .u32 (f 0), .int .u32 (f 1), .int .u32 (f 2), .int .u32 (f 3), .int .u32 ((f 4 + 1) % 4294967296), .int .u32 (f 5), .int .u32 (f 6), .int .u32 (f 7)]) (by simp [results, Try.results21, go_sem]) rfl ⟨rfl, below2 _ _ _⟩
theorem tick_5 (f : Nat → Int) (w : World) : Calls Try.prog 21 #[.agg (vc f), .int .i64 5] w fun e w' => e = .returned (.agg #[.int .u32 (f 0), .int .u32 (f 1), .int .u32 (f 2), .int .u32 (f 3), .int .u32 (f 4), .int .u32 ((f 5 + 1) % 4294967296), .int .u32 (f 6), .int .u32 (f 7)]) ∧ Below w.heap.size w w' := by
  unfold vc
  go_enter Try.func21, Try.ntmps21
  go_wp2
  exact bodyPost_ret (v := .agg #[.int .u32 (f 0), .int .u32 (f 1), .int .u32 (f 2), .int .u32 (f 3), .int .u32 (f 4), .int .u32 ((f 5 + 1) % 4294967296), .int .u32 (f 6), .int .u32 (f 7)]) (by simp [results, Try.results21, go_sem]) rfl ⟨rfl, below2 _ _ _⟩
theorem tick_6 (f : Nat → Int) (w : World) : Calls Try.prog 21 #[.agg (vc f), .int .i64 6] w fun e w' => e = .returned (.agg #[.int .u32 (f 0), .int .u32 (f 1), .int .u32 (f 2), .int .u32 (f 3), .int .u32 (f 4), .int .u32 (f 5), .int .u32 ((f 6 + 1) % 4294967296), .int .u32 (f 7)]) ∧ Below w.heap.size w w' := by
  unfold vc
  go_enter Try.func21, Try.ntmps21
  go_wp2
  exact bodyPost_ret (v := .agg #[.int .u32 (f 0), .int .u32 (f 1), .int .u32 (f 2), .int .u32 (f 3), .int .u32 (f 4), .int .u32 (f 5), .int .u32 ((f 6 + 1) % 4294967296), .int .u32 (f 7)]) (by simp [results, Try.results21, go_sem]) rfl ⟨rfl, below2 _ _ _⟩
theorem tick_7 (f : Nat → Int) (w : World) : Calls Try.prog 21 #[.agg (vc f), .int .i64 7] w fun e w' => e = .returned (.agg #[.int .u32 (f 0), .int .u32 (f 1), .int .u32 (f 2), .int .u32 (f 3), .int .u32 (f 4), .int .u32 (f 5), .int .u32 (f 6), .int .u32 ((f 7 + 1) % 4294967296)]) ∧ Below w.heap.size w w' := by
  unfold vc
  go_enter Try.func21, Try.ntmps21
  go_wp2
  exact bodyPost_ret (v := .agg #[.int .u32 (f 0), .int .u32 (f 1), .int .u32 (f 2), .int .u32 (f 3), .int .u32 (f 4), .int .u32 (f 5), .int .u32 (f 6), .int .u32 ((f 7 + 1) % 4294967296)]) (by simp [results, Try.results21, go_sem]) rfl ⟨rfl, below2 _ _ _⟩
def tk (f : Nat → Int) (t : Nat) : Nat → Int := fun i => if i = t then (f i + 1) % 4294967296 else f i
theorem Tick (f : Nat → Int) (t : Nat) (ht : t < 8) (w : World) : Calls Try.prog 21 #[.agg (vc f), .int .i64 t] w fun e w' => e = .returned (.agg (vc (tk f t))) ∧ Below w.heap.size w w' := by
  have h : t = 0 ∨ t = 1 ∨ t = 2 ∨ t = 3 ∨ t = 4 ∨ t = 5 ∨ t = 6 ∨ t = 7 := by omega
  rcases h with rfl | rfl | rfl | rfl | rfl | rfl | rfl | rfl
  · exact tick_0 f w
  · exact tick_1 f w
  · exact tick_2 f w
  · exact tick_3 f w
  · exact tick_4 f w
  · exact tick_5 f w
  · exact tick_6 f w
  · exact tick_7 f w

end Go.Proofs.Ytnchafbaipeagaa
