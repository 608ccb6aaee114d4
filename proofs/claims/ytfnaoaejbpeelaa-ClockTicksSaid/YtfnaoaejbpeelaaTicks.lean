/- The law ClockTicks: the plain law, and the walk. -/
import Derived.Test.YtfnaoaejbpeelaaRef
import Derived.Test.YtfnaoaejbpeelaaGrow
import Derived.Deep.DeepCutAuto
import Derived.Lib.Hide
import Derived.IntWalk
namespace Go.Proofs.Ytfnaoaejbpeelaa
open Go.RowKit
set_option linter.unusedVariables false
/-! ### the plain law -/
theorem tk_at (f : Nat → Int) (k : Nat) : tk f (k : Int) k = (f k + 1) % 4294967296 := by simp [tk]
theorem tk_ne (f : Nat → Int) {k i : Nat} (h : i ≠ k) : tk f (k : Int) i = f i := by simp only [tk]; rw [if_neg (by omega)]
section
variable {f : Nat → Int} {k : Nat} (hk : k < 8) (hf : ∀ i, i < 8 → 0 ≤ f i ∧ f i < 4294967296)
theorem tk_over (h : f k = 4294967295) : tk f (k : Int) k = 0 := by rw [tk_at, h]; decide
include hf in
theorem kn_over (h : f k = 4294967295) : knB f (tk f k) = true := by
  rw [knB_iff]; intro i hi
  by_cases e : i = k
  · subst e; rw [tk_over h]; exact (hf i hi).1
  · rw [tk_ne f e]; omega
include hk hf in
theorem tk_up (h : f k ≠ 4294967295) : tk f (k : Int) k = f k + 1 := by
  rw [tk_at]; have := hf k hk; omega
include hk hf in
theorem up_kn (h : f k ≠ 4294967295) : knB (tk f k) f = true := by
  rw [knB_iff]; intro i hi
  by_cases e : i = k
  · subst e; rw [tk_up hk hf h]; omega
  · rw [tk_ne f e]; omega
include hk hf in
theorem not_kn (h : f k ≠ 4294967295) : knB f (tk f k) = false := by
  rw [← Bool.not_eq_true, knB_iff]; intro h'; have := h' k hk; rw [tk_up hk hf h] at this; omega
include hk hf in
theorem up_ah (h : f k ≠ 4294967295) : ahB f (tk f k) = true := by
  have e : eqB f (tk f k) = false := by
    rw [← Bool.not_eq_true, eqB_iff]; intro h'; have := h' k hk; rw [tk_up hk hf h] at this; omega
  simp [ahB, up_kn hk hf h, e]
include hk hf in
theorem up_join (h : f k ≠ 4294967295) : eqB (fun i => mx (f i) (tk f k i)) (tk f k) = true := by
  rw [eqB_iff]; intro i hi; have := (knB_iff _ _).1 (up_kn hk hf h) i hi; simp only [mx]; split <;> omega
include hk hf in
theorem up_meet (h : f k ≠ 4294967295) : eqB (fun i => mn (f i) (tk f k i)) f = true := by
  rw [eqB_iff]; intro i hi; have := (knB_iff _ _).1 (up_kn hk hf h) i hi; simp only [mn]; split <;> omega
end
theorem tk_tk (f : Nat → Int) (k u : Nat) : eqB (tk (tk f k) u) (tk (tk f u) k) = true := by
  rw [eqB_iff]; intro i hi; simp only [tk]
  by_cases h1 : (i : Int) = k
  · by_cases h2 : (i : Int) = u
    · simp only [if_pos h1, if_pos h2]
    · simp only [if_pos h1, if_neg h2]
  · by_cases h2 : (i : Int) = u
    · simp only [if_neg h1, if_pos h2]
    · simp only [if_neg h1, if_neg h2]
theorem rem8 (n : Int) (h0 : 0 ≤ n) (h1 : n ≤ 255) : ∃ k : Nat, k < 8 ∧ (IntKind.i64.wrap n).tmod 8 = (k : Int) := by
  rw [IntWalk.i64_in _ (by omega), Int.tmod_eq_emod_of_nonneg h0]
  exact ⟨(n % 8).toNat, by omega, by omega⟩
/-! ### the walk -/
set_option maxRecDepth 100000 in
set_option maxHeartbeats 4000000 in
theorem ticks_walk (f : Nat → Int) (hf : ∀ i, i < 8 → 0 ≤ f i ∧ f i < 4294967296) (n m : Int) (hn : 0 ≤ n) (hn' : n ≤ 255) (hm : 0 ≤ m) (hm' : m ≤ 255) (w : World) :
    Calls Try.prog 6 #[.agg (vc f), .int .u8 n, .int .u8 m] w fun e w' => e = .returned (.bool true) ∧ Below w.heap.size w w' := by
  obtain ⟨k, hk, ek⟩ := rem8 n hn hn'
  obtain ⟨u, hu, eu⟩ := rem8 m hm hm'
  have HF := Lib.hid hf
  clear hf
  go_enter Try.func6, Try.ntmps6
  go_upto_region 1 with (fail)
  have A3 : (w.alloc (.cells (vc f) 23)).heap[w.heap.size]? = some (.cells (vc f) 23) := heap_alloc_new w _
  have hB : Below w.heap.size w (w.alloc (.cells (vc f) 23)) := (Below.refl _ _).alloc (Nat.le_refl _) _
  generalize w.alloc (.cells (vc f) 23) = W at *
  refine plain_all (fun w' => Below W.heap.size W w') (Below.refl _ _) ?_
  refine q_run rfl (fun K hK => ?_)
  refine q_call (Nat.le_refl _) awake (fun w' => ?_) ?_
  · first | (go_simp; done) | (go_simp; rfl)
  go_simp
  refine hK _ ?_
  clear hK K
  refine q_run rfl (fun K hK => ?_)
  refine q_value ?_ (fun w' h' => ?_) ?_
  rotate_left
  · go_simp; try with_reducible rfl
  go_simp
  refine hK _ ?_
  clear hK K
  refine wpQuiet_nil ?_
  intro w1 h1
  replace A3 := keep A3 h1
  replace hB := hB.trans (h1.mono hB.size)
  clear h1
  go_upto_region 3 with (fail)
  refine plain_all (fun w' => Below w1.heap.size w1 w') (Below.refl _ _) ?_
  refine q_run rfl (fun K hK => ?_)
  refine q_value ?_ (fun w' h' => ?_) ?_
  rotate_left
  · go_simp; try with_reducible rfl
  go_simp
  refine hK _ ?_
  clear hK K
  refine q_run rfl (fun K hK => ?_)
  refine q_value ?_ (fun w' h' => ?_) ?_
  rotate_left
  · go_simp; try with_reducible rfl
  go_simp
  refine hK _ ?_
  clear hK K
  refine q_run rfl (fun K hK => ?_)
  refine q_value ?_ (fun w' h' => ?_) ?_
  rotate_left
  · go_simp; try with_reducible rfl
  go_simp
  refine hK _ ?_
  clear hK K
  refine q_run rfl (fun K hK => ?_)
  refine q_value ?_ (fun w' h' => ?_) ?_
  rotate_left
  · go_simp; try with_reducible rfl
  go_simp
  refine hK _ ?_
  clear hK K
  refine q_run rfl (fun K hK => ?_)
  refine q_value ?_ (fun w' h' => ?_) ?_
  rotate_left
  · go_simp; try with_reducible rfl
  go_simp
  refine hK _ ?_
  clear hK K
  refine q_run rfl (fun K hK => ?_)
  refine q_value ?_ (fun w' h' => ?_) ?_
  rotate_left
  · go_simp; try with_reducible rfl
  go_simp
  refine hK _ ?_
  clear hK K
  refine q_run rfl (fun K hK => ?_)
  refine q_value ?_ (fun w' h' => ?_) ?_
  rotate_left
  · go_simp; try with_reducible rfl
  go_simp
  refine hK _ ?_
  clear hK K
  refine q_run rfl (fun K hK => ?_)
  refine q_value ?_ (fun w' h' => ?_) ?_
  rotate_left
  · go_simp; try with_reducible rfl
  go_simp
  refine hK _ ?_
  clear hK K
  refine wpQuiet_nil ?_
  intro w2 h2
  replace A3 := keep A3 h2
  replace hB := hB.trans (h2.mono hB.size)
  clear h2
  go_upto_region 4 with (fail)
  refine plain_head 1 (fun w' => Below w2.heap.size w2 w') (Below.refl _ _) ?_
  simp only [List.take_succ_cons, List.take_zero, List.drop_succ_cons, List.drop_zero]
  refine q_run rfl (fun K hK => ?_)
  refine q_load 23 (.tmp 3) rfl _ rfl _ (vc f) (0, 0) _ (fun w' h' => keep A3 h') Try.underlying23 rfl (by kernel_rfl) ?_
  go_simp
  refine hK _ ?_
  clear hK K
  refine wpQuiet_nil ?_
  intro w3 h3
  replace A3 := keep A3 h3
  replace hB := hB.trans (h3.mono hB.size)
  clear h3
  refine wl_alloc rfl 25 rfl _ _ zero25 rfl (fun w4 bX9 K4 h4 f4 K hK => ?_)
  go_simp
  refine hK _ _ ?_
  clear hK K
  have l4 : w3.heap.size = bX9 := f4.out.symm
  have NA3X9 : w.heap.size ≠ bX9 := by have := blk_lt A3; omega
  have z4 : w.heap.size ≤ bX9 := by have := hB.size; omega
  clear l4 f4
  replace A3 := keep A3 h4
  replace hB := hB.trans (h4.mono hB.size)
  clear h4
  have X9 := K4; clear K4; have ZX9 := z4; clear z4
  refine wl_store rfl 25 (.tmp 9) (.tmp 19) rfl bX9 (vc f) rfl rfl 25 _ X9 (by kernel_rfl) rfl (vc_one _) (fun w5 g5 m5 q5 s5 K hK => ?_)
  go_simp
  refine hK _ _ ?_
  clear hK K
  replace A3 := (m5 _ NA3X9).trans A3
  replace X9 := g5
  replace hB := hB.trans (q5 _ ZX9)
  clear g5 m5 q5 s5
  go_upto_region 5 with (fail)
  refine plain_head 3 (fun w' => Below w5.heap.size w5 w') (Below.refl _ _) ?_
  simp only [List.take_succ_cons, List.take_zero, List.drop_succ_cons, List.drop_zero]
  refine q_run rfl (fun K hK => ?_)
  refine q_load 25 (.tmp 9) rfl _ rfl _ (vc f) (0, 0) _ (fun w' h' => keep X9 h') Try.underlying25 rfl (by kernel_rfl) ?_
  go_simp
  refine hK _ ?_
  clear hK K
  refine q_run rfl (fun K hK => ?_)
  refine q_value ?_ (fun w' h' => ?_) ?_
  rotate_left
  · go_simp; try with_reducible rfl
  go_simp
  refine hK _ ?_
  clear hK K
  refine q_run rfl (fun K hK => ?_)
  refine q_call (Nat.le_refl _) (Tick f k) (fun w' => ?_) ?_
  · first | (go_simp; done) | (go_simp; rfl)
  go_simp
  refine hK _ ?_
  clear hK K
  refine wpQuiet_nil ?_
  intro w6 h6
  replace A3 := keep A3 h6
  replace X9 := keep X9 h6
  replace hB := hB.trans (h6.mono hB.size)
  clear h6
  refine wl_alloc rfl 25 rfl _ _ zero25 rfl (fun w7 bX10 K7 h7 f7 K hK => ?_)
  go_simp
  refine hK _ _ ?_
  clear hK K
  have l7 : w6.heap.size = bX10 := f7.out.symm
  have NA3X10 : w.heap.size ≠ bX10 := by have := blk_lt A3; omega
  have NX9X10 : bX9 ≠ bX10 := by have := blk_lt X9; omega
  have z7 : w.heap.size ≤ bX10 := by have := hB.size; omega
  clear l7 f7
  replace A3 := keep A3 h7
  replace X9 := keep X9 h7
  replace hB := hB.trans (h7.mono hB.size)
  clear h7
  have X10 := K7; clear K7; have ZX10 := z7; clear z7
  refine wl_store rfl 25 (.tmp 10) (.tmp 22) rfl bX10 (vc (tk f k)) rfl rfl 25 _ X10 (by kernel_rfl) rfl (vc_one _) (fun w8 g8 m8 q8 s8 K hK => ?_)
  go_simp
  refine hK _ _ ?_
  clear hK K
  replace A3 := (m8 _ NA3X10).trans A3
  replace X9 := (m8 _ NX9X10).trans X9
  replace X10 := g8
  replace hB := hB.trans (q8 _ ZX10)
  clear g8 m8 q8 s8
  go_upto_region 6 with (fail)
  have hk0 : (0 : Int) ≤ k := by omega
  have hk8 : (k : Int) < 8 := by omega
  by_cases hmax : f k = 4294967295
  · have t1 : (f k == 4294967295) = true := by simp [hmax]
    have t2 : (tk f (k : Int) k == 0) = true := by rw [tk_over hmax]; rfl
    have hKn := Knows f (tk f k)
    rw [kn_over HF.out hmax] at hKn
    clear hmax
    refine plain_all (fun w' => Below w8.heap.size w8 w') (Below.refl _ _) ?_
    refine q_run rfl (fun K hK => ?_)
    refine q_value ?_ (fun w' h' => ?_) ?_
    rotate_left
    · go_simp; try with_reducible rfl
    go_simp
    refine hK _ ?_
    clear hK K
    refine q_run rfl (fun K hK => ?_)
    refine q_value ?_ (fun w' h' => ?_) ?_
    rotate_left
    · go_simp; try with_reducible rfl
    go_simp
    refine hK _ ?_
    clear hK K
    refine q_run rfl (fun K hK => ?_)
    refine q_value ?_ (fun w' h' => ?_) ?_
    rotate_left
    · have c := cell_of_row w' _ k _ _ _ (keep A3 h'); rw [vc_at f k hk] at c; go_simp; try with_reducible rfl
    go_simp
    refine hK _ ?_
    clear hK K
    refine q_run rfl (fun K hK => ?_)
    refine q_value ?_ (fun w' h' => ?_) ?_
    rotate_left
    · go_simp; try with_reducible rfl
    go_simp
    refine hK _ ?_
    clear hK K
    refine wpQuiet_nil ?_
    intro w9 h9
    replace A3 := keep A3 h9
    replace X9 := keep X9 h9
    replace X10 := keep X10 h9
    replace hB := hB.trans (h9.mono hB.size)
    clear h9
    go_upto_region 7 with (fail)
    refine plain_all (fun w' => Below w9.heap.size w9 w') (Below.refl _ _) ?_
    refine q_run rfl (fun K hK => ?_)
    refine q_value ?_ (fun w' h' => ?_) ?_
    rotate_left
    · go_simp; try with_reducible rfl
    go_simp
    refine hK _ ?_
    clear hK K
    refine q_run rfl (fun K hK => ?_)
    refine q_value ?_ (fun w' h' => ?_) ?_
    rotate_left
    · go_simp; try with_reducible rfl
    go_simp
    refine hK _ ?_
    clear hK K
    refine q_run rfl (fun K hK => ?_)
    refine q_value ?_ (fun w' h' => ?_) ?_
    rotate_left
    · have c := cell_of_row w' _ k _ _ _ (keep X10 h'); rw [vc_at (tk f k) k hk] at c; go_simp; try with_reducible rfl
    go_simp
    refine hK _ ?_
    clear hK K
    refine q_run rfl (fun K hK => ?_)
    refine q_value ?_ (fun w' h' => ?_) ?_
    rotate_left
    · go_simp; try with_reducible rfl
    go_simp
    refine hK _ ?_
    clear hK K
    refine q_run rfl (fun K hK => ?_)
    refine q_value ?_ (fun w' h' => ?_) ?_
    rotate_left
    · go_simp; try with_reducible rfl
    go_simp
    refine hK _ ?_
    clear hK K
    refine q_run rfl (fun K hK => ?_)
    refine q_load 25 (.tmp 9) rfl _ rfl _ (vc f) (0, 0) _ (fun w' h' => keep X9 h') Try.underlying25 rfl (by kernel_rfl) ?_
    go_simp
    refine hK _ ?_
    clear hK K
    refine q_run rfl (fun K hK => ?_)
    refine q_load 25 (.tmp 10) rfl _ rfl _ (vc (tk f k)) (0, 0) _ (fun w' h' => keep X10 h') Try.underlying25 rfl (by kernel_rfl) ?_
    go_simp
    refine hK _ ?_
    clear hK K
    refine q_run rfl (fun K hK => ?_)
    refine q_call (Nat.le_refl _) hKn (fun w' => ?_) ?_
    · first | (go_simp; done) | (go_simp; rfl)
    go_simp
    refine hK _ ?_
    clear hK K
    refine q_run rfl (fun K hK => ?_)
    refine q_value ?_ (fun w' h' => ?_) ?_
    rotate_left
    · go_simp; try with_reducible rfl
    go_simp
    refine hK _ ?_
    clear hK K
    refine q_run rfl (fun K hK => ?_)
    refine q_value ?_ (fun w' h' => ?_) ?_
    rotate_left
    · go_simp; try with_reducible rfl
    go_simp
    refine hK _ ?_
    clear hK K
    refine wpQuiet_nil ?_
    intro w10 h10
    replace A3 := keep A3 h10
    replace X9 := keep X9 h10
    replace X10 := keep X10 h10
    replace hB := hB.trans (h10.mono hB.size)
    clear h10
    go_wp2
    go_ret
    exact ⟨rfl, hB⟩
  · have t1 : (f k == 4294967295) = false := by simp [hmax]
    have h1 := Ahead f (tk f k)
    rw [up_ah hk HF.out hmax] at h1
    have h2 := Knows (tk f k) f
    rw [up_kn hk HF.out hmax] at h2
    have h3 := Knows f (tk f k)
    rw [not_kn hk HF.out hmax] at h3
    have q1 := eql25 (tk (tk f k) u) (tk (tk f u) k)
    rw [tk_tk] at q1
    have q2 := eql25 (fun i => mx (f i) (tk f k i)) (tk f k)
    rw [up_join hk HF.out hmax] at q2
    have q3 := eql25 (fun i => mn (f i) (tk f k i)) f
    rw [up_meet hk HF.out hmax] at q3
    clear hmax
    refine plain_all (fun w' => Below w8.heap.size w8 w') (Below.refl _ _) ?_
    refine q_run rfl (fun K hK => ?_)
    refine q_value ?_ (fun w' h' => ?_) ?_
    rotate_left
    · go_simp; try with_reducible rfl
    go_simp
    refine hK _ ?_
    clear hK K
    refine q_run rfl (fun K hK => ?_)
    refine q_value ?_ (fun w' h' => ?_) ?_
    rotate_left
    · go_simp; try with_reducible rfl
    go_simp
    refine hK _ ?_
    clear hK K
    refine q_run rfl (fun K hK => ?_)
    refine q_value ?_ (fun w' h' => ?_) ?_
    rotate_left
    · have c := cell_of_row w' _ k _ _ _ (keep A3 h'); rw [vc_at f k hk] at c; go_simp; try with_reducible rfl
    go_simp
    refine hK _ ?_
    clear hK K
    refine q_run rfl (fun K hK => ?_)
    refine q_value ?_ (fun w' h' => ?_) ?_
    rotate_left
    · go_simp; try with_reducible rfl
    go_simp
    refine hK _ ?_
    clear hK K
    refine wpQuiet_nil ?_
    intro w9 h9
    replace A3 := keep A3 h9
    replace X9 := keep X9 h9
    replace X10 := keep X10 h9
    replace hB := hB.trans (h9.mono hB.size)
    clear h9
    go_upto_region 8 with (fail)
    refine quiet_all (fun w' => Below w9.heap.size w9 w') (by kernel_rfl) (by kernel_rfl) (Below.drew (Below.refl _ _)) ?_
    refine q_run rfl (fun K hK => ?_)
    refine q_load 25 (.tmp 9) rfl _ rfl _ (vc f) (0, 0) _ (fun w' h' => keep X9 h') Try.underlying25 rfl (by kernel_rfl) ?_
    go_simp
    refine hK _ ?_
    clear hK K
    refine q_run rfl (fun K hK => ?_)
    refine q_load 25 (.tmp 10) rfl _ rfl _ (vc (tk f k)) (0, 0) _ (fun w' h' => keep X10 h') Try.underlying25 rfl (by kernel_rfl) ?_
    go_simp
    refine hK _ ?_
    clear hK K
    refine q_run rfl (fun K hK => ?_)
    refine q_call (Nat.le_refl _) h1 (fun w' => ?_) ?_
    · first | (go_simp; done) | (go_simp; rfl)
    go_simp
    refine hK _ ?_
    clear hK K
    refine q_run rfl (fun K hK => ?_)
    refine q_value ?_ (fun w' h' => ?_) ?_
    rotate_left
    · go_simp; try with_reducible rfl
    go_simp
    refine hK _ ?_
    clear hK K
    refine q_run rfl (fun K hK => ?_)
    refine q_load 25 (.tmp 10) rfl _ rfl _ (vc (tk f k)) (0, 0) _ (fun w' h' => keep X10 h') Try.underlying25 rfl (by kernel_rfl) ?_
    go_simp
    refine hK _ ?_
    clear hK K
    refine q_run rfl (fun K hK => ?_)
    refine q_load 25 (.tmp 9) rfl _ rfl _ (vc f) (0, 0) _ (fun w' h' => keep X9 h') Try.underlying25 rfl (by kernel_rfl) ?_
    go_simp
    refine hK _ ?_
    clear hK K
    refine q_run rfl (fun K hK => ?_)
    refine q_call (Nat.le_refl _) h2 (fun w' => ?_) ?_
    · first | (go_simp; done) | (go_simp; rfl)
    go_simp
    refine hK _ ?_
    clear hK K
    refine q_run rfl (fun K hK => ?_)
    refine q_value ?_ (fun w' h' => ?_) ?_
    rotate_left
    · go_simp; try with_reducible rfl
    go_simp
    refine hK _ ?_
    clear hK K
    refine q_run rfl (fun K hK => ?_)
    refine q_value ?_ (fun w' h' => ?_) ?_
    rotate_left
    · go_simp; try with_reducible rfl
    go_simp
    refine hK _ ?_
    clear hK K
    refine q_run rfl (fun K hK => ?_)
    refine q_load 25 (.tmp 9) rfl _ rfl _ (vc f) (0, 0) _ (fun w' h' => keep X9 h') Try.underlying25 rfl (by kernel_rfl) ?_
    go_simp
    refine hK _ ?_
    clear hK K
    refine q_run rfl (fun K hK => ?_)
    refine q_load 25 (.tmp 10) rfl _ rfl _ (vc (tk f k)) (0, 0) _ (fun w' h' => keep X10 h') Try.underlying25 rfl (by kernel_rfl) ?_
    go_simp
    refine hK _ ?_
    clear hK K
    refine q_run rfl (fun K hK => ?_)
    refine q_call (Nat.le_refl _) h3 (fun w' => ?_) ?_
    · first | (go_simp; done) | (go_simp; rfl)
    go_simp
    refine hK _ ?_
    clear hK K
    refine q_run rfl (fun K hK => ?_)
    refine q_value ?_ (fun w' h' => ?_) ?_
    rotate_left
    · go_simp; try with_reducible rfl
    go_simp
    refine hK _ ?_
    clear hK K
    refine q_run rfl (fun K hK => ?_)
    refine q_value ?_ (fun w' h' => ?_) ?_
    rotate_left
    · go_simp; try with_reducible rfl
    go_simp
    refine hK _ ?_
    clear hK K
    refine q_run rfl (fun K hK => ?_)
    refine q_value ?_ (fun w' h' => ?_) ?_
    rotate_left
    · go_simp; try with_reducible rfl
    go_simp
    refine hK _ ?_
    clear hK K
    refine q_run rfl (fun K hK => ?_)
    refine q_load 25 (.tmp 9) rfl _ rfl _ (vc f) (0, 0) _ (fun w' h' => keep X9 h') Try.underlying25 rfl (by kernel_rfl) ?_
    go_simp
    refine hK _ ?_
    clear hK K
    refine q_run rfl (fun K hK => ?_)
    refine q_value ?_ (fun w' h' => ?_) ?_
    rotate_left
    · go_simp; try with_reducible rfl
    go_simp
    refine hK _ ?_
    clear hK K
    refine q_run rfl (fun K hK => ?_)
    refine q_call (Nat.le_refl _) (Tick f k) (fun w' => ?_) ?_
    · first | (go_simp; done) | (go_simp; rfl)
    go_simp
    refine hK _ ?_
    clear hK K
    refine q_run rfl (fun K hK => ?_)
    refine q_value ?_ (fun w' h' => ?_) ?_
    rotate_left
    · go_simp; try with_reducible rfl
    go_simp
    refine hK _ ?_
    clear hK K
    refine q_run rfl (fun K hK => ?_)
    refine q_call (Nat.le_refl _) (Tick (tk f k) u) (fun w' => ?_) ?_
    · first | (go_simp; done) | (go_simp; rfl)
    go_simp
    refine hK _ ?_
    clear hK K
    refine q_run rfl (fun K hK => ?_)
    refine q_load 25 (.tmp 9) rfl _ rfl _ (vc f) (0, 0) _ (fun w' h' => keep X9 h') Try.underlying25 rfl (by kernel_rfl) ?_
    go_simp
    refine hK _ ?_
    clear hK K
    refine q_run rfl (fun K hK => ?_)
    refine q_value ?_ (fun w' h' => ?_) ?_
    rotate_left
    · go_simp; try with_reducible rfl
    go_simp
    refine hK _ ?_
    clear hK K
    refine q_run rfl (fun K hK => ?_)
    refine q_call (Nat.le_refl _) (Tick f u) (fun w' => ?_) ?_
    · first | (go_simp; done) | (go_simp; rfl)
    go_simp
    refine hK _ ?_
    clear hK K
    refine q_run rfl (fun K hK => ?_)
    refine q_value ?_ (fun w' h' => ?_) ?_
    rotate_left
    · go_simp; try with_reducible rfl
    go_simp
    refine hK _ ?_
    clear hK K
    refine q_run rfl (fun K hK => ?_)
    refine q_call (Nat.le_refl _) (Tick (tk f u) k) (fun w' => ?_) ?_
    · first | (go_simp; done) | (go_simp; rfl)
    go_simp
    refine hK _ ?_
    clear hK K
    refine q_run rfl (fun K hK => ?_)
    refine q_value ?_ (fun w' h' => ?_) ?_
    rotate_left
    · go_simp; try with_reducible rfl
    go_simp
    refine hK _ ?_
    clear hK K
    refine q_run rfl (fun K hK => ?_)
    refine q_value ?_ (fun w' h' => ?_) ?_
    rotate_left
    · go_simp; try with_reducible rfl
    go_simp
    refine hK _ ?_
    clear hK K
    refine q_run rfl (fun K hK => ?_)
    refine q_value ?_ (fun w' h' => ?_) ?_
    rotate_left
    · go_simp; try with_reducible rfl
    go_simp
    refine hK _ ?_
    clear hK K
    refine q_run rfl (fun K hK => ?_)
    refine q_load 25 (.tmp 9) rfl _ rfl _ (vc f) (0, 0) _ (fun w' h' => keep X9 h') Try.underlying25 rfl (by kernel_rfl) ?_
    go_simp
    refine hK _ ?_
    clear hK K
    refine q_run rfl (fun K hK => ?_)
    refine q_load 25 (.tmp 10) rfl _ rfl _ (vc (tk f k)) (0, 0) _ (fun w' h' => keep X10 h') Try.underlying25 rfl (by kernel_rfl) ?_
    go_simp
    refine hK _ ?_
    clear hK K
    refine q_run rfl (fun K hK => ?_)
    refine q_call (Nat.le_refl _) (Join f (tk f k)) (fun w' => ?_) ?_
    · first | (go_simp; done) | (go_simp; rfl)
    go_simp
    refine hK _ ?_
    clear hK K
    refine q_run rfl (fun K hK => ?_)
    refine q_load 25 (.tmp 10) rfl _ rfl _ (vc (tk f k)) (0, 0) _ (fun w' h' => keep X10 h') Try.underlying25 rfl (by kernel_rfl) ?_
    go_simp
    refine hK _ ?_
    clear hK K
    refine q_run rfl (fun K hK => ?_)
    refine q_value ?_ (fun w' h' => ?_) ?_
    rotate_left
    · go_simp; try with_reducible rfl
    go_simp
    refine hK _ ?_
    clear hK K
    refine q_run rfl (fun K hK => ?_)
    refine q_value ?_ (fun w' h' => ?_) ?_
    rotate_left
    · go_simp; try with_reducible rfl
    go_simp
    refine hK _ ?_
    clear hK K
    refine q_run rfl (fun K hK => ?_)
    refine q_value ?_ (fun w' h' => ?_) ?_
    rotate_left
    · go_simp; try with_reducible rfl
    go_simp
    refine hK _ ?_
    clear hK K
    refine q_run rfl (fun K hK => ?_)
    refine q_load 25 (.tmp 9) rfl _ rfl _ (vc f) (0, 0) _ (fun w' h' => keep X9 h') Try.underlying25 rfl (by kernel_rfl) ?_
    go_simp
    refine hK _ ?_
    clear hK K
    refine q_run rfl (fun K hK => ?_)
    refine q_load 25 (.tmp 10) rfl _ rfl _ (vc (tk f k)) (0, 0) _ (fun w' h' => keep X10 h') Try.underlying25 rfl (by kernel_rfl) ?_
    go_simp
    refine hK _ ?_
    clear hK K
    refine q_run rfl (fun K hK => ?_)
    refine q_call (Nat.le_refl _) (Meet f (tk f k)) (fun w' => ?_) ?_
    · first | (go_simp; done) | (go_simp; rfl)
    go_simp
    refine hK _ ?_
    clear hK K
    refine q_run rfl (fun K hK => ?_)
    refine q_load 25 (.tmp 9) rfl _ rfl _ (vc f) (0, 0) _ (fun w' h' => keep X9 h') Try.underlying25 rfl (by kernel_rfl) ?_
    go_simp
    refine hK _ ?_
    clear hK K
    refine q_run rfl (fun K hK => ?_)
    refine q_value ?_ (fun w' h' => ?_) ?_
    rotate_left
    · go_simp; try with_reducible rfl
    go_simp
    refine hK _ ?_
    clear hK K
    refine q_run rfl (fun K hK => ?_)
    refine q_value ?_ (fun w' h' => ?_) ?_
    rotate_left
    · go_simp; try with_reducible rfl
    go_simp
    refine hK _ ?_
    clear hK K
    refine q_run rfl (fun K hK => ?_)
    refine q_value ?_ (fun w' h' => ?_) ?_
    rotate_left
    · go_simp; try with_reducible rfl
    go_simp
    refine hK _ ?_
    clear hK K
    refine wpQuiet_nil ?_
    intro w10 h10
    replace A3 := keep A3 h10
    replace X9 := keep X9 h10
    replace X10 := keep X10 h10
    replace hB := hB.trans (h10.mono hB.size)
    clear h10
    go_wp2
    go_ret
    exact ⟨rfl, hB⟩
end Go.Proofs.Ytfnaoaejbpeelaa
