/- The law AbsMeets, walked. -/
import Derived.Test.YtobkonbpcnmgpaaDoorOnce
namespace Go.Proofs.YtobkonbpcnmgpaaDoor
open Go.RowKit
set_option linter.unusedVariables false
set_option linter.unusedSimpArgs false
def A4 (m : Nat → Int) : Array Value := #[.int .i64 (m 0), .int .i64 (m 1), .int .i64 (m 2), .int .i64 (m 3)]
theorem a4_cell {w : World} {b q : Nat} {m : Nat → Int} (h : w.heap[b]? = some (.cells (A4 m) 53 (0, 0))) (hq : q < 4) : w.cell? ⟨b, q, none⟩ = some (.int .i64 (m q)) := by
  rw [cell_of_row w b q _ 53 _ h]
  have : q = 0 ∨ q = 1 ∨ q = 2 ∨ q = 3 := by omega
  rcases this with rfl | rfl | rfl | rfl <;> rfl
theorem a4_set (m : Nat → Int) (q : Nat) (hq : q < 4) (v : Int) : (A4 m).setIfInBounds q (.int .i64 v) = A4 (upF m q v) := by
  have : q = 0 ∨ q = 1 ∨ q = 2 ∨ q = 3 := by omega
  rcases this with rfl | rfl | rfl | rfl <;> rfl
theorem nm_keep {w w' : World} (h : NmW w) (e : w'.heap[0]? = w.heap[0]?) : NmW w' := fun i hi => (World.cell?_of_block e).trans (h i hi)
theorem wl_a4 {ops : Array Oper} {Q : Exit → Act → World → Prop} {rest : List Oper} {o : Oper} {a : Act} {w : World} (hgd : o.guard = none) (x y : Operand) (ho : o.op = .store 3 x y) (b q : Nat) (m : Nat → Int) (v : Int) (hq : q < 4) (hx : a.eval x = .pointer (some ⟨b, q, none⟩)) (hy : a.eval y = .int .i64 v) (hg : w.heap[b]? = some (.cells (A4 m) 53 (0, 0)))
    (hh : ∀ w', w'.heap[b]? = some (.cells (A4 (upF m q v)) 53 (0, 0)) → (∀ k, k ≠ b → w'.heap[k]? = w.heap[k]?) → (∀ B, B ≤ b → Below B w w') → ∀ K : Act → World → Prop, (∀ a w, wpList Tryd.prog ops Q rest a w → K a w) → K (a.put o.dst undef) w') : wpList Tryd.prog ops Q (o :: rest) a w := by
  refine wpList_plain hgd fun K hK => ?_
  have hc := a4_cell hg hq
  have hf := frozen_of_row w b q _ 53 hg
  have hsz := Tryd.sizeOf3
  have hst := st_int v w ⟨b, q, none⟩ _ hc hf
  unfold Oper.wp execOp
  simp only [ho, hx, hy, Instr.storeAt, Instr.sureAddr, Sem.run_bind, Sem.run_pure, Result.andThen_ok]
  have hsv : (storeVar 3 ⟨b, q, none⟩ (.int .i64 v)).run Tryd.prog w = .ok () (w.setCell ⟨b, q, none⟩ (.int .i64 v)) := by
    unfold storeVar
    have hv : (Value.int .i64 v).cells = #[.int .i64 v] := rfl
    simp only [Sem.run_bind, hsz, hv, Result.andThen_ok]
    simp [storeCells, add_off, hst]
  rw [hsv]
  exact hh _ (by rw [heap_setCell_same w b q _ 53 _ hg, a4_set m q hq]) (fun k hk => heap_setCell_other _ _ k _ hk) (fun B hB => (Below.refl B w).setCell (p := ⟨b, q, none⟩) hB _) K hK
section
variable {s : St} {q : Nat} {p a : Int}
theorem bar_s (h : s.o.n ≤ q) : barP s q p a = ⟨s, 4, true⟩ := if_pos h
variable (h : ¬ s.o.n ≤ q) (ha : a = s.o.n)
include h ha
theorem bar_0 (p1 : ¬ p = 1) (p2 : ¬ p = 2) (p3 : ¬ p = 3) : barP s q p a = ⟨s, 0, false⟩ := by
  unfold barP; rw [if_neg h, if_neg (not_not_intro ha), if_neg p1, if_neg p2, if_neg p3]
theorem bar_c1 (hc : s.left q < s.come q) : barP s q 1 a = ⟨s, 0, false⟩ := by
  unfold barP; rw [if_neg h, if_neg (not_not_intro ha), if_pos rfl, if_pos hc]
theorem bar_c2 (hc : ¬ s.left q < s.come q) : barP s q 1 a = ⟨{ s with come := upF s.come q (IntKind.i64.wrap (s.come q + 1)) }, 0, true⟩ := by
  unfold barP; rw [if_neg h, if_neg (not_not_intro ha), if_pos rfl, if_neg hc]
theorem bar_o1 (hc : closedB s = true) : barP s q 2 a = ⟨s, 0, false⟩ := by
  unfold barP; rw [if_neg h, if_neg (not_not_intro ha), if_neg (by omega), if_pos rfl, if_pos hc]
theorem bar_o2 (hc : ¬ closedB s = true) : barP s q 2 a = ⟨{ s with opened := IntKind.i64.wrap (s.opened + 1) }, 0, true⟩ := by
  unfold barP; rw [if_neg h, if_neg (not_not_intro ha), if_neg (by omega), if_pos rfl, if_neg hc]
theorem bar_l1 (hc : s.come q = s.left q) : barP s q 3 a = ⟨s, 0, false⟩ := by
  unfold barP; rw [if_neg h, if_neg (not_not_intro ha), if_neg (by omega), if_neg (by omega), if_pos rfl, if_pos hc]
theorem bar_l2 (hc : ¬ s.come q = s.left q) (hd : s.opened < s.come q) : barP s q 3 a = ⟨s, 0, false⟩ := by
  unfold barP; rw [if_neg h, if_neg (not_not_intro ha), if_neg (by omega), if_neg (by omega), if_pos rfl, if_neg hc, if_pos hd]
theorem bar_l3 (hc : ¬ s.come q = s.left q) (hd : ¬ s.opened < s.come q) : barP s q 3 a = ⟨{ s with left := upF s.left q (IntKind.i64.wrap (s.left q + 1)) }, 0, true⟩ := by
  unfold barP; rw [if_neg h, if_neg (not_not_intro ha), if_neg (by omega), if_neg (by omega), if_pos rfl, if_neg hc, if_neg hd]
end
set_option maxRecDepth 100000 in
set_option maxHeartbeats 8000000 in
theorem meets_walk (nn : Int) (hn : 0 ≤ nn ∧ nn ≤ 255) (V : Option Addr) (nc cc : Nat) (f : Nat → Int) (w : World) (hV : U8s w V nc f) (hN : NmW w) : Calls Tryd.prog 9 #[.int .u8 nn, .slice V nc cc] w fun e w' => e = .returned (.bool true) ∧ Below w.heap.size w w' := by
  by_cases hl : 200 < nc
  · have hl' : 200 < (nc : Int) := by omega
    go_enter Tryd.func9, Tryd.ntmps9
    go_wp2_with fail
    refine (awake w hN).mono ?_
    rintro e w1 ⟨rfl, hb1⟩
    go_wp2_with fail
    refine (awake w1 (hN.below hb1)).mono ?_
    rintro e w2 ⟨rfl, hb2⟩
    go_wp2
    go_ret
    exact ⟨rfl, hb1.trans (hb2.mono hb1.size)⟩
  have hl' : ¬ (200 < (nc : Int)) := by omega
  obtain ⟨a, ha⟩ : ∃ a, a = 1 + nn % 4 := ⟨_, rfl⟩
  have ha1 : 1 ≤ a ∧ a ≤ 4 := by omega
  have hrb : rb ⟨13, a, 0, 0⟩ 4 = true := decide_eq_true ⟨by omega, by omega, .inr (.inr (.inr (.inr (.inl ⟨rfl, by simp only; omega, by simp only; omega, rfl, rfl⟩))))⟩
  go_enter Tryd.func9, Tryd.ntmps9
  go_wp2_with fail
  refine (awake w hN).mono ?_
  rintro e w1 ⟨rfl, hb1⟩
  go_wp2_with fail
  rw [← ha]
  clear ha
  have hb2 := (Below.refl w1.heap.size w1).alloc (Nat.le_refl _) (.cells #[.int .i64 13, .int .i64 a, .int .i64 0, .int .i64 0] 48)
  have X7 := heap_alloc_new w1 (.cells #[.int .i64 13, .int .i64 a, .int .i64 0, .int .i64 0] 48)
  have hO := objs1 (w1.alloc (.cells #[.int .i64 13, .int .i64 a, .int .i64 0, .int .i64 0] 48)) ⟨13, a, 0, 0⟩
  have hs : (w1.alloc (.cells #[.int .i64 13, .int .i64 a, .int .i64 0, .int .i64 0] 48)).heap.size = w1.heap.size + 1 := by simp
  rw [hs] at hO
  have hb3 := hb2.alloc (by omega) (.cells #[.int .i64 13, .int .i64 a, .int .i64 0, .int .i64 0] 48)
  replace X7 := keep X7 ((Below.refl _ _).alloc (Nat.le_refl _) (.cells #[.int .i64 13, .int .i64 a, .int .i64 0, .int .i64 0] 48))
  have hal := hb1.trans (hb3.mono hb1.size)
  refine (new1 ⟨13, a, 0, 0⟩ 4 hrb (by omega) _ 1 _ hO (hN.below hal)).mono ?_
  rintro e w3 ⟨bM, g, cap, rfl, hM, hgM, hzM, hbn⟩
  have hz7 : w1.heap.size < g := by simp at hzM; omega
  have hz : w.heap.size ≤ g := by have := hb1.size; omega
  replace X7 := keep X7 hbn
  replace hal := hal.trans (hbn.mono hal.size)
  obtain ⟨b7, hb7⟩ : ∃ b, b = w1.heap.size := ⟨_, rfl⟩
  rw [← hb7] at X7 hz7 ⊢
  clear hb1 hb2 hb3 hO hs hzM hbn hb7
  go_upto_region 9 with (fail)
  obtain ⟨W, b8, b9, e0, e1, e2, X8, X9, hbz⟩ := box2 w3 (A4 fun _ => 0) (A4 fun _ => 0) 53 53
  have hg3 := hM.row.lt
  have hz8 : w.heap.size ≤ b8 := by have := hal.size; omega
  have hz9 : w.heap.size ≤ b9 := by have := hal.size; omega
  have hn8 : b8 ≠ g := by omega
  have hn9 : b9 ≠ g := by omega
  have hn89 : b8 ≠ b9 := by omega
  have hn87 : b7 ≠ b8 := by omega
  have hn97 : b7 ≠ b9 := by omega
  have h8M : bM ≠ b8 := by have := blk_lt hM.mac; omega
  have h9M : bM ≠ b9 := by have := blk_lt hM.mac; omega
  unfold A4 at e0
  rw [e0, e2, e1]
  clear e0 e2 e1 hg3
  replace X7 := keep X7 hbz
  replace hM := hM.below hbz
  replace hal := hal.trans (hbz.mono hal.size)
  clear hbz
  go_loopw [10] (fun v wr => ∃ (i : Nat) (cm lf : Nat → Int) (op : Int), v = .int .i64 i ∧ i ≤ nc ∧ (∀ t, t < 4 → 0 ≤ lf t ∧ lf t ≤ cm t ∧ cm t ≤ lf t + 1 ∧ cm t ≤ i) ∧ (∀ t : Nat, (t : Int) < a → op ≤ cm t) ∧ 0 ≤ op ∧ Mac wr bM g 1 cap 4 (fun _ => { initS ⟨13, a, 0, 0⟩ with come := cm, opened := op, left := lf }) ∧ wr.heap[b7]? = some (.cells #[.int .i64 13, .int .i64 a, .int .i64 0, .int .i64 0] 48 (0, 0)) ∧ wr.heap[b8]? = some (.cells (A4 cm) 53 (0, 0)) ∧ wr.heap[b9]? = some (.cells (A4 lf) 53 (0, 0)) ∧ Below w.heap.size w wr) (fun v _ => nc - (intOf v).toNat)
  case atStart => exact ⟨0, fun _ => 0, fun _ => 0, 0, rfl, Nat.zero_le _, fun t _ => by simp, fun t _ => by simp, by omega, hM, X7, X8, X9, hal⟩
  case round =>
    obtain ⟨i, cm, lf, op, rfl, hi, hI, hop, hop0, hM, X7, X8, X9, hal⟩ := hrel
    by_cases hlt : i < nc
    case neg =>
      obtain rfl : i = nc := by omega
      have hl1 : ¬ ((i : Int) < i) := by omega
      go_wp2
      go_ret
      exact ⟨rfl, hal⟩
    have hl0 : (0 : Int) ≤ i := by omega
    have hl1 : (i : Int) < nc := by omega
    obtain ⟨bV, oV, rfl⟩ := u8_ptr hV (by omega)
    obtain ⟨_, hx0, hx1⟩ := at_u8 (hV.below hal) hlt
    have hcV := fun w' (h' : Below wr.heap.size wr w') => (at_u8 ((hV.below hal).below h') hlt).1
    generalize f i = xv at *
    go_upto_region 11 with (fail)
    obtain ⟨d, u, p, d1, d2, d3, d4, d5, hu0, hu1, he0, he1⟩ := ask_nums xv 4 4 4 ⟨hx0, hx1⟩ (by omega) (by omega) (by omega)
    obtain ⟨q, rfl⟩ : ∃ q : Nat, u = q := ⟨u.toNat, by omega⟩
    have hq : q < 4 := by omega
    have hwa : IntKind.u32.wrap a = a := by simp [IntKind.wrap, IntKind.bits, IntKind.signed]; omega
    refine grow_head 17 (fun w' => Below wr.heap.size wr w') (by kernel_rfl) (by kernel_rfl) (by decide) (by kernel_rfl) ?_
    simp only [List.take_succ_cons, List.take_zero]
    refine g_run rfl ?_ (fun w' h' => ga_value ?_) (fun K hK => ?_)
    rotate_left
    · go_simp; try with_reducible rfl
    go_simp
    refine hK _ ?_
    clear hK K
    refine g_run rfl ?_ (fun w' h' => ga_value ?_) (fun K hK => ?_)
    rotate_left
    · go_simp; try with_reducible rfl
    go_simp
    refine hK _ ?_
    clear hK K
    refine g_run rfl ?_ (fun w' h' => ga_value ?_) (fun K hK => ?_)
    rotate_left
    · go_simp; try with_reducible rfl
    go_simp
    refine hK _ ?_
    clear hK K
    refine g_run rfl ?_ (fun w' h' => ga_value ?_) (fun K hK => ?_)
    rotate_left
    · have c := hcV w' h'; go_simp; try with_reducible rfl
    go_simp
    refine hK _ ?_
    clear hK K
    refine g_run rfl ?_ (fun w' h' => ga_value ?_) (fun K hK => ?_)
    rotate_left
    · go_simp; try with_reducible rfl
    go_simp
    refine hK _ ?_
    clear hK K
    refine g_run rfl ?_ (fun w' h' => ga_value ?_) (fun K hK => ?_)
    rotate_left
    · go_simp; try with_reducible rfl
    go_simp
    refine hK _ ?_
    clear hK K
    refine g_run rfl ?_ (fun w' h' => ga_value ?_) (fun K hK => ?_)
    rotate_left
    · go_simp; try with_reducible rfl
    go_simp
    refine hK _ ?_
    clear hK K
    refine g_run rfl ?_ (fun w' h' => ga_value ?_) (fun K hK => ?_)
    rotate_left
    · go_simp; try with_reducible rfl
    go_simp
    refine hK _ ?_
    clear hK K
    refine g_run rfl ?_ (fun w' h' => ga_value ?_) (fun K hK => ?_)
    rotate_left
    · go_simp; try with_reducible rfl
    go_simp
    refine hK _ ?_
    clear hK K
    refine g_run rfl ?_ (fun w' h' => ga_value ?_) (fun K hK => ?_)
    rotate_left
    · go_simp; try with_reducible rfl
    go_simp
    refine hK _ ?_
    clear hK K
    refine g_run rfl ?_ (fun w' h' => ga_value ?_) (fun K hK => ?_)
    rotate_left
    · have c := hcV w' h'; go_simp; try with_reducible rfl
    go_simp
    refine hK _ ?_
    clear hK K
    refine g_run rfl ?_ (fun w' h' => ga_value ?_) (fun K hK => ?_)
    rotate_left
    · go_simp; try with_reducible rfl
    go_simp
    refine hK _ ?_
    clear hK K
    refine g_run rfl ?_ (fun w' h' => ga_value ?_) (fun K hK => ?_)
    rotate_left
    · go_simp; try with_reducible rfl
    go_simp
    refine hK _ ?_
    clear hK K
    refine g_run rfl ?_ (fun w' h' => ga_value ?_) (fun K hK => ?_)
    rotate_left
    · go_simp; try with_reducible rfl
    go_simp
    refine hK _ ?_
    clear hK K
    refine g_run rfl ?_ (fun w' h' => ga_value ?_) (fun K hK => ?_)
    rotate_left
    · have c := cell_of_row w' b7 1 _ 48 _ (keep X7 h'); go_simp; try with_reducible rfl
    go_simp
    refine hK _ ?_
    clear hK K
    refine g_run rfl ?_ (fun w' h' => ga_value ?_) (fun K hK => ?_)
    rotate_left
    · go_simp; try with_reducible rfl
    go_simp
    refine hK _ ?_
    clear hK K
    refine g_run rfl ?_ (fun w' h' => ga_value ?_) (fun K hK => ?_)
    rotate_left
    · go_simp; try with_reducible rfl
    go_simp
    refine hK _ ?_
    clear hK K
    refine g_nil ?_
    show anyG _ _ _ _ _ _ _ _ _
    have q0 : Below wr.heap.size wr wr.drew := Below.drew (Below.refl _ _)
    refine anyG_ready [17] (by kernel_rfl) (by simp) (fun v1 r1 => ⟨q0.trans (r1.mono q0.size), ?_⟩)
    have q1 := q0.trans (r1.mono q0.size)
    intro j hj
    simp only [List.mem_cons, List.not_mem_nil, or_false] at hj
    subst hj
    refine op_alloc rfl rfl 34 rfl (.agg #[.int .i64 0, .int .i64 0, .int .i64 0, .int .i64 0, .int .u32 0, .int .u32 0]) #[.int .i64 0, .int .i64 0, .int .i64 0, .int .i64 0, .int .u32 0, .int .u32 0] (fun w => by kernel_rfl) rfl (fun v2 b12 X12 l1 f1 => ?_)
    have zb : wr.heap.size ≤ b12 := by have := q1.size; have := f1.out; omega
    have q2 := q1.trans (l1.mono q1.size)
    refine anyG_ready [18] (by kernel_rfl) (by simp) (fun v3 r3 => ⟨q2.trans (r3.mono q2.size), ?_⟩)
    have q3 := q2.trans (r3.mono q2.size)
    replace X12 := keep X12 r3
    intro j hj
    simp only [List.mem_cons, List.not_mem_nil, or_false] at hj
    subst hj
    trace_state
    refine op_store rfl rfl 34 (.tmp 11) (.tmp 62) rfl b12 #[.int .i64 q, .int .i64 0, .int .i64 9, .int .i64 p, .int .u32 a, .int .u32 0] rfl rfl 34 _ X12 (by kernel_rfl) rfl (by simp [Value.oneCell']) (fun v4 p1 m1 p2 => ?_)
    have q4 := q3.trans (p2 _ zb)
    refine anyG_end (by kernel_rfl) (fun w5 r5 => ⟨q4.trans (r5.mono q4.size), ?_⟩)
    have hbg := q4.trans (r5.mono q4.size)
    replace X12 := keep p1 r5
    clear q0 q1 q2 q3 q4 l1 f1 r1 r3 r5 p1 p2 m1 zb
    clear d1 d2 d3 d4 d5 hcV hx0 hx1 hwa
    replace hM := hM.below hbg
    replace X7 := keep X7 hbg
    replace X8 := keep X8 hbg
    replace X9 := keep X9 hbg
    have hn7 : b7 ≠ g := by omega
    replace hal := hal.trans (hbg.mono hal.size)
    have hn12 : b12 ≠ g := by intro e; subst e; obtain ⟨cs, h5, _⟩ := hM.row; rw [h5] at X12; simp at X12
    clear hbg
    have hmay : mayS ⟨13, a, 0, 0⟩ 9 4 q = true := by
      unfold mayS
      rw [if_pos ⟨hu0, hu1, hrb⟩]
      show may 13 9 = true
      decide
    have hgo : goP 4 { initS ⟨13, a, 0, 0⟩ with come := cm, opened := op, left := lf } ⟨q, 0, 9, p, a, 0⟩ = barP { initS ⟨13, a, 0, 0⟩ with come := cm, opened := op, left := lf } q p a := by
      rw [go13 rfl hmay]; simp only [Int.toNat_natCast]
    clear hmay
    have hIq := hI q hq
    go_upto_region 12 with (fail)
    by_cases hqa : a ≤ (q : Int)
    · replace hgo : goP 4 { initS ⟨13, a, 0, 0⟩ with come := cm, opened := op, left := lf } ⟨q, 0, 9, p, a, 0⟩ = ⟨{ initS ⟨13, a, 0, 0⟩ with come := cm, opened := op, left := lf }, 4, true⟩ := by
        rw [hgo]; exact bar_s hqa
      refine wp_region_lit ?_
      iterate 1
        refine wl_val rfl ?_ ?_ ?_
        rotate_left
        · go_simp; try with_reducible rfl
        intro K hK
        go_simp
        refine hK _ _ ?_
        clear hK K
      refine wl_load rfl 34 (.tmp 11) rfl _ rfl _ _ _ _ X12 Tryd.underlying34 rfl (by kernel_rfl) ?_
      intro K hK
      go_simp
      refine hK _ _ ?_
      clear hK K
      have hcall := do1 ({ initS ⟨13, a, 0, 0⟩ with come := cm, opened := op, left := lf }) bM g cap 4 (by omega) ⟨q, 0, 9, p, a, 0⟩ rfl (by simp only; omega) (by simp [initS]) w5 hM
      rw [hgo] at hcall
      refine wl_call rfl 14 #[.pointer (some ⟨bM, 0, none⟩), akV ⟨q, 0, 9, p, a, 0⟩] (ansV 4 none 0 0 true) _ ?_ hcall (fun w6 h6 => ?_)
      · unfold akV akC; first | (go_simp; done) | (go_simp; rfl)
      intro K hK
      go_simp
      refine hK _ _ ?_
      clear hK K
      clear hcall
      unfold ansV
      obtain ⟨hM6, hE6⟩ := h6
      simp only at hM6
      iterate 3
        refine wl_val rfl ?_ ?_ ?_
        rotate_left
        · go_simp; try with_reducible rfl
        intro K hK
        go_simp
        refine hK _ _ ?_
        clear hK K
      refine wl_alloc rfl 38 rfl (.agg #[.int .u32 0, .slice none 0 0]) #[.int .u32 0, .slice none 0 0] (fun w => by kernel_rfl) rfl (fun w7 b13 X13 l7 f7 => ?_)
      intro K hK
      go_simp
      refine hK _ _ ?_
      clear hK K
      refine wl_store rfl 38 (.tmp 12) (.tmp 67) rfl b13 #[.int .u32 4, .slice none 0 0] rfl rfl 38 _ X13 (by kernel_rfl) rfl (by simp [Value.oneCell']) (fun w8 k1 k2 k3 k4 => ?_)
      intro K hK
      go_simp
      refine hK _ _ ?_
      clear hK K
      refine wl_val rfl (.bool true) ?_ ?_
      · go_simp
      intro K hK
      go_simp
      refine hK _ _ ?_
      clear hK K
      have hb8 : Below w6.heap.size w6 w8 := l7.trans (k3 _ (by simp only [Hid] at f7; omega))
      clear X13 l7 f7 k2 k3 k4
      replace X7 := keep ((hE6.blk b7 (blk_lt X7) hn7).trans X7) hb8
      replace X8 := keep ((hE6.blk b8 (blk_lt X8) hn8).trans X8) hb8
      replace X9 := keep ((hE6.blk b9 (blk_lt X9) hn9).trans X9) hb8
      replace X12 := keep ((hE6.blk b12 (blk_lt X12) hn12).trans X12) hb8
      replace hM := hM6.below hb8
      replace hal := hal.trans (hE6.low _ hz hal.size)
      replace hal := hal.trans (hb8.mono hal.size)
      clear hM6 hE6 hb8 hgo
      have y120 := cell_of_row w8 b12 0 _ 34 _ X12
      have y123 := cell_of_row w8 b12 3 _ 34 _ X12
      have y13 := cell_of_row w8 b13 0 _ 38 _ k1
      have y7 := cell_of_row w8 b7 1 _ 48 _ X7
      have y8 := a4_cell X8 hq
      have y9 := a4_cell X9 hq
      go_wp2
      go_roundw
      case rel => exact ⟨i + 1, cm, lf, op, by go_num, by omega, fun t ht => by have := hI t ht; omega, hop, by omega, hM, X7, X8, X9, hal⟩
      case measure => simp [intOf]; omega
    · have hp4 : p = 0 ∨ p = 1 ∨ p = 2 ∨ p = 3 := by omega
      rcases hp4 with rfl | rfl | rfl | rfl
      · replace hgo : goP 4 { initS ⟨13, a, 0, 0⟩ with come := cm, opened := op, left := lf } ⟨q, 0, 9, 0, a, 0⟩ = ⟨{ initS ⟨13, a, 0, 0⟩ with come := cm, opened := op, left := lf }, 0, false⟩ := by
          rw [hgo]; exact bar_0 hqa rfl (by omega) (by omega) (by omega)
        refine wp_region_lit ?_
        iterate 1
          refine wl_val rfl ?_ ?_ ?_
          rotate_left
          · go_simp; try with_reducible rfl
          intro K hK
          go_simp
          refine hK _ _ ?_
          clear hK K
        refine wl_load rfl 34 (.tmp 11) rfl _ rfl _ _ _ _ X12 Tryd.underlying34 rfl (by kernel_rfl) ?_
        intro K hK
        go_simp
        refine hK _ _ ?_
        clear hK K
        have hcall := do1 ({ initS ⟨13, a, 0, 0⟩ with come := cm, opened := op, left := lf }) bM g cap 4 (by omega) ⟨q, 0, 9, 0, a, 0⟩ rfl (by simp only; omega) (by simp [initS]) w5 hM
        rw [hgo] at hcall
        refine wl_call rfl 14 #[.pointer (some ⟨bM, 0, none⟩), akV ⟨q, 0, 9, 0, a, 0⟩] (ansV 0 none 0 0 false) _ ?_ hcall (fun w6 h6 => ?_)
        · unfold akV akC; first | (go_simp; done) | (go_simp; rfl)
        intro K hK
        go_simp
        refine hK _ _ ?_
        clear hK K
        clear hcall
        unfold ansV
        obtain ⟨hM6, hE6⟩ := h6
        simp only at hM6
        iterate 3
          refine wl_val rfl ?_ ?_ ?_
          rotate_left
          · go_simp; try with_reducible rfl
          intro K hK
          go_simp
          refine hK _ _ ?_
          clear hK K
        refine wl_alloc rfl 38 rfl (.agg #[.int .u32 0, .slice none 0 0]) #[.int .u32 0, .slice none 0 0] (fun w => by kernel_rfl) rfl (fun w7 b13 X13 l7 f7 => ?_)
        intro K hK
        go_simp
        refine hK _ _ ?_
        clear hK K
        refine wl_store rfl 38 (.tmp 12) (.tmp 67) rfl b13 #[.int .u32 0, .slice none 0 0] rfl rfl 38 _ X13 (by kernel_rfl) rfl (by simp [Value.oneCell']) (fun w8 k1 k2 k3 k4 => ?_)
        intro K hK
        go_simp
        refine hK _ _ ?_
        clear hK K
        refine wl_val rfl (.bool false) ?_ ?_
        · go_simp
        intro K hK
        go_simp
        refine hK _ _ ?_
        clear hK K
        have hb8 : Below w6.heap.size w6 w8 := l7.trans (k3 _ (by simp only [Hid] at f7; omega))
        clear X13 l7 f7 k2 k3 k4
        replace X7 := keep ((hE6.blk b7 (blk_lt X7) hn7).trans X7) hb8
        replace X8 := keep ((hE6.blk b8 (blk_lt X8) hn8).trans X8) hb8
        replace X9 := keep ((hE6.blk b9 (blk_lt X9) hn9).trans X9) hb8
        replace X12 := keep ((hE6.blk b12 (blk_lt X12) hn12).trans X12) hb8
        replace hM := hM6.below hb8
        replace hal := hal.trans (hE6.low _ hz hal.size)
        replace hal := hal.trans (hb8.mono hal.size)
        clear hM6 hE6 hb8 hgo
        have y120 := cell_of_row w8 b12 0 _ 34 _ X12
        have y123 := cell_of_row w8 b12 3 _ 34 _ X12
        have y13 := cell_of_row w8 b13 0 _ 38 _ k1
        have y7 := cell_of_row w8 b7 1 _ 48 _ X7
        have y8 := a4_cell X8 hq
        have y9 := a4_cell X9 hq
        go_wp2
        go_roundw
        case rel => exact ⟨i + 1, cm, lf, op, by go_num, by omega, fun t ht => by have := hI t ht; omega, hop, by omega, hM, X7, X8, X9, hal⟩
        case measure => simp [intOf]; omega
      · by_cases hc : lf q < cm q
        · replace hgo : goP 4 { initS ⟨13, a, 0, 0⟩ with come := cm, opened := op, left := lf } ⟨q, 0, 9, 1, a, 0⟩ = ⟨{ initS ⟨13, a, 0, 0⟩ with come := cm, opened := op, left := lf }, 0, false⟩ := by
            rw [hgo]; exact bar_c1 hqa rfl hc
          refine wp_region_lit ?_
          iterate 1
            refine wl_val rfl ?_ ?_ ?_
            rotate_left
            · go_simp; try with_reducible rfl
            intro K hK
            go_simp
            refine hK _ _ ?_
            clear hK K
          refine wl_load rfl 34 (.tmp 11) rfl _ rfl _ _ _ _ X12 Tryd.underlying34 rfl (by kernel_rfl) ?_
          intro K hK
          go_simp
          refine hK _ _ ?_
          clear hK K
          have hcall := do1 ({ initS ⟨13, a, 0, 0⟩ with come := cm, opened := op, left := lf }) bM g cap 4 (by omega) ⟨q, 0, 9, 1, a, 0⟩ rfl (by simp only; omega) (by simp [initS]) w5 hM
          rw [hgo] at hcall
          refine wl_call rfl 14 #[.pointer (some ⟨bM, 0, none⟩), akV ⟨q, 0, 9, 1, a, 0⟩] (ansV 0 none 0 0 false) _ ?_ hcall (fun w6 h6 => ?_)
          · unfold akV akC; first | (go_simp; done) | (go_simp; rfl)
          intro K hK
          go_simp
          refine hK _ _ ?_
          clear hK K
          clear hcall
          unfold ansV
          obtain ⟨hM6, hE6⟩ := h6
          simp only at hM6
          iterate 3
            refine wl_val rfl ?_ ?_ ?_
            rotate_left
            · go_simp; try with_reducible rfl
            intro K hK
            go_simp
            refine hK _ _ ?_
            clear hK K
          refine wl_alloc rfl 38 rfl (.agg #[.int .u32 0, .slice none 0 0]) #[.int .u32 0, .slice none 0 0] (fun w => by kernel_rfl) rfl (fun w7 b13 X13 l7 f7 => ?_)
          intro K hK
          go_simp
          refine hK _ _ ?_
          clear hK K
          refine wl_store rfl 38 (.tmp 12) (.tmp 67) rfl b13 #[.int .u32 0, .slice none 0 0] rfl rfl 38 _ X13 (by kernel_rfl) rfl (by simp [Value.oneCell']) (fun w8 k1 k2 k3 k4 => ?_)
          intro K hK
          go_simp
          refine hK _ _ ?_
          clear hK K
          refine wl_val rfl (.bool false) ?_ ?_
          · go_simp
          intro K hK
          go_simp
          refine hK _ _ ?_
          clear hK K
          have hb8 : Below w6.heap.size w6 w8 := l7.trans (k3 _ (by simp only [Hid] at f7; omega))
          clear X13 l7 f7 k2 k3 k4
          replace X7 := keep ((hE6.blk b7 (blk_lt X7) hn7).trans X7) hb8
          replace X8 := keep ((hE6.blk b8 (blk_lt X8) hn8).trans X8) hb8
          replace X9 := keep ((hE6.blk b9 (blk_lt X9) hn9).trans X9) hb8
          replace X12 := keep ((hE6.blk b12 (blk_lt X12) hn12).trans X12) hb8
          replace hM := hM6.below hb8
          replace hal := hal.trans (hE6.low _ hz hal.size)
          replace hal := hal.trans (hb8.mono hal.size)
          clear hM6 hE6 hb8 hgo
          have y120 := cell_of_row w8 b12 0 _ 34 _ X12
          have y123 := cell_of_row w8 b12 3 _ 34 _ X12
          have y13 := cell_of_row w8 b13 0 _ 38 _ k1
          have y7 := cell_of_row w8 b7 1 _ 48 _ X7
          have y8 := a4_cell X8 hq
          have y9 := a4_cell X9 hq
          go_wp2
          go_roundw
          case rel => exact ⟨i + 1, cm, lf, op, by go_num, by omega, fun t ht => by have := hI t ht; omega, hop, by omega, hM, X7, X8, X9, hal⟩
          case measure => simp [intOf]; omega
        · have hwr : IntKind.i64.wrap (cm q + 1) = cm q + 1 := by simp only [IntKind.wrap_i64]; omega
          replace hgo : goP 4 { initS ⟨13, a, 0, 0⟩ with come := cm, opened := op, left := lf } ⟨q, 0, 9, 1, a, 0⟩ = ⟨{ initS ⟨13, a, 0, 0⟩ with come := upF cm q (cm q + 1), opened := op, left := lf }, 0, true⟩ := by
            rw [hgo]; have hx := bar_c2 (s := { initS ⟨13, a, 0, 0⟩ with come := cm, opened := op, left := lf }) (q := q) hqa rfl hc
            rw [show IntKind.i64.wrap (({ initS ⟨13, a, 0, 0⟩ with come := cm, opened := op, left := lf } : St).come q + 1) = cm q + 1 from hwr] at hx
            exact hx
          refine wp_region_lit ?_
          iterate 1
            refine wl_val rfl ?_ ?_ ?_
            rotate_left
            · go_simp; try with_reducible rfl
            intro K hK
            go_simp
            refine hK _ _ ?_
            clear hK K
          refine wl_load rfl 34 (.tmp 11) rfl _ rfl _ _ _ _ X12 Tryd.underlying34 rfl (by kernel_rfl) ?_
          intro K hK
          go_simp
          refine hK _ _ ?_
          clear hK K
          have hcall := do1 ({ initS ⟨13, a, 0, 0⟩ with come := cm, opened := op, left := lf }) bM g cap 4 (by omega) ⟨q, 0, 9, 1, a, 0⟩ rfl (by simp only; omega) (by simp [initS]) w5 hM
          rw [hgo] at hcall
          refine wl_call rfl 14 #[.pointer (some ⟨bM, 0, none⟩), akV ⟨q, 0, 9, 1, a, 0⟩] (ansV 0 none 0 0 true) _ ?_ hcall (fun w6 h6 => ?_)
          · unfold akV akC; first | (go_simp; done) | (go_simp; rfl)
          intro K hK
          go_simp
          refine hK _ _ ?_
          clear hK K
          clear hcall
          unfold ansV
          obtain ⟨hM6, hE6⟩ := h6
          simp only at hM6
          iterate 3
            refine wl_val rfl ?_ ?_ ?_
            rotate_left
            · go_simp; try with_reducible rfl
            intro K hK
            go_simp
            refine hK _ _ ?_
            clear hK K
          refine wl_alloc rfl 38 rfl (.agg #[.int .u32 0, .slice none 0 0]) #[.int .u32 0, .slice none 0 0] (fun w => by kernel_rfl) rfl (fun w7 b13 X13 l7 f7 => ?_)
          intro K hK
          go_simp
          refine hK _ _ ?_
          clear hK K
          refine wl_store rfl 38 (.tmp 12) (.tmp 67) rfl b13 #[.int .u32 0, .slice none 0 0] rfl rfl 38 _ X13 (by kernel_rfl) rfl (by simp [Value.oneCell']) (fun w8 k1 k2 k3 k4 => ?_)
          intro K hK
          go_simp
          refine hK _ _ ?_
          clear hK K
          refine wl_val rfl (.bool true) ?_ ?_
          · go_simp
          intro K hK
          go_simp
          refine hK _ _ ?_
          clear hK K
          have hb8 : Below w6.heap.size w6 w8 := l7.trans (k3 _ (by simp only [Hid] at f7; omega))
          clear X13 l7 f7 k2 k3 k4
          replace X7 := keep ((hE6.blk b7 (blk_lt X7) hn7).trans X7) hb8
          replace X8 := keep ((hE6.blk b8 (blk_lt X8) hn8).trans X8) hb8
          replace X9 := keep ((hE6.blk b9 (blk_lt X9) hn9).trans X9) hb8
          replace X12 := keep ((hE6.blk b12 (blk_lt X12) hn12).trans X12) hb8
          replace hM := hM6.below hb8
          replace hal := hal.trans (hE6.low _ hz hal.size)
          replace hal := hal.trans (hb8.mono hal.size)
          clear hM6 hE6 hb8 hgo
          have y120 := cell_of_row w8 b12 0 _ 34 _ X12
          have y123 := cell_of_row w8 b12 3 _ 34 _ X12
          have y13 := cell_of_row w8 b13 0 _ 38 _ k1
          have y7 := cell_of_row w8 b7 1 _ 48 _ X7
          have y8 := a4_cell X8 hq
          have y9 := a4_cell X9 hq
          go_upto_region 20 with (fail)
          refine wp_region_lit ?_
          iterate 6
            refine wl_val rfl ?_ ?_ ?_
            rotate_left
            · go_simp; try with_reducible rfl
            intro K hK
            go_simp
            refine hK _ _ ?_
            clear hK K
          refine wl_a4 rfl (.tmp 99) (.tmp 98) rfl b8 q cm (cm q + 1) hq rfl rfl X8 (fun w9 m1 m2 m3 => ?_)
          intro K hK
          go_simp
          refine hK _ _ ?_
          clear hK K
          replace X7 := (m2 b7 hn87).trans X7
          replace X9 := (m2 b9 (fun e => hn89 e.symm)).trans X9
          have hn128 : b12 ≠ b8 := by intro e; subst e; rw [X8] at X12; simp at X12
          replace X12 := (m2 b12 hn128).trans X12
          replace X8 := m1
          replace hM : Mac w9 bM g 1 cap 4 (fun _ => { initS ⟨13, a, 0, 0⟩ with come := upF cm q (cm q + 1), opened := op, left := lf }) := ⟨(m2 bM h8M).trans hM.mac, hM.row.keep (m2 g (fun e => hn8 e.symm)), hM.ne, hM.g0, nm_keep hM.names (m2 0 (by have := hN.pos; omega))⟩
          replace hal := hal.trans (m3 _ hz8)
          clear m1 m2 m3 hwr y120 y123 y13 y7 y8 y9
          have y123 := cell_of_row w9 b12 3 _ 34 _ X12
          obtain ⟨cm', hcm'⟩ : ∃ c', Hid (c' = upF cm q (cm q + 1)) := ⟨_, rfl⟩
          rw [← hcm'.out] at X8 hM
          have hcq : cm' q = cm q + 1 := by rw [hcm'.out, upF_at]
          go_upto_region 28 with (fail)
          clear y123
          have g1 : ¬ (cm q + 1 < lf q) := by omega
          have g2 : ¬ (lf q + 1 < cm q + 1) := by omega
          have gw : IntKind.i64.wrap (lf q + 1) = lf q + 1 := by simp only [IntKind.wrap_i64]; omega
          refine quiet_all (fun w' => Below w9.heap.size w9 w') (by kernel_rfl) (by kernel_rfl) (Below.drew (Below.refl _ _)) ?_
          refine q_run rfl (fun K hK => ?_)
          refine q_value ?_ (fun w' h' => ?_) ?_
          rotate_left
          · go_simp; try with_reducible rfl
          go_simp
          refine hK _ ?_
          clear hK K
          refine q_run rfl (fun K hK => ?_)
          refine q_value ?_ (fun w' h' => ?_) ?_
          rotate_left
          · have c := cell_of_row w' b12 0 _ 34 _ (keep X12 h'); go_simp; try with_reducible rfl
          go_simp
          refine hK _ ?_
          clear hK K
          refine q_run rfl (fun K hK => ?_)
          refine q_value ?_ (fun w' h' => ?_) ?_
          rotate_left
          · go_simp; try with_reducible rfl
          go_simp
          refine hK _ ?_
          clear hK K
          refine q_run rfl (fun K hK => ?_)
          refine q_value ?_ (fun w' h' => ?_) ?_
          rotate_left
          · have c := a4_cell (keep X8 h') hq; rw [hcq] at c; go_simp; try with_reducible rfl
          go_simp
          refine hK _ ?_
          clear hK K
          refine q_run rfl (fun K hK => ?_)
          refine q_value ?_ (fun w' h' => ?_) ?_
          rotate_left
          · go_simp; try with_reducible rfl
          go_simp
          refine hK _ ?_
          clear hK K
          refine q_run rfl (fun K hK => ?_)
          refine q_value ?_ (fun w' h' => ?_) ?_
          rotate_left
          · have c := cell_of_row w' b12 0 _ 34 _ (keep X12 h'); go_simp; try with_reducible rfl
          go_simp
          refine hK _ ?_
          clear hK K
          refine q_run rfl (fun K hK => ?_)
          refine q_value ?_ (fun w' h' => ?_) ?_
          rotate_left
          · go_simp; try with_reducible rfl
          go_simp
          refine hK _ ?_
          clear hK K
          refine q_run rfl (fun K hK => ?_)
          refine q_value ?_ (fun w' h' => ?_) ?_
          rotate_left
          · have c := a4_cell (keep X9 h') hq; go_simp; try with_reducible rfl
          go_simp
          refine hK _ ?_
          clear hK K
          refine q_run rfl (fun K hK => ?_)
          refine q_value ?_ (fun w' h' => ?_) ?_
          rotate_left
          · go_simp; try with_reducible rfl
          go_simp
          refine hK _ ?_
          clear hK K
          refine q_run rfl (fun K hK => ?_)
          refine q_value ?_ (fun w' h' => ?_) ?_
          rotate_left
          · go_simp; try with_reducible rfl
          go_simp
          refine hK _ ?_
          clear hK K
          refine q_run rfl (fun K hK => ?_)
          refine q_value ?_ (fun w' h' => ?_) ?_
          rotate_left
          · go_simp; try with_reducible rfl
          go_simp
          refine hK _ ?_
          clear hK K
          refine q_run rfl (fun K hK => ?_)
          refine q_value ?_ (fun w' h' => ?_) ?_
          rotate_left
          · have c := cell_of_row w' b12 0 _ 34 _ (keep X12 h'); go_simp; try with_reducible rfl
          go_simp
          refine hK _ ?_
          clear hK K
          refine q_run rfl (fun K hK => ?_)
          refine q_value ?_ (fun w' h' => ?_) ?_
          rotate_left
          · go_simp; try with_reducible rfl
          go_simp
          refine hK _ ?_
          clear hK K
          refine q_run rfl (fun K hK => ?_)
          refine q_value ?_ (fun w' h' => ?_) ?_
          rotate_left
          · have c := a4_cell (keep X8 h') hq; rw [hcq] at c; go_simp; try with_reducible rfl
          go_simp
          refine hK _ ?_
          clear hK K
          refine q_run rfl (fun K hK => ?_)
          refine q_value ?_ (fun w' h' => ?_) ?_
          rotate_left
          · go_simp; try with_reducible rfl
          go_simp
          refine hK _ ?_
          clear hK K
          refine q_run rfl (fun K hK => ?_)
          refine q_value ?_ (fun w' h' => ?_) ?_
          rotate_left
          · have c := cell_of_row w' b12 0 _ 34 _ (keep X12 h'); go_simp; try with_reducible rfl
          go_simp
          refine hK _ ?_
          clear hK K
          refine q_run rfl (fun K hK => ?_)
          refine q_value ?_ (fun w' h' => ?_) ?_
          rotate_left
          · go_simp; try with_reducible rfl
          go_simp
          refine hK _ ?_
          clear hK K
          refine q_run rfl (fun K hK => ?_)
          refine q_value ?_ (fun w' h' => ?_) ?_
          rotate_left
          · have c := a4_cell (keep X9 h') hq; go_simp; try with_reducible rfl
          go_simp
          refine hK _ ?_
          clear hK K
          refine q_run rfl (fun K hK => ?_)
          refine q_value ?_ (fun w' h' => ?_) ?_
          rotate_left
          · go_simp; try with_reducible rfl
          go_simp
          refine hK _ ?_
          clear hK K
          refine q_run rfl (fun K hK => ?_)
          refine q_value ?_ (fun w' h' => ?_) ?_
          rotate_left
          · go_simp; try with_reducible rfl
          go_simp
          refine hK _ ?_
          clear hK K
          refine q_run rfl (fun K hK => ?_)
          refine q_value ?_ (fun w' h' => ?_) ?_
          rotate_left
          · go_simp; try with_reducible rfl
          go_simp
          refine hK _ ?_
          clear hK K
          refine qd_nil ?_
          intro y4 hy4
          replace X7 := keep X7 hy4
          replace X8 := keep X8 hy4
          replace X9 := keep X9 hy4
          replace X12 := keep X12 hy4
          replace hM := hM.below hy4
          replace hal := hal.trans (hy4.mono hal.size)
          clear hy4
          have hcm'' : ∀ t, t ≠ q → cm' t = cm t := fun t h => by rw [hcm'.out, upF_ne h]
          clear hcm'
          go_wp2
          go_roundw
          case rel => exact ⟨i + 1, cm', lf, op, by go_num, by omega, fun t ht => by
              have := hI t ht
              by_cases e : t = q
              · subst e; omega
              · rw [hcm'' t e]; omega, fun t ht => by
              have := hop t ht
              by_cases e : t = q
              · subst e; omega
              · rw [hcm'' t e]; omega, by omega, hM, X7, X8, X9, hal⟩
          case measure => simp [intOf]; omega
      · by_cases hc : closedB { initS ⟨13, a, 0, 0⟩ with come := cm, opened := op, left := lf } = true
        · replace hgo : goP 4 { initS ⟨13, a, 0, 0⟩ with come := cm, opened := op, left := lf } ⟨q, 0, 9, 2, a, 0⟩ = ⟨{ initS ⟨13, a, 0, 0⟩ with come := cm, opened := op, left := lf }, 0, false⟩ := by
            rw [hgo]; exact bar_o1 hqa rfl hc
          refine wp_region_lit ?_
          iterate 1
            refine wl_val rfl ?_ ?_ ?_
            rotate_left
            · go_simp; try with_reducible rfl
            intro K hK
            go_simp
            refine hK _ _ ?_
            clear hK K
          refine wl_load rfl 34 (.tmp 11) rfl _ rfl _ _ _ _ X12 Tryd.underlying34 rfl (by kernel_rfl) ?_
          intro K hK
          go_simp
          refine hK _ _ ?_
          clear hK K
          have hcall := do1 ({ initS ⟨13, a, 0, 0⟩ with come := cm, opened := op, left := lf }) bM g cap 4 (by omega) ⟨q, 0, 9, 2, a, 0⟩ rfl (by simp only; omega) (by simp [initS]) w5 hM
          rw [hgo] at hcall
          refine wl_call rfl 14 #[.pointer (some ⟨bM, 0, none⟩), akV ⟨q, 0, 9, 2, a, 0⟩] (ansV 0 none 0 0 false) _ ?_ hcall (fun w6 h6 => ?_)
          · unfold akV akC; first | (go_simp; done) | (go_simp; rfl)
          intro K hK
          go_simp
          refine hK _ _ ?_
          clear hK K
          clear hcall
          unfold ansV
          obtain ⟨hM6, hE6⟩ := h6
          simp only at hM6
          iterate 3
            refine wl_val rfl ?_ ?_ ?_
            rotate_left
            · go_simp; try with_reducible rfl
            intro K hK
            go_simp
            refine hK _ _ ?_
            clear hK K
          refine wl_alloc rfl 38 rfl (.agg #[.int .u32 0, .slice none 0 0]) #[.int .u32 0, .slice none 0 0] (fun w => by kernel_rfl) rfl (fun w7 b13 X13 l7 f7 => ?_)
          intro K hK
          go_simp
          refine hK _ _ ?_
          clear hK K
          refine wl_store rfl 38 (.tmp 12) (.tmp 67) rfl b13 #[.int .u32 0, .slice none 0 0] rfl rfl 38 _ X13 (by kernel_rfl) rfl (by simp [Value.oneCell']) (fun w8 k1 k2 k3 k4 => ?_)
          intro K hK
          go_simp
          refine hK _ _ ?_
          clear hK K
          refine wl_val rfl (.bool false) ?_ ?_
          · go_simp
          intro K hK
          go_simp
          refine hK _ _ ?_
          clear hK K
          have hb8 : Below w6.heap.size w6 w8 := l7.trans (k3 _ (by simp only [Hid] at f7; omega))
          clear X13 l7 f7 k2 k3 k4
          replace X7 := keep ((hE6.blk b7 (blk_lt X7) hn7).trans X7) hb8
          replace X8 := keep ((hE6.blk b8 (blk_lt X8) hn8).trans X8) hb8
          replace X9 := keep ((hE6.blk b9 (blk_lt X9) hn9).trans X9) hb8
          replace X12 := keep ((hE6.blk b12 (blk_lt X12) hn12).trans X12) hb8
          replace hM := hM6.below hb8
          replace hal := hal.trans (hE6.low _ hz hal.size)
          replace hal := hal.trans (hb8.mono hal.size)
          clear hM6 hE6 hb8 hgo
          have y120 := cell_of_row w8 b12 0 _ 34 _ X12
          have y123 := cell_of_row w8 b12 3 _ 34 _ X12
          have y13 := cell_of_row w8 b13 0 _ 38 _ k1
          have y7 := cell_of_row w8 b7 1 _ 48 _ X7
          have y8 := a4_cell X8 hq
          have y9 := a4_cell X9 hq
          go_wp2
          go_roundw
          case rel => exact ⟨i + 1, cm, lf, op, by go_num, by omega, fun t ht => by have := hI t ht; omega, hop, by omega, hM, X7, X8, X9, hal⟩
          case measure => simp [intOf]; omega
        · have hop1 : op ≤ nc := by have := hop 0 (by omega); have := (hI 0 (by omega)).2.2.2; omega
          have hwr : IntKind.i64.wrap (op + 1) = op + 1 := by simp only [IntKind.wrap_i64]; omega
          have hcl : ∀ t : Nat, (t : Int) < a → op + 1 ≤ cm t := fun t ht => by
            by_cases e : cm t ≤ op
            · exact absurd (closed_t (s := { initS ⟨13, a, 0, 0⟩ with come := cm, opened := op, left := lf }) (t := t) ht e) hc
            · omega
          replace hgo : goP 4 { initS ⟨13, a, 0, 0⟩ with come := cm, opened := op, left := lf } ⟨q, 0, 9, 2, a, 0⟩ = ⟨{ initS ⟨13, a, 0, 0⟩ with come := cm, opened := op + 1, left := lf }, 0, true⟩ := by
            rw [hgo]; have hx := bar_o2 (s := { initS ⟨13, a, 0, 0⟩ with come := cm, opened := op, left := lf }) (q := q) hqa rfl hc
            rw [show IntKind.i64.wrap (({ initS ⟨13, a, 0, 0⟩ with come := cm, opened := op, left := lf } : St).opened + 1) = op + 1 from hwr] at hx
            exact hx
          refine wp_region_lit ?_
          iterate 1
            refine wl_val rfl ?_ ?_ ?_
            rotate_left
            · go_simp; try with_reducible rfl
            intro K hK
            go_simp
            refine hK _ _ ?_
            clear hK K
          refine wl_load rfl 34 (.tmp 11) rfl _ rfl _ _ _ _ X12 Tryd.underlying34 rfl (by kernel_rfl) ?_
          intro K hK
          go_simp
          refine hK _ _ ?_
          clear hK K
          have hcall := do1 ({ initS ⟨13, a, 0, 0⟩ with come := cm, opened := op, left := lf }) bM g cap 4 (by omega) ⟨q, 0, 9, 2, a, 0⟩ rfl (by simp only; omega) (by simp [initS]) w5 hM
          rw [hgo] at hcall
          refine wl_call rfl 14 #[.pointer (some ⟨bM, 0, none⟩), akV ⟨q, 0, 9, 2, a, 0⟩] (ansV 0 none 0 0 true) _ ?_ hcall (fun w6 h6 => ?_)
          · unfold akV akC; first | (go_simp; done) | (go_simp; rfl)
          intro K hK
          go_simp
          refine hK _ _ ?_
          clear hK K
          clear hcall
          unfold ansV
          obtain ⟨hM6, hE6⟩ := h6
          simp only at hM6
          iterate 3
            refine wl_val rfl ?_ ?_ ?_
            rotate_left
            · go_simp; try with_reducible rfl
            intro K hK
            go_simp
            refine hK _ _ ?_
            clear hK K
          refine wl_alloc rfl 38 rfl (.agg #[.int .u32 0, .slice none 0 0]) #[.int .u32 0, .slice none 0 0] (fun w => by kernel_rfl) rfl (fun w7 b13 X13 l7 f7 => ?_)
          intro K hK
          go_simp
          refine hK _ _ ?_
          clear hK K
          refine wl_store rfl 38 (.tmp 12) (.tmp 67) rfl b13 #[.int .u32 0, .slice none 0 0] rfl rfl 38 _ X13 (by kernel_rfl) rfl (by simp [Value.oneCell']) (fun w8 k1 k2 k3 k4 => ?_)
          intro K hK
          go_simp
          refine hK _ _ ?_
          clear hK K
          refine wl_val rfl (.bool true) ?_ ?_
          · go_simp
          intro K hK
          go_simp
          refine hK _ _ ?_
          clear hK K
          have hb8 : Below w6.heap.size w6 w8 := l7.trans (k3 _ (by simp only [Hid] at f7; omega))
          clear X13 l7 f7 k2 k3 k4
          replace X7 := keep ((hE6.blk b7 (blk_lt X7) hn7).trans X7) hb8
          replace X8 := keep ((hE6.blk b8 (blk_lt X8) hn8).trans X8) hb8
          replace X9 := keep ((hE6.blk b9 (blk_lt X9) hn9).trans X9) hb8
          replace X12 := keep ((hE6.blk b12 (blk_lt X12) hn12).trans X12) hb8
          replace hM := hM6.below hb8
          replace hal := hal.trans (hE6.low _ hz hal.size)
          replace hal := hal.trans (hb8.mono hal.size)
          clear hM6 hE6 hb8 hgo
          have y120 := cell_of_row w8 b12 0 _ 34 _ X12
          have y123 := cell_of_row w8 b12 3 _ 34 _ X12
          have y13 := cell_of_row w8 b13 0 _ 38 _ k1
          have y7 := cell_of_row w8 b7 1 _ 48 _ X7
          have y8 := a4_cell X8 hq
          have y9 := a4_cell X9 hq
          go_upto_region 28 with (fail)
          clear y120 y123 y13 y7 y8 y9
          have g1 : ¬ (cm q < lf q) := by omega
          have g2 : ¬ (lf q + 1 < cm q) := by omega
          have gw : IntKind.i64.wrap (lf q + 1) = lf q + 1 := by simp only [IntKind.wrap_i64]; omega
          refine quiet_all (fun w' => Below w8.heap.size w8 w') (by kernel_rfl) (by kernel_rfl) (Below.drew (Below.refl _ _)) ?_
          refine q_run rfl (fun K hK => ?_)
          refine q_value ?_ (fun w' h' => ?_) ?_
          rotate_left
          · go_simp; try with_reducible rfl
          go_simp
          refine hK _ ?_
          clear hK K
          refine q_run rfl (fun K hK => ?_)
          refine q_value ?_ (fun w' h' => ?_) ?_
          rotate_left
          · have c := cell_of_row w' b12 0 _ 34 _ (keep X12 h'); go_simp; try with_reducible rfl
          go_simp
          refine hK _ ?_
          clear hK K
          refine q_run rfl (fun K hK => ?_)
          refine q_value ?_ (fun w' h' => ?_) ?_
          rotate_left
          · go_simp; try with_reducible rfl
          go_simp
          refine hK _ ?_
          clear hK K
          refine q_run rfl (fun K hK => ?_)
          refine q_value ?_ (fun w' h' => ?_) ?_
          rotate_left
          · have c := a4_cell (keep X8 h') hq; go_simp; try with_reducible rfl
          go_simp
          refine hK _ ?_
          clear hK K
          refine q_run rfl (fun K hK => ?_)
          refine q_value ?_ (fun w' h' => ?_) ?_
          rotate_left
          · go_simp; try with_reducible rfl
          go_simp
          refine hK _ ?_
          clear hK K
          refine q_run rfl (fun K hK => ?_)
          refine q_value ?_ (fun w' h' => ?_) ?_
          rotate_left
          · have c := cell_of_row w' b12 0 _ 34 _ (keep X12 h'); go_simp; try with_reducible rfl
          go_simp
          refine hK _ ?_
          clear hK K
          refine q_run rfl (fun K hK => ?_)
          refine q_value ?_ (fun w' h' => ?_) ?_
          rotate_left
          · go_simp; try with_reducible rfl
          go_simp
          refine hK _ ?_
          clear hK K
          refine q_run rfl (fun K hK => ?_)
          refine q_value ?_ (fun w' h' => ?_) ?_
          rotate_left
          · have c := a4_cell (keep X9 h') hq; go_simp; try with_reducible rfl
          go_simp
          refine hK _ ?_
          clear hK K
          refine q_run rfl (fun K hK => ?_)
          refine q_value ?_ (fun w' h' => ?_) ?_
          rotate_left
          · go_simp; try with_reducible rfl
          go_simp
          refine hK _ ?_
          clear hK K
          refine q_run rfl (fun K hK => ?_)
          refine q_value ?_ (fun w' h' => ?_) ?_
          rotate_left
          · go_simp; try with_reducible rfl
          go_simp
          refine hK _ ?_
          clear hK K
          refine q_run rfl (fun K hK => ?_)
          refine q_value ?_ (fun w' h' => ?_) ?_
          rotate_left
          · go_simp; try with_reducible rfl
          go_simp
          refine hK _ ?_
          clear hK K
          refine q_run rfl (fun K hK => ?_)
          refine q_value ?_ (fun w' h' => ?_) ?_
          rotate_left
          · have c := cell_of_row w' b12 0 _ 34 _ (keep X12 h'); go_simp; try with_reducible rfl
          go_simp
          refine hK _ ?_
          clear hK K
          refine q_run rfl (fun K hK => ?_)
          refine q_value ?_ (fun w' h' => ?_) ?_
          rotate_left
          · go_simp; try with_reducible rfl
          go_simp
          refine hK _ ?_
          clear hK K
          refine q_run rfl (fun K hK => ?_)
          refine q_value ?_ (fun w' h' => ?_) ?_
          rotate_left
          · have c := a4_cell (keep X8 h') hq; go_simp; try with_reducible rfl
          go_simp
          refine hK _ ?_
          clear hK K
          refine q_run rfl (fun K hK => ?_)
          refine q_value ?_ (fun w' h' => ?_) ?_
          rotate_left
          · go_simp; try with_reducible rfl
          go_simp
          refine hK _ ?_
          clear hK K
          refine q_run rfl (fun K hK => ?_)
          refine q_value ?_ (fun w' h' => ?_) ?_
          rotate_left
          · have c := cell_of_row w' b12 0 _ 34 _ (keep X12 h'); go_simp; try with_reducible rfl
          go_simp
          refine hK _ ?_
          clear hK K
          refine q_run rfl (fun K hK => ?_)
          refine q_value ?_ (fun w' h' => ?_) ?_
          rotate_left
          · go_simp; try with_reducible rfl
          go_simp
          refine hK _ ?_
          clear hK K
          refine q_run rfl (fun K hK => ?_)
          refine q_value ?_ (fun w' h' => ?_) ?_
          rotate_left
          · have c := a4_cell (keep X9 h') hq; go_simp; try with_reducible rfl
          go_simp
          refine hK _ ?_
          clear hK K
          refine q_run rfl (fun K hK => ?_)
          refine q_value ?_ (fun w' h' => ?_) ?_
          rotate_left
          · go_simp; try with_reducible rfl
          go_simp
          refine hK _ ?_
          clear hK K
          refine q_run rfl (fun K hK => ?_)
          refine q_value ?_ (fun w' h' => ?_) ?_
          rotate_left
          · go_simp; try with_reducible rfl
          go_simp
          refine hK _ ?_
          clear hK K
          refine q_run rfl (fun K hK => ?_)
          refine q_value ?_ (fun w' h' => ?_) ?_
          rotate_left
          · go_simp; try with_reducible rfl
          go_simp
          refine hK _ ?_
          clear hK K
          refine qd_nil ?_
          intro y3 hy3
          replace X7 := keep X7 hy3
          replace X8 := keep X8 hy3
          replace X9 := keep X9 hy3
          replace X12 := keep X12 hy3
          replace hM := hM.below hy3
          replace hal := hal.trans (hy3.mono hal.size)
          clear hy3
          go_wp2
          go_roundw
          case rel => exact ⟨i + 1, cm, lf, op + 1, by go_num, by omega, fun t ht => by have := hI t ht; omega, hcl, by omega, hM, X7, X8, X9, hal⟩
          case measure => simp [intOf]; omega
      · by_cases hc : cm q = lf q
        · replace hgo : goP 4 { initS ⟨13, a, 0, 0⟩ with come := cm, opened := op, left := lf } ⟨q, 0, 9, 3, a, 0⟩ = ⟨{ initS ⟨13, a, 0, 0⟩ with come := cm, opened := op, left := lf }, 0, false⟩ := by
            rw [hgo]; exact bar_l1 hqa rfl hc
          refine wp_region_lit ?_
          iterate 1
            refine wl_val rfl ?_ ?_ ?_
            rotate_left
            · go_simp; try with_reducible rfl
            intro K hK
            go_simp
            refine hK _ _ ?_
            clear hK K
          refine wl_load rfl 34 (.tmp 11) rfl _ rfl _ _ _ _ X12 Tryd.underlying34 rfl (by kernel_rfl) ?_
          intro K hK
          go_simp
          refine hK _ _ ?_
          clear hK K
          have hcall := do1 ({ initS ⟨13, a, 0, 0⟩ with come := cm, opened := op, left := lf }) bM g cap 4 (by omega) ⟨q, 0, 9, 3, a, 0⟩ rfl (by simp only; omega) (by simp [initS]) w5 hM
          rw [hgo] at hcall
          refine wl_call rfl 14 #[.pointer (some ⟨bM, 0, none⟩), akV ⟨q, 0, 9, 3, a, 0⟩] (ansV 0 none 0 0 false) _ ?_ hcall (fun w6 h6 => ?_)
          · unfold akV akC; first | (go_simp; done) | (go_simp; rfl)
          intro K hK
          go_simp
          refine hK _ _ ?_
          clear hK K
          clear hcall
          unfold ansV
          obtain ⟨hM6, hE6⟩ := h6
          simp only at hM6
          iterate 3
            refine wl_val rfl ?_ ?_ ?_
            rotate_left
            · go_simp; try with_reducible rfl
            intro K hK
            go_simp
            refine hK _ _ ?_
            clear hK K
          refine wl_alloc rfl 38 rfl (.agg #[.int .u32 0, .slice none 0 0]) #[.int .u32 0, .slice none 0 0] (fun w => by kernel_rfl) rfl (fun w7 b13 X13 l7 f7 => ?_)
          intro K hK
          go_simp
          refine hK _ _ ?_
          clear hK K
          refine wl_store rfl 38 (.tmp 12) (.tmp 67) rfl b13 #[.int .u32 0, .slice none 0 0] rfl rfl 38 _ X13 (by kernel_rfl) rfl (by simp [Value.oneCell']) (fun w8 k1 k2 k3 k4 => ?_)
          intro K hK
          go_simp
          refine hK _ _ ?_
          clear hK K
          refine wl_val rfl (.bool false) ?_ ?_
          · go_simp
          intro K hK
          go_simp
          refine hK _ _ ?_
          clear hK K
          have hb8 : Below w6.heap.size w6 w8 := l7.trans (k3 _ (by simp only [Hid] at f7; omega))
          clear X13 l7 f7 k2 k3 k4
          replace X7 := keep ((hE6.blk b7 (blk_lt X7) hn7).trans X7) hb8
          replace X8 := keep ((hE6.blk b8 (blk_lt X8) hn8).trans X8) hb8
          replace X9 := keep ((hE6.blk b9 (blk_lt X9) hn9).trans X9) hb8
          replace X12 := keep ((hE6.blk b12 (blk_lt X12) hn12).trans X12) hb8
          replace hM := hM6.below hb8
          replace hal := hal.trans (hE6.low _ hz hal.size)
          replace hal := hal.trans (hb8.mono hal.size)
          clear hM6 hE6 hb8 hgo
          have y120 := cell_of_row w8 b12 0 _ 34 _ X12
          have y123 := cell_of_row w8 b12 3 _ 34 _ X12
          have y13 := cell_of_row w8 b13 0 _ 38 _ k1
          have y7 := cell_of_row w8 b7 1 _ 48 _ X7
          have y8 := a4_cell X8 hq
          have y9 := a4_cell X9 hq
          go_wp2
          go_roundw
          case rel => exact ⟨i + 1, cm, lf, op, by go_num, by omega, fun t ht => by have := hI t ht; omega, hop, by omega, hM, X7, X8, X9, hal⟩
          case measure => simp [intOf]; omega
        · by_cases hd' : op < cm q
          · replace hgo : goP 4 { initS ⟨13, a, 0, 0⟩ with come := cm, opened := op, left := lf } ⟨q, 0, 9, 3, a, 0⟩ = ⟨{ initS ⟨13, a, 0, 0⟩ with come := cm, opened := op, left := lf }, 0, false⟩ := by
              rw [hgo]; exact bar_l2 hqa rfl hc hd'
            refine wp_region_lit ?_
            iterate 1
              refine wl_val rfl ?_ ?_ ?_
              rotate_left
              · go_simp; try with_reducible rfl
              intro K hK
              go_simp
              refine hK _ _ ?_
              clear hK K
            refine wl_load rfl 34 (.tmp 11) rfl _ rfl _ _ _ _ X12 Tryd.underlying34 rfl (by kernel_rfl) ?_
            intro K hK
            go_simp
            refine hK _ _ ?_
            clear hK K
            have hcall := do1 ({ initS ⟨13, a, 0, 0⟩ with come := cm, opened := op, left := lf }) bM g cap 4 (by omega) ⟨q, 0, 9, 3, a, 0⟩ rfl (by simp only; omega) (by simp [initS]) w5 hM
            rw [hgo] at hcall
            refine wl_call rfl 14 #[.pointer (some ⟨bM, 0, none⟩), akV ⟨q, 0, 9, 3, a, 0⟩] (ansV 0 none 0 0 false) _ ?_ hcall (fun w6 h6 => ?_)
            · unfold akV akC; first | (go_simp; done) | (go_simp; rfl)
            intro K hK
            go_simp
            refine hK _ _ ?_
            clear hK K
            clear hcall
            unfold ansV
            obtain ⟨hM6, hE6⟩ := h6
            simp only at hM6
            iterate 3
              refine wl_val rfl ?_ ?_ ?_
              rotate_left
              · go_simp; try with_reducible rfl
              intro K hK
              go_simp
              refine hK _ _ ?_
              clear hK K
            refine wl_alloc rfl 38 rfl (.agg #[.int .u32 0, .slice none 0 0]) #[.int .u32 0, .slice none 0 0] (fun w => by kernel_rfl) rfl (fun w7 b13 X13 l7 f7 => ?_)
            intro K hK
            go_simp
            refine hK _ _ ?_
            clear hK K
            refine wl_store rfl 38 (.tmp 12) (.tmp 67) rfl b13 #[.int .u32 0, .slice none 0 0] rfl rfl 38 _ X13 (by kernel_rfl) rfl (by simp [Value.oneCell']) (fun w8 k1 k2 k3 k4 => ?_)
            intro K hK
            go_simp
            refine hK _ _ ?_
            clear hK K
            refine wl_val rfl (.bool false) ?_ ?_
            · go_simp
            intro K hK
            go_simp
            refine hK _ _ ?_
            clear hK K
            have hb8 : Below w6.heap.size w6 w8 := l7.trans (k3 _ (by simp only [Hid] at f7; omega))
            clear X13 l7 f7 k2 k3 k4
            replace X7 := keep ((hE6.blk b7 (blk_lt X7) hn7).trans X7) hb8
            replace X8 := keep ((hE6.blk b8 (blk_lt X8) hn8).trans X8) hb8
            replace X9 := keep ((hE6.blk b9 (blk_lt X9) hn9).trans X9) hb8
            replace X12 := keep ((hE6.blk b12 (blk_lt X12) hn12).trans X12) hb8
            replace hM := hM6.below hb8
            replace hal := hal.trans (hE6.low _ hz hal.size)
            replace hal := hal.trans (hb8.mono hal.size)
            clear hM6 hE6 hb8 hgo
            have y120 := cell_of_row w8 b12 0 _ 34 _ X12
            have y123 := cell_of_row w8 b12 3 _ 34 _ X12
            have y13 := cell_of_row w8 b13 0 _ 38 _ k1
            have y7 := cell_of_row w8 b7 1 _ 48 _ X7
            have y8 := a4_cell X8 hq
            have y9 := a4_cell X9 hq
            go_wp2
            go_roundw
            case rel => exact ⟨i + 1, cm, lf, op, by go_num, by omega, fun t ht => by have := hI t ht; omega, hop, by omega, hM, X7, X8, X9, hal⟩
            case measure => simp [intOf]; omega
          · have hwr : IntKind.i64.wrap (lf q + 1) = lf q + 1 := by simp only [IntKind.wrap_i64]; omega
            have hlc : lf q + 1 ≤ cm q ∧ cm q ≤ lf q + 1 := by omega
            have hok : ∀ t : Nat, (t : Int) < a → lf q + 1 ≤ cm t := fun t ht => by have := hop t ht; omega
            replace hgo : goP 4 { initS ⟨13, a, 0, 0⟩ with come := cm, opened := op, left := lf } ⟨q, 0, 9, 3, a, 0⟩ = ⟨{ initS ⟨13, a, 0, 0⟩ with come := cm, opened := op, left := upF lf q (lf q + 1) }, 0, true⟩ := by
              rw [hgo]; have hx := bar_l3 (s := { initS ⟨13, a, 0, 0⟩ with come := cm, opened := op, left := lf }) (q := q) hqa rfl hc hd'
              rw [show IntKind.i64.wrap (({ initS ⟨13, a, 0, 0⟩ with come := cm, opened := op, left := lf } : St).left q + 1) = lf q + 1 from hwr] at hx
              exact hx
            refine wp_region_lit ?_
            iterate 1
              refine wl_val rfl ?_ ?_ ?_
              rotate_left
              · go_simp; try with_reducible rfl
              intro K hK
              go_simp
              refine hK _ _ ?_
              clear hK K
            refine wl_load rfl 34 (.tmp 11) rfl _ rfl _ _ _ _ X12 Tryd.underlying34 rfl (by kernel_rfl) ?_
            intro K hK
            go_simp
            refine hK _ _ ?_
            clear hK K
            have hcall := do1 ({ initS ⟨13, a, 0, 0⟩ with come := cm, opened := op, left := lf }) bM g cap 4 (by omega) ⟨q, 0, 9, 3, a, 0⟩ rfl (by simp only; omega) (by simp [initS]) w5 hM
            rw [hgo] at hcall
            refine wl_call rfl 14 #[.pointer (some ⟨bM, 0, none⟩), akV ⟨q, 0, 9, 3, a, 0⟩] (ansV 0 none 0 0 true) _ ?_ hcall (fun w6 h6 => ?_)
            · unfold akV akC; first | (go_simp; done) | (go_simp; rfl)
            intro K hK
            go_simp
            refine hK _ _ ?_
            clear hK K
            clear hcall
            unfold ansV
            obtain ⟨hM6, hE6⟩ := h6
            simp only at hM6
            iterate 3
              refine wl_val rfl ?_ ?_ ?_
              rotate_left
              · go_simp; try with_reducible rfl
              intro K hK
              go_simp
              refine hK _ _ ?_
              clear hK K
            refine wl_alloc rfl 38 rfl (.agg #[.int .u32 0, .slice none 0 0]) #[.int .u32 0, .slice none 0 0] (fun w => by kernel_rfl) rfl (fun w7 b13 X13 l7 f7 => ?_)
            intro K hK
            go_simp
            refine hK _ _ ?_
            clear hK K
            refine wl_store rfl 38 (.tmp 12) (.tmp 67) rfl b13 #[.int .u32 0, .slice none 0 0] rfl rfl 38 _ X13 (by kernel_rfl) rfl (by simp [Value.oneCell']) (fun w8 k1 k2 k3 k4 => ?_)
            intro K hK
            go_simp
            refine hK _ _ ?_
            clear hK K
            refine wl_val rfl (.bool true) ?_ ?_
            · go_simp
            intro K hK
            go_simp
            refine hK _ _ ?_
            clear hK K
            have hb8 : Below w6.heap.size w6 w8 := l7.trans (k3 _ (by simp only [Hid] at f7; omega))
            clear X13 l7 f7 k2 k3 k4
            replace X7 := keep ((hE6.blk b7 (blk_lt X7) hn7).trans X7) hb8
            replace X8 := keep ((hE6.blk b8 (blk_lt X8) hn8).trans X8) hb8
            replace X9 := keep ((hE6.blk b9 (blk_lt X9) hn9).trans X9) hb8
            replace X12 := keep ((hE6.blk b12 (blk_lt X12) hn12).trans X12) hb8
            replace hM := hM6.below hb8
            replace hal := hal.trans (hE6.low _ hz hal.size)
            replace hal := hal.trans (hb8.mono hal.size)
            clear hM6 hE6 hb8 hgo
            have y120 := cell_of_row w8 b12 0 _ 34 _ X12
            have y123 := cell_of_row w8 b12 3 _ 34 _ X12
            have y13 := cell_of_row w8 b13 0 _ 38 _ k1
            have y7 := cell_of_row w8 b7 1 _ 48 _ X7
            have y8 := a4_cell X8 hq
            have y9 := a4_cell X9 hq
            go_upto_region 22 with (fail)
            refine wp_region_lit ?_
            iterate 6
              refine wl_val rfl ?_ ?_ ?_
              rotate_left
              · go_simp; try with_reducible rfl
              intro K hK
              go_simp
              refine hK _ _ ?_
              clear hK K
            refine wl_a4 rfl (.tmp 108) (.tmp 107) rfl b9 q lf (lf q + 1) hq rfl rfl X9 (fun w9 m1 m2 m3 => ?_)
            intro K hK
            go_simp
            refine hK _ _ ?_
            clear hK K
            replace X7 := (m2 b7 hn97).trans X7
            replace X8 := (m2 b8 hn89).trans X8
            have hn129 : b12 ≠ b9 := by intro e; subst e; rw [X9] at X12; simp at X12
            replace X12 := (m2 b12 hn129).trans X12
            replace X9 := m1
            replace hM : Mac w9 bM g 1 cap 4 (fun _ => { initS ⟨13, a, 0, 0⟩ with come := cm, opened := op, left := upF lf q (lf q + 1) }) := ⟨(m2 bM h9M).trans hM.mac, hM.row.keep (m2 g (fun e => hn9 e.symm)), hM.ne, hM.g0, nm_keep hM.names (m2 0 (by have := hN.pos; omega))⟩
            replace hal := hal.trans (m3 _ hz9)
            clear m1 m2 m3 hwr y120 y123 y13 y7 y8 y9
            obtain ⟨lf', hlf'⟩ : ∃ c', Hid (c' = upF lf q (lf q + 1)) := ⟨_, rfl⟩
            rw [← hlf'.out] at X9 hM
            have hlq : lf' q = lf q + 1 := by rw [hlf'.out, upF_at]
            have hlf'' : ∀ t, t ≠ q → lf' t = lf t := fun t h => by rw [hlf'.out, upF_ne h]
            clear hlf'
            go_upto_region 24 with (fail)
            obtain ⟨v0, ev0⟩ : ∃ x, x = w9 := ⟨_, rfl⟩
            subst ev0
            obtain ⟨Na, rfl⟩ : ∃ Na : Nat, a = Na := ⟨a.toNat, by omega⟩
            go_loopw [14] (fun v wr => ∃ k : Nat, v = .int .i64 k ∧ k ≤ Na ∧ Below v0.heap.size v0 wr) (fun v _ => Na - (intOf v).toNat)
            case atStart => exact ⟨0, rfl, Nat.zero_le _, Below.refl _ _⟩
            case round =>
              obtain ⟨k, rfl, hk, hb⟩ := hrel
              replace X7 := keep X7 hb
              replace X8 := keep X8 hb
              replace X9 := keep X9 hb
              replace X12 := keep X12 hb
              replace hM := hM.below hb
              replace hal := hal.trans (hb.mono hal.size)
              obtain ⟨w77, e77⟩ : ∃ x, x = wr := ⟨_, rfl⟩
              subst e77
              have y7 := cell_of_row w77 b7 1 _ 48 _ X7
              by_cases hlt3 : k < Na
              case neg =>
                have hkn : k = Na := by omega
                have hl2 : ¬ ((k : Int) < Na) := by omega
                clear hkn
                go_upto_region 28 with (fail)
                clear y7
                have g1 : ¬ (cm q < lf q + 1) := by omega
                have g2 : ¬ (lf q + 1 + 1 < cm q) := by omega
                have gw : IntKind.i64.wrap (lf q + 1 + 1) = lf q + 1 + 1 := by simp only [IntKind.wrap_i64]; omega
                refine quiet_all (fun w' => Below w77.heap.size w77 w') (by kernel_rfl) (by kernel_rfl) (Below.drew (Below.refl _ _)) ?_
                refine q_run rfl (fun K hK => ?_)
                refine q_value ?_ (fun w' h' => ?_) ?_
                rotate_left
                · go_simp; try with_reducible rfl
                go_simp
                refine hK _ ?_
                clear hK K
                refine q_run rfl (fun K hK => ?_)
                refine q_value ?_ (fun w' h' => ?_) ?_
                rotate_left
                · have c := cell_of_row w' b12 0 _ 34 _ (keep X12 h'); go_simp; try with_reducible rfl
                go_simp
                refine hK _ ?_
                clear hK K
                refine q_run rfl (fun K hK => ?_)
                refine q_value ?_ (fun w' h' => ?_) ?_
                rotate_left
                · go_simp; try with_reducible rfl
                go_simp
                refine hK _ ?_
                clear hK K
                refine q_run rfl (fun K hK => ?_)
                refine q_value ?_ (fun w' h' => ?_) ?_
                rotate_left
                · have c := a4_cell (keep X8 h') hq; go_simp; try with_reducible rfl
                go_simp
                refine hK _ ?_
                clear hK K
                refine q_run rfl (fun K hK => ?_)
                refine q_value ?_ (fun w' h' => ?_) ?_
                rotate_left
                · go_simp; try with_reducible rfl
                go_simp
                refine hK _ ?_
                clear hK K
                refine q_run rfl (fun K hK => ?_)
                refine q_value ?_ (fun w' h' => ?_) ?_
                rotate_left
                · have c := cell_of_row w' b12 0 _ 34 _ (keep X12 h'); go_simp; try with_reducible rfl
                go_simp
                refine hK _ ?_
                clear hK K
                refine q_run rfl (fun K hK => ?_)
                refine q_value ?_ (fun w' h' => ?_) ?_
                rotate_left
                · go_simp; try with_reducible rfl
                go_simp
                refine hK _ ?_
                clear hK K
                refine q_run rfl (fun K hK => ?_)
                refine q_value ?_ (fun w' h' => ?_) ?_
                rotate_left
                · have c := a4_cell (keep X9 h') hq; rw [hlq] at c; go_simp; try with_reducible rfl
                go_simp
                refine hK _ ?_
                clear hK K
                refine q_run rfl (fun K hK => ?_)
                refine q_value ?_ (fun w' h' => ?_) ?_
                rotate_left
                · go_simp; try with_reducible rfl
                go_simp
                refine hK _ ?_
                clear hK K
                refine q_run rfl (fun K hK => ?_)
                refine q_value ?_ (fun w' h' => ?_) ?_
                rotate_left
                · go_simp; try with_reducible rfl
                go_simp
                refine hK _ ?_
                clear hK K
                refine q_run rfl (fun K hK => ?_)
                refine q_value ?_ (fun w' h' => ?_) ?_
                rotate_left
                · go_simp; try with_reducible rfl
                go_simp
                refine hK _ ?_
                clear hK K
                refine q_run rfl (fun K hK => ?_)
                refine q_value ?_ (fun w' h' => ?_) ?_
                rotate_left
                · have c := cell_of_row w' b12 0 _ 34 _ (keep X12 h'); go_simp; try with_reducible rfl
                go_simp
                refine hK _ ?_
                clear hK K
                refine q_run rfl (fun K hK => ?_)
                refine q_value ?_ (fun w' h' => ?_) ?_
                rotate_left
                · go_simp; try with_reducible rfl
                go_simp
                refine hK _ ?_
                clear hK K
                refine q_run rfl (fun K hK => ?_)
                refine q_value ?_ (fun w' h' => ?_) ?_
                rotate_left
                · have c := a4_cell (keep X8 h') hq; go_simp; try with_reducible rfl
                go_simp
                refine hK _ ?_
                clear hK K
                refine q_run rfl (fun K hK => ?_)
                refine q_value ?_ (fun w' h' => ?_) ?_
                rotate_left
                · go_simp; try with_reducible rfl
                go_simp
                refine hK _ ?_
                clear hK K
                refine q_run rfl (fun K hK => ?_)
                refine q_value ?_ (fun w' h' => ?_) ?_
                rotate_left
                · have c := cell_of_row w' b12 0 _ 34 _ (keep X12 h'); go_simp; try with_reducible rfl
                go_simp
                refine hK _ ?_
                clear hK K
                refine q_run rfl (fun K hK => ?_)
                refine q_value ?_ (fun w' h' => ?_) ?_
                rotate_left
                · go_simp; try with_reducible rfl
                go_simp
                refine hK _ ?_
                clear hK K
                refine q_run rfl (fun K hK => ?_)
                refine q_value ?_ (fun w' h' => ?_) ?_
                rotate_left
                · have c := a4_cell (keep X9 h') hq; rw [hlq] at c; go_simp; try with_reducible rfl
                go_simp
                refine hK _ ?_
                clear hK K
                refine q_run rfl (fun K hK => ?_)
                refine q_value ?_ (fun w' h' => ?_) ?_
                rotate_left
                · go_simp; try with_reducible rfl
                go_simp
                refine hK _ ?_
                clear hK K
                refine q_run rfl (fun K hK => ?_)
                refine q_value ?_ (fun w' h' => ?_) ?_
                rotate_left
                · go_simp; try with_reducible rfl
                go_simp
                refine hK _ ?_
                clear hK K
                refine q_run rfl (fun K hK => ?_)
                refine q_value ?_ (fun w' h' => ?_) ?_
                rotate_left
                · go_simp; try with_reducible rfl
                go_simp
                refine hK _ ?_
                clear hK K
                refine qd_nil ?_
                intro y1 hy1
                replace X7 := keep X7 hy1
                replace X8 := keep X8 hy1
                replace X9 := keep X9 hy1
                replace X12 := keep X12 hy1
                replace hM := hM.below hy1
                replace hal := hal.trans (hy1.mono hal.size)
                clear hy1
                go_wp2
                go_roundw
                case rel => exact ⟨i + 1, cm, lf', op, by go_num, by omega, fun t ht => by
                    have := hI t ht
                    by_cases e : t = q
                    · subst e; omega
                    · rw [hlf'' t e]; omega, hop, by omega, hM, X7, X8, X9, hal⟩
                case measure => simp [intOf]; omega
              have hl2 : (k : Int) < Na := by omega
              have hk4 : k < 4 := by omega
              have hk0 : (0 : Int) ≤ k := by omega
              have hk5 : (k : Int) < 4 := by omega
              have hgk : ¬ (cm k < lf q + 1) := by have := hok k hl2; omega
              go_upto_region 26 with (fail)
              clear y7
              refine quiet_all (fun w' => Below w77.heap.size w77 w') (by kernel_rfl) (by kernel_rfl) (Below.drew (Below.refl _ _)) ?_
              refine q_run rfl (fun K hK => ?_)
              refine q_value ?_ (fun w' h' => ?_) ?_
              rotate_left
              · go_simp; try with_reducible rfl
              go_simp
              refine hK _ ?_
              clear hK K
              refine q_run rfl (fun K hK => ?_)
              refine q_value ?_ (fun w' h' => ?_) ?_
              rotate_left
              · go_simp; try with_reducible rfl
              go_simp
              refine hK _ ?_
              clear hK K
              refine q_run rfl (fun K hK => ?_)
              refine q_value ?_ (fun w' h' => ?_) ?_
              rotate_left
              · have c := a4_cell (keep X8 h') hk4; go_simp; try with_reducible rfl
              go_simp
              refine hK _ ?_
              clear hK K
              refine q_run rfl (fun K hK => ?_)
              refine q_value ?_ (fun w' h' => ?_) ?_
              rotate_left
              · go_simp; try with_reducible rfl
              go_simp
              refine hK _ ?_
              clear hK K
              refine q_run rfl (fun K hK => ?_)
              refine q_value ?_ (fun w' h' => ?_) ?_
              rotate_left
              · have c := cell_of_row w' b12 0 _ 34 _ (keep X12 h'); go_simp; try with_reducible rfl
              go_simp
              refine hK _ ?_
              clear hK K
              refine q_run rfl (fun K hK => ?_)
              refine q_value ?_ (fun w' h' => ?_) ?_
              rotate_left
              · go_simp; try with_reducible rfl
              go_simp
              refine hK _ ?_
              clear hK K
              refine q_run rfl (fun K hK => ?_)
              refine q_value ?_ (fun w' h' => ?_) ?_
              rotate_left
              · have c := a4_cell (keep X9 h') hq; rw [hlq] at c; go_simp; try with_reducible rfl
              go_simp
              refine hK _ ?_
              clear hK K
              refine q_run rfl (fun K hK => ?_)
              refine q_value ?_ (fun w' h' => ?_) ?_
              rotate_left
              · go_simp; try with_reducible rfl
              go_simp
              refine hK _ ?_
              clear hK K
              refine qd_nil ?_
              intro y2 hy2
              replace X7 := keep X7 hy2
              replace X8 := keep X8 hy2
              replace X9 := keep X9 hy2
              replace X12 := keep X12 hy2
              replace hM := hM.below hy2
              replace hal := hal.trans (hy2.mono hal.size)
              replace hb := hb.trans (hy2.mono hb.size)
              clear hy2
              go_wp2
              go_roundw
              case rel => exact ⟨k + 1, by go_num, by omega, hb⟩
              case measure => simp [intOf]; omega
end Go.Proofs.YtobkonbpcnmgpaaDoor
