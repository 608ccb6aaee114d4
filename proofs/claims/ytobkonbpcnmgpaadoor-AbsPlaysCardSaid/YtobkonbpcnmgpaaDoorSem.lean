/- The law AbsSem, walked. -/
import Derived.Test.YtobkonbpcnmgpaaDoorAwake
namespace Go.Proofs.YtobkonbpcnmgpaaDoor
open Go.RowKit
set_option linter.unusedVariables false
set_option linter.unusedSimpArgs false
theorem ask_nums (xv p m r : Int) (h : 0 ≤ xv ∧ xv ≤ 255) (hp : 0 < p ∧ p ≤ 10) (hm : 0 < m ∧ m ≤ 10) (hr : 0 < r ∧ r ≤ 10) : ∃ d u e, xv.tdiv p = d ∧ IntKind.i64.wrap xv = xv ∧ IntKind.i64.wrap d = d ∧ d.tmod m = u ∧ xv.tmod r = e ∧ 0 ≤ u ∧ u < m ∧ 0 ≤ e ∧ e < r := by
  have h1 : 0 ≤ xv / p := Int.ediv_nonneg h.1 (by omega)
  have h2 : xv / p ≤ xv := Int.ediv_le_self _ h.1
  refine ⟨xv / p, xv / p % m, xv % r, Int.tdiv_eq_ediv_of_nonneg h.1, by simp only [IntKind.wrap_i64]; omega, by simp only [IntKind.wrap_i64]; omega, Int.tmod_eq_emod_of_nonneg h1, Int.tmod_eq_emod_of_nonneg h.1, Int.emod_nonneg _ (by omega), Int.emod_lt_of_pos _ hm.1, Int.emod_nonneg _ (by omega), Int.emod_lt_of_pos _ hr.1⟩
theorem go11 {s : St} {x : Ak} {t : Int} (hk : s.o.k = 11) (hm : mayS s.o x.call t x.who = true) (hp : x.part = 0) : goP t s x = semP s x := by
  unfold goP
  rw [if_pos hm, if_neg (fun h => h.2 hp)]
  unfold kindP
  rw [if_neg (by omega), if_pos hk]
theorem go14 {s : St} {x : Ak} {t : Int} (hk : s.o.k = 14) (hm : mayS s.o x.call t x.who = true) (hp : x.part = 0) : goP t s x = rwP s x.who.toNat x.call := by
  unfold goP
  rw [if_pos hm, if_neg (fun h => h.2 hp)]
  unfold kindP
  rw [if_neg (by omega), if_neg (by omega), if_neg (by omega), if_neg (by omega), if_pos hk]
theorem go15 {s : St} {x : Ak} {t : Int} (hk : s.o.k = 15) (hm : mayS s.o x.call t x.who = true) (hp : x.part = 0) : goP t s x = onceP s x := by
  unfold goP
  rw [if_pos hm, if_neg (fun h => h.2 hp)]
  unfold kindP
  rw [if_neg (by omega), if_neg (by omega), if_neg (by omega), if_neg (by omega), if_neg (by omega), if_pos hk]
theorem go13 {s : St} {x : Ak} {t : Int} (hk : s.o.k = 13) (hm : mayS s.o x.call t x.who = true) : goP t s x = barP s x.who.toNat x.part x.arg := by
  unfold goP
  rw [if_pos hm, if_neg (fun h => h.1 hk)]
  unfold kindP
  rw [if_neg (by omega), if_neg (by omega), if_neg (by omega), if_pos hk]
def U8s (w : World) (V : Option Addr) (n : Nat) (f : Nat → Int) : Prop := 0 < n → ∃ b off, V = some ⟨b, off, none⟩ ∧ b < w.heap.size ∧ ∀ i, i < n → w.cell? ⟨b, off + i, none⟩ = some (.int .u8 (f i)) ∧ 0 ≤ f i ∧ f i ≤ 255
theorem U8s.below {w w' : World} {V : Option Addr} {n : Nat} {f : Nat → Int} (h : U8s w V n f) (hb : Below w.heap.size w w') : U8s w' V n f := fun hn => by
  obtain ⟨b, off, e, hlt, hc⟩ := h hn
  exact ⟨b, off, e, Nat.lt_of_lt_of_le hlt hb.size, fun i hi => ⟨(hb.cell (p := ⟨b, off + i, none⟩) hlt).trans (hc i hi).1, (hc i hi).2⟩⟩
theorem u8_ptr {w : World} {V : Option Addr} {n : Nat} {f : Nat → Int} (h : U8s w V n f) (hn : 0 < n) : ∃ b off, V = some ⟨b, off, none⟩ := by
  obtain ⟨b, off, e, _⟩ := h hn; exact ⟨b, off, e⟩
theorem at_u8 {w : World} {b off n : Nat} {f : Nat → Int} {i : Nat} (h : U8s w (some ⟨b, off, none⟩) n f) (hi : i < n) : w.cell? ⟨b, off + i, none⟩ = some (.int .u8 (f i)) ∧ 0 ≤ f i ∧ f i ≤ 255 := by
  obtain ⟨b', off', e, _, hc⟩ := h (by omega)
  cases e
  exact hc i hi
set_option maxRecDepth 100000 in
set_option maxHeartbeats 8000000 in
theorem sem_walk (nn most : Int) (hn : 0 ≤ nn ∧ nn ≤ 255) (hm : 0 ≤ most ∧ most ≤ 255) (V : Option Addr) (nc cc : Nat) (f : Nat → Int) (w : World) (hV : U8s w V nc f) (hN : NmW w) : Calls Tryd.prog 6 #[.int .u8 nn, .int .u8 most, .slice V nc cc] w fun e w' => e = .returned (.bool true) ∧ Below w.heap.size w w' := by
  by_cases hl : 200 < nc
  · have hl' : 200 < (nc : Int) := by omega
    go_enter Tryd.func6, Tryd.ntmps6
    go_wp2_with fail
    refine (awake w hN).mono ?_
    rintro e w1 ⟨rfl, hb1⟩
    go_wp2_with fail
    refine (awake w1 (hN.below hb1)).mono ?_
    rintro e w2 ⟨rfl, hb2⟩
    go_wp2
    go_ret
    exact ⟨rfl, hb1.trans (hb2.mono hb1.size)⟩
  have hl' : ¬ (200 < (nc : Int)) := by omega
  obtain ⟨a, ha⟩ : ∃ a, a = 1 + most % 9 := ⟨_, rfl⟩
  have ha1 : 1 ≤ a ∧ a ≤ 9 := by omega
  obtain ⟨o, ho⟩ : ∃ o, o = nn % (a + 1) := ⟨_, rfl⟩
  have ho1 : 0 ≤ o ∧ o ≤ a := by
    have h1 := Int.emod_nonneg nn (show a + 1 ≠ 0 by omega)
    have h2 := Int.emod_lt_of_pos nn (show 0 < a + 1 by omega)
    omega
  have hrb : rb ⟨11, o, a, 0⟩ 8 = true := decide_eq_true ⟨by omega, by omega, .inr (.inr (.inr (.inl ⟨rfl, by simp only; omega, by simp only; omega, by simp only; omega, by simp only; omega, rfl⟩)))⟩
  go_enter Tryd.func6, Tryd.ntmps6
  go_wp2_with fail
  refine (awake w hN).mono ?_
  rintro e w1 ⟨rfl, hb1⟩
  go_wp2_with fail
  rw [← ha, ← ho]
  clear ha ho
  have hb2 := (Below.refl w1.heap.size w1).alloc (Nat.le_refl _) (.cells #[.int .i64 11, .int .i64 o, .int .i64 a, .int .i64 0] 48)
  have X7 := heap_alloc_new w1 (.cells #[.int .i64 11, .int .i64 o, .int .i64 a, .int .i64 0] 48)
  have hO := objs1 (w1.alloc (.cells #[.int .i64 11, .int .i64 o, .int .i64 a, .int .i64 0] 48)) ⟨11, o, a, 0⟩
  have hs : (w1.alloc (.cells #[.int .i64 11, .int .i64 o, .int .i64 a, .int .i64 0] 48)).heap.size = w1.heap.size + 1 := by simp
  rw [hs] at hO
  have hb3 := hb2.alloc (by omega) (.cells #[.int .i64 11, .int .i64 o, .int .i64 a, .int .i64 0] 48)
  replace X7 := keep X7 ((Below.refl _ _).alloc (Nat.le_refl _) (.cells #[.int .i64 11, .int .i64 o, .int .i64 a, .int .i64 0] 48))
  have hal := hb1.trans (hb3.mono hb1.size)
  refine (new1 ⟨11, o, a, 0⟩ 8 hrb (by omega) _ 1 _ hO (hN.below hal)).mono ?_
  rintro e w3 ⟨bM, g, cap, rfl, hM, hgM, hzM, hbn⟩
  have hz7 : w1.heap.size < g := by simp at hzM; omega
  have hz : w.heap.size ≤ g := by have := hb1.size; omega
  replace X7 := keep X7 hbn
  replace hal := hal.trans (hbn.mono hal.size)
  obtain ⟨b7, hb7⟩ : ∃ b, b = w1.heap.size := ⟨_, rfl⟩
  rw [← hb7] at X7 hz7 ⊢
  clear hb1 hb2 hb3 hO hs hzM hbn hb7
  have y7 := cell_of_row w3 b7 1 _ 48 _ X7
  go_upto_region 10 with (fail)
  clear y7
  go_loopw [10, 11] (fun v u wr => ∃ (i : Nat) (h : Int), u = .int .i64 i ∧ v = .int .i64 h ∧ i ≤ nc ∧ 0 ≤ h ∧ h ≤ a ∧ Mac wr bM g 1 cap 8 (fun _ => { initS ⟨11, o, a, 0⟩ with count := h }) ∧ wr.heap[b7]? = some (.cells #[.int .i64 11, .int .i64 o, .int .i64 a, .int .i64 0] 48 (0, 0)) ∧ Below w.heap.size w wr) (fun _ u _ => nc - (intOf u).toNat)
  case atStart => exact ⟨0, o, rfl, rfl, Nat.zero_le _, ho1.1, ho1.2, hM, X7, hal⟩
  case round =>
    obtain ⟨i, h, rfl, rfl, hi, hh0, hha, hM, X7, hal⟩ := hrel
    have y71 := cell_of_row wr b7 2 _ 48 _ X7
    by_cases hlt : i < nc
    case neg =>
      obtain rfl : i = nc := by omega
      have hl1 : ¬ ((i : Int) < i) := by omega
      go_wp2
      go_ret
      exact ⟨rfl, hal⟩
    have hl0 : (0 : Int) ≤ i := by omega
    have hl1 : (i : Int) < nc := by omega
    obtain ⟨bV, oV, rfl⟩ := u8_ptr hV (by omega)
    clear y71
    obtain ⟨_, hx0, hx1⟩ := at_u8 (hV.below hal) hlt
    have hcV := fun w' (h' : Below wr.heap.size wr w') => (at_u8 ((hV.below hal).below h') hlt).1
    generalize f i = xv at *
    go_upto_region 12 with (fail)
    obtain ⟨d, u, e2, d1, d2, d3, d4, d5, hu0, hu1, he0, he1⟩ := ask_nums xv 2 8 2 ⟨hx0, hx1⟩ (by omega) (by omega) (by omega)
    obtain ⟨c, hc⟩ : ∃ c, IntKind.i64.wrap (1 + e2) = c := ⟨_, rfl⟩
    have hc' : c = 1 ∨ c = 2 := by rw [← hc]; simp only [IntKind.wrap_i64]; omega
    refine grow_head 15 (fun w' => Below wr.heap.size wr w') (by kernel_rfl) (by kernel_rfl) (by decide) (by kernel_rfl) ?_
    simp only [List.take_succ_cons, List.take_zero]
    refine g_run rfl ?_ (fun w' h' => ga_value ?_) (fun K hK => ?_)
    rotate_left
    · go_simp; try with_reducible rfl
    go_simp
    refine hK _ ?_
    clear hK K
    refine g_run rfl ?_ (fun w' h' => ga_value ?_) (fun K hK => ?_)
    rotate_left
    · go_simp; try with_reducible rfl
    go_simp
    refine hK _ ?_
    clear hK K
    refine g_run rfl ?_ (fun w' h' => ga_value ?_) (fun K hK => ?_)
    rotate_left
    · go_simp; try with_reducible rfl
    go_simp
    refine hK _ ?_
    clear hK K
    refine g_run rfl ?_ (fun w' h' => ga_value ?_) (fun K hK => ?_)
    rotate_left
    · have c := hcV w' h'; go_simp; try with_reducible rfl
    go_simp
    refine hK _ ?_
    clear hK K
    refine g_run rfl ?_ (fun w' h' => ga_value ?_) (fun K hK => ?_)
    rotate_left
    · go_simp; try with_reducible rfl
    go_simp
    refine hK _ ?_
    clear hK K
    refine g_run rfl ?_ (fun w' h' => ga_value ?_) (fun K hK => ?_)
    rotate_left
    · go_simp; try with_reducible rfl
    go_simp
    refine hK _ ?_
    clear hK K
    refine g_run rfl ?_ (fun w' h' => ga_value ?_) (fun K hK => ?_)
    rotate_left
    · go_simp; try with_reducible rfl
    go_simp
    refine hK _ ?_
    clear hK K
    refine g_run rfl ?_ (fun w' h' => ga_value ?_) (fun K hK => ?_)
    rotate_left
    · go_simp; try with_reducible rfl
    go_simp
    refine hK _ ?_
    clear hK K
    refine g_run rfl ?_ (fun w' h' => ga_value ?_) (fun K hK => ?_)
    rotate_left
    · go_simp; try with_reducible rfl
    go_simp
    refine hK _ ?_
    clear hK K
    refine g_run rfl ?_ (fun w' h' => ga_value ?_) (fun K hK => ?_)
    rotate_left
    · go_simp; try with_reducible rfl
    go_simp
    refine hK _ ?_
    clear hK K
    refine g_run rfl ?_ (fun w' h' => ga_value ?_) (fun K hK => ?_)
    rotate_left
    · have c := hcV w' h'; go_simp; try with_reducible rfl
    go_simp
    refine hK _ ?_
    clear hK K
    refine g_run rfl ?_ (fun w' h' => ga_value ?_) (fun K hK => ?_)
    rotate_left
    · go_simp; try with_reducible rfl
    go_simp
    refine hK _ ?_
    clear hK K
    refine g_run rfl ?_ (fun w' h' => ga_value ?_) (fun K hK => ?_)
    rotate_left
    · go_simp; try with_reducible rfl
    go_simp
    refine hK _ ?_
    clear hK K
    refine g_run rfl ?_ (fun w' h' => ga_value ?_) (fun K hK => ?_)
    rotate_left
    · go_simp; try with_reducible rfl
    go_simp
    refine hK _ ?_
    clear hK K
    refine g_run rfl ?_ (fun w' h' => ga_value ?_) (fun K hK => ?_)
    rotate_left
    · go_simp; try with_reducible rfl
    go_simp
    refine hK _ ?_
    clear hK K
    refine g_nil ?_
    show anyG _ _ _ _ _ _ _ _ _
    have q0 : Below wr.heap.size wr wr.drew := Below.drew (Below.refl _ _)
    refine anyG_ready [15] (by kernel_rfl) (by simp) (fun v1 r1 => ⟨q0.trans (r1.mono q0.size), ?_⟩)
    have q1 := q0.trans (r1.mono q0.size)
    intro j hj
    simp only [List.mem_cons, List.not_mem_nil, or_false] at hj
    subst hj
    refine op_alloc rfl rfl 34 rfl (.agg #[.int .i64 0, .int .i64 0, .int .i64 0, .int .i64 0, .int .u32 0, .int .u32 0]) #[.int .i64 0, .int .i64 0, .int .i64 0, .int .i64 0, .int .u32 0, .int .u32 0] (fun w => by kernel_rfl) rfl (fun v2 b12 X12 l1 f1 => ?_)
    have zb : wr.heap.size ≤ b12 := by have := q1.size; have := f1.out; omega
    have q2 := q1.trans (l1.mono q1.size)
    refine anyG_ready [16] (by kernel_rfl) (by simp) (fun v3 r3 => ⟨q2.trans (r3.mono q2.size), ?_⟩)
    have q3 := q2.trans (r3.mono q2.size)
    replace X12 := keep X12 r3
    intro j hj
    simp only [List.mem_cons, List.not_mem_nil, or_false] at hj
    subst hj
    refine op_store rfl rfl 34 (.tmp 12) (.tmp 69) rfl b12 #[.int .i64 u, .int .i64 0, .int .i64 c, .int .i64 0, .int .u32 0, .int .u32 0] rfl rfl 34 _ X12 (by kernel_rfl) rfl (by simp [Value.oneCell']) (fun v4 p1 m1 p2 => ?_)
    have q4 := q3.trans (p2 _ zb)
    refine anyG_end (by kernel_rfl) (fun w5 r5 => ⟨q4.trans (r5.mono q4.size), ?_⟩)
    have hbg := q4.trans (r5.mono q4.size)
    replace X12 := keep p1 r5
    clear q0 q1 q2 q3 q4 l1 f1 r1 r3 r5 p1 p2 m1 zb
    clear d1 d2 d3 d4 d5 hc hcV hx0 hx1
    replace X7 := keep X7 hbg
    replace hM := hM.below hbg
    replace hal := hal.trans (hbg.mono hal.size)
    have hn7 : b7 ≠ g := by omega
    have hn12 : b12 ≠ g := by intro e; subst e; obtain ⟨cs, h5, _⟩ := hM.row; rw [h5] at X12; simp at X12
    clear hbg
    have hmay : mayS ⟨11, o, a, 0⟩ c 8 u = true := by
      unfold mayS
      rw [if_pos ⟨hu0, hu1, hrb⟩]
      show may 11 c = true
      rcases hc' with rfl | rfl <;> decide
    have hgo : goP 8 { initS ⟨11, o, a, 0⟩ with count := h } ⟨u, 0, c, 0, 0, 0⟩ = semP { initS ⟨11, o, a, 0⟩ with count := h } ⟨u, 0, c, 0, 0, 0⟩ := go11 rfl hmay rfl
    clear hmay hrb
    go_upto_region 13 with (fail)
    rcases hc' with rfl | rfl
    · by_cases hh : h = 0
      · subst hh
        replace hgo : goP 8 { initS ⟨11, o, a, 0⟩ with count := 0 } ⟨u, 0, 1, 0, 0, 0⟩ = ⟨{ initS ⟨11, o, a, 0⟩ with count := 0 }, 0, false⟩ := by rw [hgo]; simp [semP]
        refine wp_region_lit ?_
        iterate 1
          refine wl_val rfl ?_ ?_ ?_
          rotate_left
          · go_simp; try with_reducible rfl
          intro K hK
          go_simp
          refine hK _ _ ?_
          clear hK K
        refine wl_load rfl 34 (.tmp 12) rfl _ rfl _ _ _ _ X12 Tryd.underlying34 rfl (by kernel_rfl) ?_
        intro K hK
        go_simp
        refine hK _ _ ?_
        clear hK K
        have hcall := do1 ({ initS ⟨11, o, a, 0⟩ with count := 0 }) bM g cap 8 (by omega) ⟨u, 0, 1, 0, 0, 0⟩ rfl (by simp) (by simp [initS]) w5 hM
        rw [hgo] at hcall
        refine wl_call rfl 14 #[.pointer (some ⟨bM, 0, none⟩), akV ⟨u, 0, 1, 0, 0, 0⟩] (ansV 0 none 0 0 false) _ ?_ hcall (fun w6 h6 => ?_)
        · unfold akV akC; first | (go_simp; done) | (go_simp; rfl)
        intro K hK
        go_simp
        refine hK _ _ ?_
        clear hK K
        clear hcall
        unfold ansV
        obtain ⟨hM6, hE6⟩ := h6
        simp only at hM6
        iterate 3
          refine wl_val rfl ?_ ?_ ?_
          rotate_left
          · go_simp; try with_reducible rfl
          intro K hK
          go_simp
          refine hK _ _ ?_
          clear hK K
        refine wl_alloc rfl 38 rfl (.agg #[.int .u32 0, .slice none 0 0]) #[.int .u32 0, .slice none 0 0] (fun w => by kernel_rfl) rfl (fun w7 b13 X13 l7 f7 => ?_)
        intro K hK
        go_simp
        refine hK _ _ ?_
        clear hK K
        refine wl_store rfl 38 (.tmp 13) (.tmp 74) rfl b13 #[.int .u32 0, .slice none 0 0] rfl rfl 38 _ X13 (by kernel_rfl) rfl (by simp [Value.oneCell']) (fun w8 k1 k2 k3 k4 => ?_)
        intro K hK
        go_simp
        refine hK _ _ ?_
        clear hK K
        refine wl_val rfl (.bool false) ?_ ?_
        · go_simp
        intro K hK
        go_simp
        refine hK _ _ ?_
        clear hK K
        have hb8 : Below w6.heap.size w6 w8 := l7.trans (k3 _ (by simp only [Hid] at f7; omega))
        clear X13 l7 f7 k2 k3 k4
        replace X7 := keep ((hE6.blk b7 (blk_lt X7) hn7).trans X7) hb8
        replace X12 := keep ((hE6.blk b12 (blk_lt X12) hn12).trans X12) hb8
        have hM8 := hM6.below hb8
        replace hal := hal.trans (hE6.low _ hz hal.size)
        replace hal := hal.trans (hb8.mono hal.size)
        clear hM6 hE6 hb8 hM hgo
        have y12 := cell_of_row w8 b12 2 _ 34 _ X12
        have y13 := cell_of_row w8 b13 0 _ 38 _ k1
        have y7 := cell_of_row w8 b7 2 _ 48 _ X7
        go_wp2
        go_roundw
        case rel => exact ⟨i + 1, 0, by go_num, rfl, by omega, by omega, by omega, hM8, X7, hal⟩
        case measure => simp [intOf]; omega
      · have hwr : IntKind.i64.wrap (h - 1) = h - 1 := by simp only [IntKind.wrap_i64]; omega
        have hpos : 0 < h := by omega
        replace hgo : goP 8 { initS ⟨11, o, a, 0⟩ with count := h } ⟨u, 0, 1, 0, 0, 0⟩ = ⟨{ initS ⟨11, o, a, 0⟩ with count := h - 1 }, 0, true⟩ := by rw [hgo]; simp [semP, hh, hwr]
        refine wp_region_lit ?_
        iterate 1
          refine wl_val rfl ?_ ?_ ?_
          rotate_left
          · go_simp; try with_reducible rfl
          intro K hK
          go_simp
          refine hK _ _ ?_
          clear hK K
        refine wl_load rfl 34 (.tmp 12) rfl _ rfl _ _ _ _ X12 Tryd.underlying34 rfl (by kernel_rfl) ?_
        intro K hK
        go_simp
        refine hK _ _ ?_
        clear hK K
        have hcall := do1 ({ initS ⟨11, o, a, 0⟩ with count := h }) bM g cap 8 (by omega) ⟨u, 0, 1, 0, 0, 0⟩ rfl (by simp) (by simp [initS]) w5 hM
        rw [hgo] at hcall
        refine wl_call rfl 14 #[.pointer (some ⟨bM, 0, none⟩), akV ⟨u, 0, 1, 0, 0, 0⟩] (ansV 0 none 0 0 true) _ ?_ hcall (fun w6 h6 => ?_)
        · unfold akV akC; first | (go_simp; done) | (go_simp; rfl)
        intro K hK
        go_simp
        refine hK _ _ ?_
        clear hK K
        clear hcall
        unfold ansV
        obtain ⟨hM6, hE6⟩ := h6
        simp only at hM6
        iterate 3
          refine wl_val rfl ?_ ?_ ?_
          rotate_left
          · go_simp; try with_reducible rfl
          intro K hK
          go_simp
          refine hK _ _ ?_
          clear hK K
        refine wl_alloc rfl 38 rfl (.agg #[.int .u32 0, .slice none 0 0]) #[.int .u32 0, .slice none 0 0] (fun w => by kernel_rfl) rfl (fun w7 b13 X13 l7 f7 => ?_)
        intro K hK
        go_simp
        refine hK _ _ ?_
        clear hK K
        refine wl_store rfl 38 (.tmp 13) (.tmp 74) rfl b13 #[.int .u32 0, .slice none 0 0] rfl rfl 38 _ X13 (by kernel_rfl) rfl (by simp [Value.oneCell']) (fun w8 k1 k2 k3 k4 => ?_)
        intro K hK
        go_simp
        refine hK _ _ ?_
        clear hK K
        refine wl_val rfl (.bool true) ?_ ?_
        · go_simp
        intro K hK
        go_simp
        refine hK _ _ ?_
        clear hK K
        have hb8 : Below w6.heap.size w6 w8 := l7.trans (k3 _ (by simp only [Hid] at f7; omega))
        clear X13 l7 f7 k2 k3 k4
        replace X7 := keep ((hE6.blk b7 (blk_lt X7) hn7).trans X7) hb8
        replace X12 := keep ((hE6.blk b12 (blk_lt X12) hn12).trans X12) hb8
        have hM8 := hM6.below hb8
        replace hal := hal.trans (hE6.low _ hz hal.size)
        replace hal := hal.trans (hb8.mono hal.size)
        clear hM6 hE6 hb8 hM hgo
        have y12 := cell_of_row w8 b12 2 _ 34 _ X12
        have y13 := cell_of_row w8 b13 0 _ 38 _ k1
        have y7 := cell_of_row w8 b7 2 _ 48 _ X7
        go_wp2
        go_roundw
        case rel => exact ⟨i + 1, h - 1, by go_num, rfl, by omega, by omega, by omega, hM8, X7, hal⟩
        case measure => simp [intOf]; omega
    · by_cases hh : h = a
      · subst hh
        replace hgo : goP 8 { initS ⟨11, o, h, 0⟩ with count := h } ⟨u, 0, 2, 0, 0, 0⟩ = ⟨{ initS ⟨11, o, h, 0⟩ with count := h }, 3, true⟩ := by rw [hgo]; simp [semP, initS]
        refine wp_region_lit ?_
        iterate 1
          refine wl_val rfl ?_ ?_ ?_
          rotate_left
          · go_simp; try with_reducible rfl
          intro K hK
          go_simp
          refine hK _ _ ?_
          clear hK K
        refine wl_load rfl 34 (.tmp 12) rfl _ rfl _ _ _ _ X12 Tryd.underlying34 rfl (by kernel_rfl) ?_
        intro K hK
        go_simp
        refine hK _ _ ?_
        clear hK K
        have hcall := do1 ({ initS ⟨11, o, h, 0⟩ with count := h }) bM g cap 8 (by omega) ⟨u, 0, 2, 0, 0, 0⟩ rfl (by simp) (by simp [initS]) w5 hM
        rw [hgo] at hcall
        refine wl_call rfl 14 #[.pointer (some ⟨bM, 0, none⟩), akV ⟨u, 0, 2, 0, 0, 0⟩] (ansV 3 none 0 0 true) _ ?_ hcall (fun w6 h6 => ?_)
        · unfold akV akC; first | (go_simp; done) | (go_simp; rfl)
        intro K hK
        go_simp
        refine hK _ _ ?_
        clear hK K
        clear hcall
        unfold ansV
        obtain ⟨hM6, hE6⟩ := h6
        simp only at hM6
        iterate 3
          refine wl_val rfl ?_ ?_ ?_
          rotate_left
          · go_simp; try with_reducible rfl
          intro K hK
          go_simp
          refine hK _ _ ?_
          clear hK K
        refine wl_alloc rfl 38 rfl (.agg #[.int .u32 0, .slice none 0 0]) #[.int .u32 0, .slice none 0 0] (fun w => by kernel_rfl) rfl (fun w7 b13 X13 l7 f7 => ?_)
        intro K hK
        go_simp
        refine hK _ _ ?_
        clear hK K
        refine wl_store rfl 38 (.tmp 13) (.tmp 74) rfl b13 #[.int .u32 3, .slice none 0 0] rfl rfl 38 _ X13 (by kernel_rfl) rfl (by simp [Value.oneCell']) (fun w8 k1 k2 k3 k4 => ?_)
        intro K hK
        go_simp
        refine hK _ _ ?_
        clear hK K
        refine wl_val rfl (.bool true) ?_ ?_
        · go_simp
        intro K hK
        go_simp
        refine hK _ _ ?_
        clear hK K
        have hb8 : Below w6.heap.size w6 w8 := l7.trans (k3 _ (by simp only [Hid] at f7; omega))
        clear X13 l7 f7 k2 k3 k4
        replace X7 := keep ((hE6.blk b7 (blk_lt X7) hn7).trans X7) hb8
        replace X12 := keep ((hE6.blk b12 (blk_lt X12) hn12).trans X12) hb8
        have hM8 := hM6.below hb8
        replace hal := hal.trans (hE6.low _ hz hal.size)
        replace hal := hal.trans (hb8.mono hal.size)
        clear hM6 hE6 hb8 hM hgo
        have y12 := cell_of_row w8 b12 2 _ 34 _ X12
        have y13 := cell_of_row w8 b13 0 _ 38 _ k1
        have y7 := cell_of_row w8 b7 2 _ 48 _ X7
        go_wp2
        go_roundw
        case rel => exact ⟨i + 1, h, by go_num, rfl, by omega, by omega, by omega, hM8, X7, hal⟩
        case measure => simp [intOf]; omega
      · have hwr : IntKind.i64.wrap (h + 1) = h + 1 := by simp only [IntKind.wrap_i64]; omega
        have hlta : h < a := by omega
        replace hgo : goP 8 { initS ⟨11, o, a, 0⟩ with count := h } ⟨u, 0, 2, 0, 0, 0⟩ = ⟨{ initS ⟨11, o, a, 0⟩ with count := h + 1 }, 0, true⟩ := by rw [hgo]; simp [semP, initS, hh, hwr]
        refine wp_region_lit ?_
        iterate 1
          refine wl_val rfl ?_ ?_ ?_
          rotate_left
          · go_simp; try with_reducible rfl
          intro K hK
          go_simp
          refine hK _ _ ?_
          clear hK K
        refine wl_load rfl 34 (.tmp 12) rfl _ rfl _ _ _ _ X12 Tryd.underlying34 rfl (by kernel_rfl) ?_
        intro K hK
        go_simp
        refine hK _ _ ?_
        clear hK K
        have hcall := do1 ({ initS ⟨11, o, a, 0⟩ with count := h }) bM g cap 8 (by omega) ⟨u, 0, 2, 0, 0, 0⟩ rfl (by simp) (by simp [initS]) w5 hM
        rw [hgo] at hcall
        refine wl_call rfl 14 #[.pointer (some ⟨bM, 0, none⟩), akV ⟨u, 0, 2, 0, 0, 0⟩] (ansV 0 none 0 0 true) _ ?_ hcall (fun w6 h6 => ?_)
        · unfold akV akC; first | (go_simp; done) | (go_simp; rfl)
        intro K hK
        go_simp
        refine hK _ _ ?_
        clear hK K
        clear hcall
        unfold ansV
        obtain ⟨hM6, hE6⟩ := h6
        simp only at hM6
        iterate 3
          refine wl_val rfl ?_ ?_ ?_
          rotate_left
          · go_simp; try with_reducible rfl
          intro K hK
          go_simp
          refine hK _ _ ?_
          clear hK K
        refine wl_alloc rfl 38 rfl (.agg #[.int .u32 0, .slice none 0 0]) #[.int .u32 0, .slice none 0 0] (fun w => by kernel_rfl) rfl (fun w7 b13 X13 l7 f7 => ?_)
        intro K hK
        go_simp
        refine hK _ _ ?_
        clear hK K
        refine wl_store rfl 38 (.tmp 13) (.tmp 74) rfl b13 #[.int .u32 0, .slice none 0 0] rfl rfl 38 _ X13 (by kernel_rfl) rfl (by simp [Value.oneCell']) (fun w8 k1 k2 k3 k4 => ?_)
        intro K hK
        go_simp
        refine hK _ _ ?_
        clear hK K
        refine wl_val rfl (.bool true) ?_ ?_
        · go_simp
        intro K hK
        go_simp
        refine hK _ _ ?_
        clear hK K
        have hb8 : Below w6.heap.size w6 w8 := l7.trans (k3 _ (by simp only [Hid] at f7; omega))
        clear X13 l7 f7 k2 k3 k4
        replace X7 := keep ((hE6.blk b7 (blk_lt X7) hn7).trans X7) hb8
        replace X12 := keep ((hE6.blk b12 (blk_lt X12) hn12).trans X12) hb8
        have hM8 := hM6.below hb8
        replace hal := hal.trans (hE6.low _ hz hal.size)
        replace hal := hal.trans (hb8.mono hal.size)
        clear hM6 hE6 hb8 hM hgo
        have y12 := cell_of_row w8 b12 2 _ 34 _ X12
        have y13 := cell_of_row w8 b13 0 _ 38 _ k1
        have y7 := cell_of_row w8 b7 2 _ 48 _ X7
        go_wp2
        go_roundw
        case rel => exact ⟨i + 1, h + 1, by go_num, rfl, by omega, by omega, by omega, hM8, X7, hal⟩
        case measure => simp [intOf]; omega
end Go.Proofs.YtobkonbpcnmgpaaDoor
